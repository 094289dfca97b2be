/- gleanref1.MulDiv, Pow10; gleanref2.One, OfNat, Of, Zero, Cmp; gleanref10. -/
import Derived.Test.YtpfhifjkecoahaaGreatDoorRef8
import Derived.Test.YtpfhifjkecoahaaGreatDoorPow10
import Derived.Test.YtpfhifjkecoahaaGreatDoorDSub
import Derived.Test.YtpfhifjkecoahaaGreatDoorShare3
namespace Go.Proofs.YtpfhifjkecoahaaGreatDoor
open Go.RowKit

set_option maxHeartbeats 1000000 in
set_option maxRecDepth 100000 in
theorem rmuldiv_calls {a b e : Option Addr} {m n l c d f : Nat} {xs ys zs : List Nat} {w : World} (ha : Sl w a m c xs) (hb : Sl w b n d ys) (he : Sl w e l f zs) (hm : m ≤ 10000000) (hn : n ≤ 10000000) (hl : l ≤ 10000000) :
    Calls Tryz.prog 30 #[.slice a m c, .slice b n d, .slice e l f] w (DivRes w (4 * m + 4 * n + 2 * l) (quoL (val xs * val ys) (val zs)) (remL (val xs * val ys) (val zs)) (divE (val zs))) := by
  have CM := Lib.hid (rmul_calls ha hb (by omega) (by omega))
  have HE := Lib.hid he
  clear ha hb he
  go_enter Tryz.func30, Tryz.ntmps30
  go_wp2_with fail
  refine CM.out.mono ?_
  rintro e w1 ⟨o1, n1, c1, rfl, hown1, hext1, hno1⟩
  have CD := rdivmod_calls hown1.sl (HE.out.old hext1) (by omega) (by omega)
  rw [val_lim] at CD
  have HCD := Lib.hid CD; have HE1 := Lib.hid hext1
  clear CD hown1 hext1
  go_wp2_with fail
  refine HCD.out.mono ?_
  rintro e w2 ⟨a1, c1, L1, a2, c2, L2, rfl, hw1, hw2, hext2, h1, h2, h3⟩
  go_wp2_with fail
  go_ret3
  have hs := HE1.out.size
  exact ⟨a1, c1, L1, a2, c2, L2, rfl, hw1.mono hs, hw2.mono hs, HE1.out.trans hext2, by omega, by omega, h3⟩

/-- How long a power of ten is. -/
theorem pow_limbs {k : Nat} (h : k ≤ 4096) : (lim (10 ^ k)).length ≤ 426 := p10_cap (p10_le h)

def RP9Rel (w : World) (N : Nat) (iv ov : Value) (wr : World) : Prop :=
  ∃ (m k : Nat) (o : Option Addr) (n c : Nat), iv = .int .i64 (m : Int) ∧ ov = .slice o n c ∧ k + m = N ∧ Own w.heap.size wr o n c (lim (10 ^ k)) ∧ Ext w wr

set_option maxHeartbeats 4000000 in
set_option maxRecDepth 100000 in
theorem rpow_calls (N : Nat) (hN : N ≤ 4096) (w : World) : Calls Tryz.prog 32 #[.int .i64 (N : Int)] w (New2 w 1000 (lim (10 ^ N)) 0) := by
  have h1 : ¬ ((N : Int) < 0) := by omega
  have h2 : ¬ (4096 < (N : Int)) := by omega
  go_enter Tryz.func32, Tryz.ntmps32
  go_wp2_with fail
  refine (rof_calls 1 (by decide) _).mono ?_
  rintro e w1 ⟨o1, n1, c1, rfl, hown1, hext1, hno1⟩
  have HO1 := Lib.hid hown1; have HE1 := Lib.hid hext1
  clear hown1 hext1
  go_wp2_with fail
  go_loopw [0, 4] (fun iv ov wr => RP9Rel w N iv ov wr) (fun iv _ _ => (intOf iv).toNat)
  case atStart => exact ⟨N, 0, o1, n1, c1, rfl, rfl, by omega, by rw [Nat.pow_zero]; exact HO1.out, HE1.out⟩
  case round =>
    obtain ⟨m, k, o, n, c, rfl, rfl, hk, hown, hex⟩ := hrel
    have HO := Lib.hid hown; have HE := Lib.hid hex
    have hl : n ≤ 426 := by rw [← hown.sl.len]; exact pow_limbs (by omega)
    clear hown hex
    by_cases h9 : 9 ≤ m
    · have g1 : (9 : Int) ≤ (m : Int) := by omega
      obtain ⟨m', hm'⟩ : ∃ x, m - 9 = x := ⟨_, rfl⟩
      have v1 : IntKind.i64.wrap ((m : Int) - 9) = (m' : Int) := by
        rw [show ((m : Int) - 9) = (m' : Int) by omega]; exact IntWalk.i64_in _ (by omega)
      have HM := Lib.hid (show m' + 9 = m by omega)
      clear hm' h9
      go_wp2_with fail
      refine (rof_calls 1000000000 (by decide) _).mono ?_
      rintro e w2 ⟨o2, n2, c2, rfl, hown2, hext2, hno2⟩
      have CM := rmul_calls (HO.out.sl.old hext2) hown2.sl (by omega) (by omega)
      rw [val_lim, val_lim] at CM
      have HCM := Lib.hid CM; have HE2 := Lib.hid hext2
      clear CM hown2 hext2
      go_wp2_with fail
      refine HCM.out.mono ?_
      rintro e w3 ⟨o3, n3, c3, rfl, hown3, hext3, hno3⟩
      have HO3 := Lib.hid hown3; have HE3 := Lib.hid hext3
      clear hown3 hext3
      go_wp2_with fail
      go_roundw
      case rel =>
        have hh := HM.out
        have hs := HE.out.size; have hs2 := HE2.out.size
        exact ⟨m', k + 9, o3, n3, c3, rfl, rfl, by omega, by rw [Nat.pow_add]; exact HO3.out.mono (by omega), (HE.out.trans HE2.out).trans HE3.out⟩
      case measure => have hh := HM.out; simp [intOf]; omega
    · have g1 : ¬ (9 : Int) ≤ (m : Int) := by omega
      clear h9
      go_wp2_with fail
      go_loopw [0, 4] (fun iv ov wr => RP9Rel w N iv ov wr) (fun iv _ _ => (intOf iv).toNat)
      case atStart => exact ⟨m, k, o, n, c, rfl, rfl, hk, HO.out, HE.out⟩
      case round =>
        obtain ⟨m, k, o, n, c, rfl, rfl, hk, hown, hex⟩ := hrel
        have HO := Lib.hid hown; have HE := Lib.hid hex
        have hl : n ≤ 426 := by rw [← hown.sl.len]; exact pow_limbs (by omega)
        clear hown hex g1
        by_cases h0 : 0 < m
        · have g1 : (0 : Int) < (m : Int) := by omega
          obtain ⟨m', hm'⟩ : ∃ x, m - 1 = x := ⟨_, rfl⟩
          have v1 : IntKind.i64.wrap ((m : Int) - 1) = (m' : Int) := by
            rw [show ((m : Int) - 1) = (m' : Int) by omega]; exact IntWalk.i64_in _ (by omega)
          have HM := Lib.hid (show m' + 1 = m by omega)
          clear hm' h0
          go_wp2_with fail
          refine (rof_calls 10 (by decide) _).mono ?_
          rintro e w2 ⟨o2, n2, c2, rfl, hown2, hext2, hno2⟩
          have CM := rmul_calls (HO.out.sl.old hext2) hown2.sl (by omega) (by omega)
          rw [val_lim, val_lim] at CM
          have HCM := Lib.hid CM; have HE2 := Lib.hid hext2
          clear CM hown2 hext2
          go_wp2_with fail
          refine HCM.out.mono ?_
          rintro e w3 ⟨o3, n3, c3, rfl, hown3, hext3, hno3⟩
          have HO3 := Lib.hid hown3; have HE3 := Lib.hid hext3
          clear hown3 hext3
          go_wp2_with fail
          go_roundw
          case rel =>
            have hh := HM.out
            have hs := HE.out.size; have hs2 := HE2.out.size
            exact ⟨m', k + 1, o3, n3, c3, rfl, rfl, by omega, by rw [Nat.pow_succ]; exact HO3.out.mono (by omega), (HE.out.trans HE2.out).trans HE3.out⟩
          case measure => have hh := HM.out; simp [intOf]; omega
        · obtain rfl : m = 0 := by omega
          obtain rfl : k = N := by omega
          clear h0
          go_wp2_with fail
          go_ret2
          exact ⟨o, n, c, rfl, HO.out, HE.out, by omega⟩

set_option maxRecDepth 100000 in
theorem rone_calls (w : World) : Calls Tryz.prog 41 #[] w (New w 2 (lim U36)) := by
  go_enter Tryz.func41, Tryz.ntmps41
  go_wp2_with fail
  refine (rpow_calls 36 (by omega) _).mono ?_
  rintro e w1 ⟨o1, n1, c1, rfl, hown1, hext1, hno1⟩
  go_wp2_with fail
  go_ret
  have hl := hown1.sl.len
  rw [show lim (10 ^ 36) = lim U36 from rfl] at hown1 hl
  rw [lim_unit] at hl
  simp at hl
  exact ⟨o1, n1, c1, rfl, hown1, hext1, by omega⟩

set_option maxHeartbeats 1000000 in
set_option maxRecDepth 100000 in
theorem rdofnat_calls {a : Option Addr} {n c : Nat} {xs : List Nat} {w : World} (h : Sl w a n c xs) (hn : n ≤ 100000000) :
    Calls Tryz.prog 57 #[.slice a n c] w (NewD w (2 * n + 4) (lim (val xs * U36))) := by
  go_enter Tryz.func57, Tryz.ntmps57
  go_wp2_with fail
  refine (rone_calls _).mono ?_
  rintro e w1 ⟨o, no, co, rfl, hown, hext, hno⟩
  have E0 := (Ext.refl w).alloc (.cells #[.slice none 0 0] 26)
  go_wp2_with fail
  refine (rmul_calls ((h.old E0).old hext) hown.sl (by omega) (by omega)).mono ?_
  rintro e w2 ⟨o2, no2, co2, rfl, hown2, hext2, hno2⟩
  have E2 := hext.trans hext2
  have k1 := box_cell E2
  have k2 := box_free E2
  go_wp2_with fail
  try simp only [Exit.inBlock, Exit.then]
  refine bodyPost_ret (results_box1 rfl _ _ _ _ rfl (load_dec (box_row E2 _))) rfl ?_
  rw [val_lim] at hown2
  have hs := hext.size
  rw [alloc_size] at hs
  exact ⟨o2, no2, co2, rfl, (hown2.box _ (by omega)).mono (by omega), box_store _ (E0.trans E2) (Nat.le_refl _), by omega⟩

set_option maxHeartbeats 1000000 in
set_option maxRecDepth 100000 in
theorem rdof_calls (x : Nat) (hx : x < B64) (w : World) : Calls Tryz.prog 29 #[.int .u64 (x : Int)] w (NewD w 8 (lim (x * U36))) := by
  have HX := Lib.hid hx
  clear hx
  go_enter Tryz.func29, Tryz.ntmps29
  go_wp2_with fail
  refine (rof_calls x HX.out _).mono ?_
  rintro e w1 ⟨o, no, co, rfl, hown, hext, hno⟩
  have E0 := (Ext.refl w).alloc (.cells #[.slice none 0 0] 26)
  go_wp2_with fail
  refine (rdofnat_calls hown.sl (by omega)).mono ?_
  rintro e w2 ⟨o2, no2, co2, rfl, hown2, hext2, hno2⟩
  have E2 := hext.trans hext2
  have k1 := box_cell E2
  have k2 := box_free E2
  go_wp2_with fail
  try simp only [Exit.inBlock, Exit.then]
  refine bodyPost_ret (results_box1 rfl _ _ _ _ rfl (load_dec (box_row E2 _))) rfl ?_
  rw [val_lim] at hown2
  have hs := hext.size
  rw [alloc_size] at hs
  exact ⟨o2, no2, co2, rfl, (hown2.box _ (by omega)).mono (by omega), box_store _ (E0.trans E2) (Nat.le_refl _), by omega⟩

set_option maxHeartbeats 1000000 in
set_option maxRecDepth 100000 in
theorem rdzero_calls {a : Option Addr} {n c : Nat} {xs : List Nat} {w : World} (h : Sl w a n c xs) (hn : n ≤ 1000000000) :
    Calls Tryz.prog 28 #[DecV a n c] w (RetE (.bool (decide (val xs = 0))) w) := by
  have E := (Ext.refl w).alloc (.cells #[.slice a n c] 26)
  have CN := Lib.hid (rnorm_calls (h.old E) hn)
  go_enter Tryz.func28, Tryz.ntmps28
  go_wp2_with fail
  refine CN.out.mono ?_
  rintro e w1 ⟨o, no, co, rfl, hown, hext, hno⟩
  have hl := hown.sl.len
  obtain ⟨q, hq⟩ : ∃ q, ((no : Int) == 0) = q := ⟨_, rfl⟩
  have hz : decide (val xs = 0) = q := by
    rw [← hq]
    by_cases h0 : val xs = 0
    · rw [decide_eq_true h0]
      have : no = 0 := by rw [← hl, h0]; rfl
      rw [this]; rfl
    · rw [decide_eq_false h0]
      have : no ≠ 0 := fun h1 => h0 ((digs_nil B64_two).1 (List.eq_nil_of_length_eq_zero (hl.trans h1)))
      symm
      rw [beq_eq_false_iff_ne]; omega
  go_wp2_with fail
  go_ret
  exact ⟨by rw [hz]; rfl, E.trans hext⟩

set_option maxHeartbeats 1000000 in
set_option maxRecDepth 100000 in
theorem rddcmp_calls {a b : Option Addr} {m n c d : Nat} {xs ys : List Nat} {w : World} (ha : Sl w a m c xs) (hb : Sl w b n d ys) (hm : m ≤ 400000000) (hn : n ≤ 400000000) :
    Calls Tryz.prog 37 #[DecV a m c, DecV b n d] w (RetE (.int .i64 (cmpN (val xs) (val ys))) w) := by
  have E := ((Ext.refl w).alloc (.cells #[.slice a m c] 26)).alloc (.cells #[.slice b n d] 26)
  have CB := Lib.hid (rCmp_calls (ha.old E) (hb.old E) (by omega) (by omega))
  go_enter Tryz.func37, Tryz.ntmps37
  go_wp2_with fail
  refine CB.out.mono ?_
  rintro e w' ⟨rfl, hext⟩
  go_wp2_with fail
  go_ret
  exact ⟨rfl, E.trans hext⟩

end Go.Proofs.YtpfhifjkecoahaaGreatDoor
namespace Go.Proofs.YtpfhifjkecoahaaGreatDoor
open Go.RowKit

theorem rmuldiv_at {a b e : Option Addr} {m n l c d f : Nat} {xs ys zs : List Nat} {w : World} (X Y Z : Nat) (ha : Sl w a m c xs) (hb : Sl w b n d ys) (he : Sl w e l f zs) (hx : val xs = X) (hy : val ys = Y) (hz : val zs = Z)
    (hZ : Z ≠ 0) (hm : m ≤ 10000000) (hn : n ≤ 10000000) (hl : l ≤ 10000000) :
    Calls Tryz.prog 30 #[.slice a m c, .slice b n d, .slice e l f] w (DivRes w (4 * m + 4 * n + 2 * l) (lim (X * Y / Z)) (lim (X * Y % Z)) 0) := by
  have := rmuldiv_calls ha hb he hm hn hl
  rw [hx, hy, hz] at this
  unfold quoL remL divE at this
  rwa [if_neg hZ, if_neg hZ, if_neg hZ] at this

set_option maxHeartbeats 1000000 in
set_option maxRecDepth 100000 in
theorem rcut_calls (n p : Nat) (hn : n < B64) (hp : p < B64) (w : World) :
    Calls Tryz.prog 17 #[.int .u64 (n : Int), .int .u64 (p : Int)] w (RetE (.int .u64 (n * min p 10000 / 10000 : Nat)) w) := by
  have hq : min p 10000 < B64 := by rw [B64_eq] at *; omega
  have HN := Lib.hid hn
  have HQ := Lib.hid hq
  have HCUT := Lib.hid (cut_lt (p := p) hn)
  have hmin : (min (p : Int) 10000) = ((min p 10000 : Nat) : Int) := by omega
  generalize min p 10000 = q at *
  clear hn hp hq
  go_enter Tryz.func17, Tryz.ntmps17
  go_wp2_with fail
  refine (rof_calls n HN.out _).mono ?_
  rintro e w1 ⟨o1, n1, c1, rfl, hown1, hext1, hno1⟩
  go_wp2_with fail
  refine (rof_calls q HQ.out _).mono ?_
  rintro e w2 ⟨o2, n2, c2, rfl, hown2, hext2, hno2⟩
  go_wp2_with fail
  refine (rof_calls 10000 (by decide) _).mono ?_
  rintro e w3 ⟨o3, n3, c3, rfl, hown3, hext3, hno3⟩
  have HCM := Lib.hid (rmuldiv_at n q 10000 ((hown1.sl.old hext2).old hext3) (hown2.sl.old hext3) hown3.sl (val_lim _) (val_lim _) (val_lim _) (by decide) (by omega) (by omega) (by omega))
  go_wp2_with fail
  refine HCM.out.mono ?_
  rintro e w4 ⟨a1, d1, L1, a2, d2, L2, rfl, hown4, hown5, hext4, hl1, -⟩
  have CS := rsmall_calls hown4.sl (by omega) (by rw [val_lim]; exact HCUT.out)
  rw [val_lim] at CS
  have HCS := Lib.hid CS
  clear CS
  go_wp2_with fail
  refine HCS.out.mono ?_
  rintro e w5 ⟨rfl, hext5⟩
  go_wp2_with fail
  go_ret
  exact ⟨rfl, (((hext1.trans hext2).trans hext3).trans hext4).trans hext5⟩

set_option maxHeartbeats 4000000 in
set_option maxRecDepth 100000 in
theorem rredeem_calls {a b : Option Addr} {m c n d : Nat} {xs ys : List Nat} {w : World} (T : Nat) (hT : T < B64) (ha : Sl w a m c xs) (hb : Sl w b n d ys) (hm : m ≤ 1000000) (hn : n ≤ 1000000) :
    Calls Tryz.prog 10 #[.int .u64 (T : Int), DecV a m c, DecV b n d] w (RetE (.tuple #[.int .u64 (redV T (val xs) (val ys) : Nat), .int .i64 (redE (val xs) (val ys))]) w) := by
  obtain ⟨W, hW⟩ : ∃ X, W2 w (.slice a m c) (.slice b n d) = X := ⟨_, rfl⟩
  have EW : Ext w W := by rw [← hW]; exact W2_ext _ _ _
  have hS : ∀ w', Ext W w' → w'.cell? ⟨w.heap.size, 0, none⟩ = some (.slice a m c) ∧ w'.cell? ⟨w.heap.size + 1, 0, none⟩ = some (.slice b n d) := by
    intro w' h
    exact W2_at w _ _ (by rw [hW]; exact h)
  have HS := Lib.hid hS
  have HA := Lib.hid (fun w' (h : Ext W w') => (ha.old (EW.trans h)))
  have HBB := Lib.hid (fun w' (h : Ext W w') => (hb.old (EW.trans h)))
  have HEW := Lib.hid EW
  unfold W2 at hW
  have HW := Lib.hid hW
  have HT := Lib.hid hT
  obtain ⟨S, hSv⟩ : ∃ S, val xs = S := ⟨_, rfl⟩
  obtain ⟨x, hxv⟩ : ∃ x, val ys = x := ⟨_, rfl⟩
  have HCR := Lib.hid (rddcmp_calls (HBB.out _ (Ext.refl _)) (HA.out _ (Ext.refl _)) (by omega) (by omega))
  rw [hSv, hxv] at HCR ⊢
  have HSV := Lib.hid hSv; have HXV := Lib.hid hxv
  obtain ⟨c1, c2⟩ := hS W (Ext.refl _)
  unfold redV redE
  clear hS EW ha hb hW hT hSv hxv
  rcases Nat.lt_trichotomy x S with h | h | h
  · rw [cmpN_lt h] at HCR
    have n1 : ¬ S < x := by omega
    have n2 : ¬ x = S := by omega
    rw [if_neg n1, if_neg n1, if_neg n2]
    have HLT := Lib.hid (show x * (T * U36) / S / U36 < B64 from Nat.lt_of_le_of_lt (red_lt h) HT.out)
    rw [red_in] at HLT ⊢
    have HZ := Lib.hid (show S ≠ 0 by omega)
    clear h n1 n2
    go_enter Tryz.func10, Tryz.ntmps10
    go_wp2_with fail
    rw [HW.out]
    refine HCR.out.mono ?_
    rintro e w4 ⟨rfl, hext4⟩
    clear c1 c2
    go_wp2_with fail
    go_region_held3 (fun w' => w'.cell? ⟨w.heap.size, 0, none⟩ = some (.slice a m c) ∧ w'.cell? ⟨w.heap.size + 1, 0, none⟩ = some (.slice b n d))
      (first | exact HS.out _ hext4 | exact HS.out _ hext4.drew | exact HS.out _ (by assumption))
      (first | (go_at_call 31; refine (rof_calls T HT.out _).mono ?_; rintro e w6 ⟨o6, n6, c6, rfl, hown6, hext6, hno6⟩; have E6 : Ext W w6 := hext4.drew.trans hext6) | (go_at_call 30; refine (rmuldiv_at x T S (HBB.out _ E6) hown6.sl (HA.out _ E6) HXV.out (val_lim _) HSV.out HZ.out (by omega) (by omega) (by omega)).mono ?_; rintro e w9 ⟨a1, d1, L1, a2, d2, L2, rfl, hown1, hown2, hext9, hl1, hl2, -⟩; have E9 : Ext W w9 := E6.trans hext9))
    have CS := rsmall_calls hown1.sl (by omega) (by rw [val_lim]; exact HLT.out)
    rw [val_lim] at CS
    have HCS := Lib.hid CS
    have HE9 := Lib.hid (HEW.out.trans E9)
    clear CS E9 E6 hext4 hext6 hext9 hown1 hown2 hown6
    go_wp2_with fail
    refine HCS.out.mono ?_
    rintro e w10 ⟨rfl, hext10⟩
    go_wp2_with fail
    go_ret2
    exact ⟨rfl, HE9.out.trans hext10⟩
  · rw [cmpN_eq h] at HCR
    have n1 : ¬ S < x := by omega
    rw [if_neg n1, if_neg n1, if_pos h]
    clear h n1
    go_enter Tryz.func10, Tryz.ntmps10
    go_wp2_with fail
    rw [HW.out]
    refine HCR.out.mono ?_
    rintro e w4 ⟨rfl, hext4⟩
    go_wp2_with fail
    go_ret2
    exact ⟨rfl, HEW.out.trans hext4⟩
  · rw [cmpN_gt h] at HCR
    rw [if_pos h, if_pos h]
    clear h
    go_enter Tryz.func10, Tryz.ntmps10
    go_wp2_with fail
    rw [HW.out]
    refine HCR.out.mono ?_
    rintro e w4 ⟨rfl, hext4⟩
    go_wp2_with fail
    go_ret2
    exact ⟨rfl, HEW.out.trans hext4⟩

end Go.Proofs.YtpfhifjkecoahaaGreatDoor
namespace Go.Proofs.YtpfhifjkecoahaaGreatDoor
open Go.RowKit

theorem need_ceil (S t T : Nat) : rdV true (S * (t * U36)) (T * U36) = S * t / T + (if S * t % T ≠ 0 then 1 else 0) := by
  have h : ((S * t % T) * U36 ≠ 0) ↔ (S * t % T ≠ 0) := by
    constructor
    · intro h h0; exact h (by rw [h0, Nat.zero_mul])
    · intro h; exact Nat.mul_ne_zero h U36_ne
  unfold rdV
  rw [← Nat.mul_assoc, Nat.mul_div_mul_right _ _ U36_pos, Nat.mul_mod_mul_right]
  by_cases h0 : S * t % T = 0
  · rw [h0]; simp
  · rw [if_pos ⟨rfl, h.2 h0⟩, if_pos h0]

set_option maxHeartbeats 4000000 in
set_option maxRecDepth 100000 in
theorem rneed_calls {a : Option Addr} {m c : Nat} {xs : List Nat} {w : World} (T t : Nat) (hT : T < B64) (ht : t < B64) (ha : Sl w a m c xs) (hm : m ≤ 1000000) :
    Calls Tryz.prog 12 #[.int .u64 (T : Int), DecV a m c, .int .u64 (t : Int)] w (NewDE w (8 * m + 40) (lim (needV T (val xs) t)) (needE T t)) := by
  obtain ⟨X, hX⟩ : ∃ X, w.alloc (.cells #[.slice a m c] 26) = X := ⟨_, rfl⟩
  have EX : Ext w X := by rw [← hX]; exact (Ext.refl _).alloc _
  have hz : X.heap.size = w.heap.size + 1 := by rw [← hX, alloc_size]
  obtain ⟨W, hW⟩ : ∃ W, X.alloc (.cells #[.slice none 0 0] 26) = W := ⟨_, rfl⟩
  have EXW : Ext X W := by rw [← hW]; exact (Ext.refl _).alloc _
  have hS : ∀ w', Ext W w' → w'.cell? ⟨w.heap.size, 0, none⟩ = some (.slice a m c) := by
    intro w' h
    exact box_cell (by rw [hX]; exact EXW.trans h)
  have HS := Lib.hid hS
  have HS4 := Lib.hid (fun w' h (u : Value) => setCell_keeps (B := w.heap.size + 1) (hS w' h) (by omega) u)
  have HB := Lib.hid (fun w' (h : Ext W w') => box_at hz (w2 := w') (v := .slice none 0 0) (T := 26) (by rw [hW]; exact h))
  have HR := Lib.hid (fun w' (h : Ext W w') => (by rw [← hz]; exact box_row0 (w := X) (w' := w') (v := .slice none 0 0) (T := 26) (by rw [hW]; exact h) : w'.heap[w.heap.size + 1]? = some (.cells #[.slice none 0 0] 26 (0, 0))))
  have HF := Lib.hid (fun w' (h : Ext W w') (u : Value) => box_fin EX hz (w2 := w') (v := .slice none 0 0) (T := 26) (by rw [hW]; exact h) u)
  have hWs : (X.alloc (.cells #[.slice none 0 0] 26)).heap.size = W.heap.size := by rw [hW]
  rw [hWs] at HF
  have HA := Lib.hid (fun w' (h : Ext W w') => (ha.old ((EX.trans EXW).trans h)))
  have HX := Lib.hid hX; have HW := Lib.hid hW
  have HEW := Lib.hid (EX.trans EXW)
  have HT := Lib.hid hT; have HT' := Lib.hid ht
  unfold needV
  obtain ⟨S, hSv⟩ : ∃ S, val xs = S := ⟨_, rfl⟩
  rw [hSv]
  have HSV := Lib.hid hSv
  clear hSv
  clear hS EX EXW ha hz hX hW hWs hT ht
  by_cases h1 : T < t
  · have hE : needE T t = 102 := by unfold needE; rw [if_pos h1]
    rw [hE, if_neg (by decide)]
    have g1 : (T : Int) < (t : Int) := by omega
    go_enter Tryz.func12, Tryz.ntmps12
    go_wp2_with fail
    rw [HX.out, HW.out]
    try simp only [Exit.inBlock, Exit.then]
    refine bodyPost_ret (results_box2 rfl _ _ _ _ rfl (load_dec (HR.out _ (Ext.refl _)))) rfl ?_
    exact ⟨none, 0, 0, rfl, Own.nil _ _, HEW.out, by omega⟩
  by_cases h2 : T = 0
  · have hE : needE T t = 100 := by unfold needE; rw [if_neg h1, if_pos h2]
    rw [hE, if_neg (by decide)]
    have g1 : ¬ (T : Int) < (t : Int) := by omega
    have g2 : (T : Int) = 0 := by omega
    go_enter Tryz.func12, Tryz.ntmps12
    go_wp2_with fail
    rw [HX.out, HW.out]
    try simp only [Exit.inBlock, Exit.then]
    refine bodyPost_ret (results_box2 rfl _ _ _ _ rfl (load_dec (HR.out _ (Ext.refl _)))) rfl ?_
    exact ⟨none, 0, 0, rfl, Own.nil _ _, HEW.out, by omega⟩
  · have hE : needE T t = 0 := by unfold needE; rw [if_neg h1, if_neg h2]
    rw [hE, if_pos rfl]
    have g1 : ¬ (T : Int) < (t : Int) := by omega
    have g2 : ((T : Int) == 0) = false := by rw [beq_eq_false_iff_ne]; omega
    have HZ := Lib.hid h2
    rw [need_ceil]
    obtain ⟨V, hV⟩ : ∃ V, S * t / T + (if S * t % T ≠ 0 then 1 else 0) = V := ⟨_, rfl⟩
    rw [hV]
    have HV := Lib.hid hV
    clear hV
    clear h1 h2
    go_enter Tryz.func12, Tryz.ntmps12
    go_wp2_with fail
    rw [HX.out, HW.out]
    go_region_held3 (fun w' => w'.cell? ⟨w.heap.size, 0, none⟩ = some (.slice a m c))
      (first | exact HS.out _ (Ext.refl _) | exact HS.out _ ((Ext.refl _).drew) | exact HS.out _ (by assumption))
      (first | (go_at_call_of 31 t; refine (rof_calls t HT'.out _).mono ?_; rintro e w6 ⟨o6, n6, c6, rfl, hown6, hext6, hno6⟩; have E6 : Ext W w6 := ((Ext.refl W).drew).trans hext6) | (go_at_call_of 31 T; refine (rof_calls T HT.out _).mono ?_; rintro e w7 ⟨o7, n7, c7, rfl, hown7, hext7, hno7⟩; have E7 : Ext W w7 := E6.trans hext7) | (go_at_call 30; refine (rmuldiv_at S t T (HA.out _ E7) (hown6.sl.old hext7) hown7.sl HSV.out (val_lim _) (val_lim _) HZ.out (by omega) (by omega) (by omega)).mono ?_; rintro e w8 ⟨a1, d1, L1, a2, d2, L2, rfl, hown1, hown2, hext8, hl1, hl2, -⟩; have E8 : Ext W w8 := E7.trans hext8))
    have HO1 := Lib.hid (hown1.mono E7.size)
    have hL2 := hown2.sl.len
    have HE8 := Lib.hid E8
    clear hown1 hown2 hown6 hown7 hext6 hext7 hext8 E6 E7 E8
    by_cases hr : S * t % T = 0
    · have hL0 : L2 = 0 := by rw [← hL2, hr]; rfl
      have g3 : ¬ (0 : Int) < (L2 : Int) := by omega
      have hv : V = S * t / T := by rw [← HV.out, if_neg (by simp [hr]), Nat.add_zero]
      have HVV := Lib.hid hv
      obtain ⟨k1, k2⟩ := HB.out _ HE8.out
      obtain ⟨f1, f2, f3⟩ := HF.out _ HE8.out (.slice a1 L1 d1)
      clear hv hr hL2 hL0
      go_wp2_with fail
      try simp only [Exit.inBlock, Exit.then]
      refine bodyPost_ret (results_box2 rfl _ _ _ _ rfl (load_dec f2)) rfl ?_
      exact ⟨a1, L1, d1, rfl, f3 (by rw [HVV.out]; exact HO1.out), f1, by omega⟩
    · have hL0 : L2 ≠ 0 := fun h => hr ((digs_nil B64_two).1 (List.eq_nil_of_length_eq_zero (hL2.trans h)))
      have g3 : (0 : Int) < (L2 : Int) := by omega
      have hv : V = S * t / T + 1 := by rw [← HV.out, if_pos hr]
      have HVV := Lib.hid hv
      clear hv hr hL2 hL0
      go_wp2_with fail
      refine (rof_calls 1 (by decide) _).mono ?_
      rintro e w9 ⟨o9, n9, c9, rfl, hown9, hext9, hno9⟩
      have CA := radd_calls (HO1.out.sl.old hext9) hown9.sl (by omega) (by omega)
      rw [val_lim, val_lim] at CA
      have HCA := Lib.hid CA
      have HE9 := Lib.hid (HE8.out.trans hext9)
      clear CA hown9 hext9
      go_wp2_with fail
      refine HCA.out.mono ?_
      rintro e w10 ⟨o10, n10, c10, rfl, hown10, hext10, hno10⟩
      obtain ⟨k1, k2⟩ := HB.out _ (HE9.out.trans hext10)
      obtain ⟨f1, f2, f3⟩ := HF.out _ (HE9.out.trans hext10) (.slice o10 n10 c10)
      have HO10 := Lib.hid (hown10.mono HE9.out.size)
      clear hown10 hext10
      go_wp2_with fail
      try simp only [Exit.inBlock, Exit.then]
      refine bodyPost_ret (results_box2 rfl _ _ _ _ rfl (load_dec f2)) rfl ?_
      exact ⟨o10, n10, c10, rfl, f3 (by rw [HVV.out]; exact HO10.out), f1, by omega⟩

set_option maxHeartbeats 4000000 in
set_option maxRecDepth 100000 in
theorem rworth_calls {a b : Option Addr} {m c n d : Nat} {xs ys : List Nat} {w : World} (T : Nat) (hT : T < B64) (ha : Sl w a m c xs) (hb : Sl w b n d ys) (hm : m ≤ 1000000) (hn : n ≤ 1000000) :
    Calls Tryz.prog 15 #[.int .u64 (T : Int), DecV a m c, DecV b n d] w (NewD w (8 * n + 2 * m + 30) (lim (worV T (val xs) (val ys)))) := by
  obtain ⟨X, hX⟩ : ∃ X, W2 w (.slice a m c) (.slice b n d) = X := ⟨_, rfl⟩
  have EX : Ext w X := by rw [← hX]; exact W2_ext _ _ _
  have hz : X.heap.size = w.heap.size + 1 + 1 := by rw [← hX, W2_size]
  obtain ⟨W, hW⟩ : ∃ W, X.alloc (.cells #[.slice none 0 0] 26) = W := ⟨_, rfl⟩
  have EXW : Ext X W := by rw [← hW]; exact (Ext.refl _).alloc _
  have hS : ∀ w', Ext W w' → w'.cell? ⟨w.heap.size, 0, none⟩ = some (.slice a m c) ∧ w'.cell? ⟨w.heap.size + 1, 0, none⟩ = some (.slice b n d) := by
    intro w' h
    exact W2_at w _ _ (by rw [hX]; exact EXW.trans h)
  have HS := Lib.hid hS
  have HS4 := Lib.hid (fun w' h (u : Value) => (⟨setCell_keeps (B := w.heap.size + 1 + 1) (hS w' h).1 (by omega) u, setCell_keeps (B := w.heap.size + 1 + 1) (hS w' h).2 (by omega) u⟩ :
    (w'.setCell ⟨w.heap.size + 1 + 1, 0, none⟩ u).cell? ⟨w.heap.size, 0, none⟩ = some (.slice a m c) ∧ (w'.setCell ⟨w.heap.size + 1 + 1, 0, none⟩ u).cell? ⟨w.heap.size + 1, 0, none⟩ = some (.slice b n d)))
  have HB := Lib.hid (fun w' (h : Ext W w') => box_at hz (w2 := w') (v := .slice none 0 0) (T := 26) (by rw [hW]; exact h))
  have HF := Lib.hid (fun w' (h : Ext W w') (u : Value) => box_fin EX hz (w2 := w') (v := .slice none 0 0) (T := 26) (by rw [hW]; exact h) u)
  have hWs : (X.alloc (.cells #[.slice none 0 0] 26)).heap.size = W.heap.size := by rw [hW]
  rw [hWs] at HF
  have HA := Lib.hid (fun w' (h : Ext W w') => (ha.old ((EX.trans EXW).trans h)))
  have HBB := Lib.hid (fun w' (h : Ext W w') => (hb.old ((EX.trans EXW).trans h)))
  unfold W2 at hX
  have HX := Lib.hid hX; have HW := Lib.hid hW
  have HT := Lib.hid hT
  obtain ⟨S, hSv⟩ : ∃ S, val xs = S := ⟨_, rfl⟩
  have HZR := Lib.hid (rdzero_calls (HA.out _ (Ext.refl _)) (by omega))
  rw [hSv] at HZR ⊢
  have HSV := Lib.hid hSv
  obtain ⟨c1, c2⟩ := hS W (Ext.refl _)
  have HC1 := Lib.hid c1
  unfold worV
  clear hS EX EXW ha hb hz hX hW hWs hT hSv c1 c2
  have c1 := HC1.out
  by_cases h1 : S = 0
  · rw [if_pos h1]
    rw [decide_eq_true h1] at HZR
    go_enter Tryz.func15, Tryz.ntmps15
    go_wp2_with fail
    rw [HX.out, HW.out]
    refine HZR.out.mono ?_
    rintro e w4 ⟨rfl, hext4⟩
    obtain ⟨k1, k2⟩ := HB.out _ hext4
    obtain ⟨f1, f2, f3⟩ := HF.out _ hext4 (.slice none 0 0)
    go_wp2_with fail
    try simp only [Exit.inBlock, Exit.then]
    refine bodyPost_ret (results_box1 rfl _ _ _ _ rfl (load_dec f2)) rfl ?_
    exact ⟨none, 0, 0, rfl, Own.nil _ _, f1, by omega⟩
  · rw [if_neg h1, ← Nat.mul_assoc]
    rw [decide_eq_false h1] at HZR
    have HZ := Lib.hid h1
    clear h1
    go_enter Tryz.func15, Tryz.ntmps15
    go_wp2_with fail
    rw [HX.out, HW.out]
    refine HZR.out.mono ?_
    rintro e w4 ⟨rfl, hext4⟩
    go_wp2_with fail
    go_region_held3 (fun w' => w'.cell? ⟨w.heap.size, 0, none⟩ = some (.slice a m c) ∧ w'.cell? ⟨w.heap.size + 1, 0, none⟩ = some (.slice b n d))
      (first | exact HS.out _ hext4 | exact HS.out _ hext4.drew | exact HS.out _ (by assumption))
      (first | (go_at_call 31; refine (rof_calls T HT.out _).mono ?_; rintro e w6 ⟨o6, n6, c6, rfl, hown6, hext6, hno6⟩; have E6 : Ext W w6 := hext4.drew.trans hext6) | (go_at_call 40; refine (rmul_calls (HBB.out _ E6) hown6.sl (by omega) (by omega)).mono ?_; rintro e w7 ⟨o7, n7, c7, rfl, hown7, hext7, hno7⟩; have E7 : Ext W w7 := E6.trans hext7) | (go_at_call 41; refine (rone_calls _).mono ?_; rintro e w8 ⟨o8, n8, c8, rfl, hown8, hext8, hno8⟩; have E8 : Ext W w8 := E7.trans hext8) | (go_at_call 30; refine (rmuldiv_at (val ys * val (lim T)) U36 S (hown7.sl.old hext8) hown8.sl (HA.out _ E8) (val_lim _) (val_lim _) HSV.out HZ.out (by omega) (by omega) (by omega)).mono ?_; rintro e w9 ⟨a1, d1, L1, a2, d2, L2, rfl, hown1, hown2, hext9, hl1, hl2, -⟩; have E9 : Ext W w9 := E8.trans hext9))
    obtain ⟨k1, k2⟩ := HB.out _ E9
    obtain ⟨f1, f2, f3⟩ := HF.out _ E9 (.slice a1 L1 d1)
    rw [val_lim] at hown1
    have HO1 := Lib.hid (hown1.mono E8.size)
    clear hown1 hown2 hown6 hown7 hown8 hext6 hext7 hext8 hext9 E6 E7 E8 E9 hext4
    go_wp2_with fail
    try simp only [Exit.inBlock, Exit.then]
    refine bodyPost_ret (results_box1 rfl _ _ _ _ rfl (load_dec f2)) rfl ?_
    exact ⟨a1, L1, d1, rfl, f3 HO1.out, f1, by omega⟩

end Go.Proofs.YtpfhifjkecoahaaGreatDoor
namespace Go.Proofs.YtpfhifjkecoahaaGreatDoor
open Go.RowKit

theorem p90_eq : 10 ^ 90 = most54 := by unfold most54 U36; rw [← Nat.pow_add]

set_option maxHeartbeats 8000000 in
set_option maxRecDepth 100000 in
theorem rissue_calls {a : Option Addr} {m c : Nat} {xs : List Nat} {w : World} (T t : Nat) (hT : T < B64) (ht : t < B64) (ha : Sl w a m c xs) (hm : m ≤ 1000000) :
    Calls Tryz.prog 8 #[.int .u64 (T : Int), DecV a m c, .int .u64 (t : Int)] w (NewDE w (4 * m + 20) (lim (issV T (val xs) t)) (issE T (val xs) t)) := by
  obtain ⟨X, hX⟩ : ∃ X, w.alloc (.cells #[.slice a m c] 26) = X := ⟨_, rfl⟩
  have EX : Ext w X := by rw [← hX]; exact (Ext.refl _).alloc _
  have hz : X.heap.size = w.heap.size + 1 := by rw [← hX, alloc_size]
  obtain ⟨W, hW⟩ : ∃ W, X.alloc (.cells #[.slice none 0 0] 26) = W := ⟨_, rfl⟩
  have EXW : Ext X W := by rw [← hW]; exact (Ext.refl _).alloc _
  have hS : ∀ w', Ext W w' → w'.cell? ⟨w.heap.size, 0, none⟩ = some (.slice a m c) := by
    intro w' h
    exact box_cell (by rw [hX]; exact EXW.trans h)
  have HS := Lib.hid hS
  have HB := Lib.hid (fun w' (h : Ext W w') => box_at hz (w2 := w') (v := .slice none 0 0) (T := 26) (by rw [hW]; exact h))
  have HR := Lib.hid (fun w' (h : Ext W w') => (by rw [← hz]; exact box_row0 (w := X) (w' := w') (v := .slice none 0 0) (T := 26) (by rw [hW]; exact h) : w'.heap[w.heap.size + 1]? = some (.cells #[.slice none 0 0] 26 (0, 0))))
  have HF := Lib.hid (fun w' (h : Ext W w') (u : Value) => box_fin EX hz (w2 := w') (v := .slice none 0 0) (T := 26) (by rw [hW]; exact h) u)
  have hWs : (X.alloc (.cells #[.slice none 0 0] 26)).heap.size = W.heap.size := by rw [hW]
  rw [hWs] at HF
  have HA := Lib.hid (fun w' (h : Ext W w') => (ha.old ((EX.trans EXW).trans h)))
  have HX := Lib.hid hX; have HW := Lib.hid hW
  have HEW := Lib.hid (EX.trans EXW)
  have HT := Lib.hid hT; have HT' := Lib.hid ht
  obtain ⟨S, hSv⟩ : ∃ S, val xs = S := ⟨_, rfl⟩
  have HZR := Lib.hid (rdzero_calls (HA.out _ (Ext.refl _)) (by omega))
  rw [hSv] at HZR ⊢
  have HSV := Lib.hid hSv
  have HC1 := Lib.hid (hS W (Ext.refl _))
  clear hS EX EXW ha hz hX hW hWs hT ht hSv
  by_cases h1 : t = 0
  · subst h1
    rw [iss_err (iss_t0 T S) (by decide), iss_t0]
    go_enter Tryz.func8, Tryz.ntmps8
    go_wp2_with fail
    rw [HX.out, HW.out]
    try simp only [Exit.inBlock, Exit.then]
    refine bodyPost_ret (results_box2 rfl _ _ _ _ rfl (load_dec (HR.out _ (Ext.refl _)))) rfl ?_
    exact ⟨none, 0, 0, rfl, Own.nil _ _, HEW.out, by omega⟩
  have g1 : ((t : Int) == 0) = false := by rw [beq_eq_false_iff_ne]; omega
  have c1 := HC1.out
  by_cases h2 : S = 0
  · subst h2
    have HV := Lib.hid (issV_ok0 (iss_s0 T h1))
    rw [iss_s0 T h1]
    rw [decide_eq_true rfl] at HZR
    clear h1
    go_enter Tryz.func8, Tryz.ntmps8
    go_wp2_with fail
    rw [HX.out, HW.out]
    refine HZR.out.mono ?_
    rintro e w4 ⟨rfl, hext4⟩
    go_wp2_with fail
    refine (rdof_calls t HT'.out _).mono ?_
    rintro e w6 ⟨o6, n6, c6, rfl, hown6, hext6, hno6⟩
    obtain ⟨k1, k2⟩ := HB.out _ (hext4.trans hext6)
    obtain ⟨f1, f2, f3⟩ := HF.out _ (hext4.trans hext6) (.slice o6 n6 c6)
    have hown6' := hown6.mono hext4.size
    rw [← HV.out] at hown6'
    clear hown6
    go_wp2_with fail
    try simp only [Exit.inBlock, Exit.then]
    refine bodyPost_ret (results_box2 rfl _ _ _ _ rfl (load_dec f2)) rfl ?_
    exact ⟨o6, n6, c6, rfl, f3 hown6', f1, by omega⟩
  rw [decide_eq_false h2] at HZR
  by_cases h3 : T = 0
  · subst h3
    rw [iss_err (iss_T0 h1 h2) (by decide), iss_T0 h1 h2]
    clear h1 h2
    go_enter Tryz.func8, Tryz.ntmps8
    go_wp2_with fail
    rw [HX.out, HW.out]
    refine HZR.out.mono ?_
    rintro e w4 ⟨rfl, hext4⟩
    obtain ⟨k1, k2⟩ := HB.out _ hext4
    obtain ⟨f1, f2, f3⟩ := HF.out _ hext4 (.slice none 0 0)
    go_wp2_with fail
    try simp only [Exit.inBlock, Exit.then]
    refine bodyPost_ret (results_box2 rfl _ _ _ _ rfl (load_dec f2)) rfl ?_
    exact ⟨none, 0, 0, rfl, Own.nil _ _, f1, by omega⟩
  have g2 : ((T : Int) == 0) = false := by rw [beq_eq_false_iff_ne]; omega
  have HZ := Lib.hid h3
  have HIZ := Lib.hid (iss_z0 h1 h2 h3)
  have HIB := Lib.hid (iss_big h1 h2 h3)
  have HIO := Lib.hid (iss_ok h1 h2 h3)
  obtain ⟨z, hzv⟩ : ∃ z, issZ T S t = z := ⟨_, rfl⟩
  rw [hzv] at HIZ HIB HIO
  obtain ⟨V, hV⟩ : ∃ V, issV T S t = V := ⟨_, rfl⟩
  obtain ⟨er, her⟩ : ∃ er, issE T S t = er := ⟨_, rfl⟩
  rw [hV, her]
  have HV := Lib.hid hV; have HER := Lib.hid her
  rw [issZ_eq] at hzv
  have HZV := Lib.hid hzv
  clear h1 h2 h3 hzv hV her
  go_enter Tryz.func8, Tryz.ntmps8
  go_wp2_with fail
  rw [HX.out, HW.out]
  refine HZR.out.mono ?_
  rintro e w4 ⟨rfl, hext4⟩
  clear c1
  go_wp2_with fail
  go_region_held3 (fun w' => w'.cell? ⟨w.heap.size, 0, none⟩ = some (.slice a m c))
    (first | exact HS.out _ hext4 | exact HS.out _ hext4.drew | exact HS.out _ (by assumption))
    (first | (go_at_call_of 31 t; refine (rof_calls t HT'.out _).mono ?_; rintro e w6 ⟨o6, n6, c6, rfl, hown6, hext6, hno6⟩; have E6 : Ext W w6 := hext4.drew.trans hext6) | (go_at_call_of 31 T; refine (rof_calls T HT.out _).mono ?_; rintro e w7 ⟨o7, n7, c7, rfl, hown7, hext7, hno7⟩; have E7 : Ext W w7 := E6.trans hext7) | (go_at_call 30; refine (rmuldiv_at S t T (HA.out _ E7) (hown6.sl.old hext7) hown7.sl HSV.out (val_lim _) (val_lim _) HZ.out (by omega) (by omega) (by omega)).mono ?_; rintro e w8 ⟨a1, d1, L1, a2, d2, L2, rfl, hown1, hown2, hext8, hl1, hl2, -⟩; have E8 : Ext W w8 := E7.trans hext8))
  rw [HZV.out] at hown1
  have hL1 := hown1.sl.len
  have HO1 := Lib.hid (hown1.mono E7.size)
  have HE8 := Lib.hid E8
  clear hown1 hown2 hown6 hown7 hext6 hext7 hext8 E6 E7 E8 hext4
  by_cases hz0 : z = 0
  · have hL0 : L1 = 0 := by rw [← hL1, hz0]; rfl
    have g3 : ((L1 : Int) == 0) = true := by rw [hL0]; rfl
    have HH := Lib.hid (HIZ.out hz0)
    obtain ⟨k1, k2⟩ := HB.out _ HE8.out
    obtain ⟨f1, f2, f3⟩ := HF.out _ HE8.out (.slice none 0 0)
    clear hz0 hL0 hL1
    go_wp2_with fail
    try simp only [Exit.inBlock, Exit.then]
    refine bodyPost_ret (results_box2 rfl _ _ _ _ rfl (load_dec f2)) rfl ?_
    have hv := iss_err HH.out (by decide)
    rw [← HV.out, hv, ← HER.out, HH.out]
    exact ⟨none, 0, 0, rfl, Own.nil _ _, f1, by omega⟩
  have hL0 : L1 ≠ 0 := fun h => hz0 ((digs_nil B64_two).1 (List.eq_nil_of_length_eq_zero (hL1.trans h)))
  have g3 : ((L1 : Int) == 0) = false := by rw [beq_eq_false_iff_ne]; omega
  have HNZ := Lib.hid hz0
  clear hz0 hL0 hL1
  go_wp2_with fail
  refine (rpow_calls 90 (by omega) _).mono ?_
  rintro e wG ⟨aP, nP, cP, rfl, hownP, hextP, hnoP⟩
  have HOP := Lib.hid hownP
  have HEG := Lib.hid (HE8.out.trans hextP)
  have HSG := Lib.hid (HO1.out.old hextP)
  have q1 := HS.out _ HEG.out
  have CA := radd_calls (HA.out _ HEG.out) HSG.out.sl (by omega) (by omega)
  rw [HSV.out, val_lim] at CA
  have HCA := Lib.hid CA
  clear CA hownP hextP
  go_wp2_with fail
  refine HCA.out.mono ?_
  rintro e wI ⟨oI, nI, cI, rfl, hownI, hextI, hnoI⟩
  have CC := rCmp_calls hownI.sl (HOP.out.sl.old hextI) (by omega) (by omega)
  rw [val_lim, val_lim, p90_eq] at CC
  have HCC := Lib.hid CC
  have HEI := Lib.hid (HEG.out.trans hextI)
  have HSI := Lib.hid (HSG.out.old hextI)
  clear CC hownI hextI q1
  by_cases hb : most54 < S + z
  · rw [cmpN_gt hb] at HCC
    have he := Lib.hid (HIB.out HNZ.out hb)
    clear hb
    go_wp2_with fail
    refine HCC.out.mono ?_
    rintro e wK ⟨rfl, hextK⟩
    obtain ⟨k1, k2⟩ := HB.out _ (HEI.out.trans hextK)
    obtain ⟨f1, f2, f3⟩ := HF.out _ (HEI.out.trans hextK) (.slice none 0 0)
    go_wp2_with fail
    try simp only [Exit.inBlock, Exit.then]
    refine bodyPost_ret (results_box2 rfl _ _ _ _ rfl (load_dec f2)) rfl ?_
    have hv := iss_err he.out (by decide)
    rw [← HV.out, hv, ← HER.out, he.out]
    exact ⟨none, 0, 0, rfl, Own.nil _ _, f1, by omega⟩
  · obtain ⟨q, hq, hq0⟩ : ∃ q : Int, cmpN (S + z) most54 = q ∧ ¬ (0 < q) := by
      rcases Nat.lt_or_eq_of_le (Nat.le_of_not_lt hb) with h | h
      · exact ⟨_, cmpN_lt h, by decide⟩
      · exact ⟨_, cmpN_eq h, by decide⟩
    rw [hq] at HCC
    have he := Lib.hid (HIO.out HNZ.out hb)
    clear hb hq
    go_wp2_with fail
    refine HCC.out.mono ?_
    rintro e wK ⟨rfl, hextK⟩
    obtain ⟨k1, k2⟩ := HB.out _ (HEI.out.trans hextK)
    obtain ⟨f1, f2, f3⟩ := HF.out _ (HEI.out.trans hextK) (.slice a1 L1 d1)
    have HSK := Lib.hid (HSI.out.old hextK)
    go_wp2_with fail
    try simp only [Exit.inBlock, Exit.then]
    refine bodyPost_ret (results_box2 rfl _ _ _ _ rfl (load_dec f2)) rfl ?_
    rw [← HV.out, he.out.2, ← HER.out, he.out.1]
    exact ⟨a1, L1, d1, rfl, f3 HSK.out, f1, by omega⟩

end Go.Proofs.YtpfhifjkecoahaaGreatDoor
