/- gleanref1.MulDiv, Pow10, Sub, Gcd. -/
import Derived.Test.YtifoflicflodcaaGreatDoorRefB
namespace Go.Proofs.YtifoflicflodcaaGreatDoor
open Go.RowKit

set_option maxHeartbeats 1000000 in
set_option maxRecDepth 100000 in
theorem rmuldiv_calls {a b e : Option Addr} {m n l c d f : Nat} {xs ys zs : List Nat} {w : World} (ha : Sl w a m c xs) (hb : Sl w b n d ys) (he : Sl w e l f zs) (hm : m ≤ 10000000) (hn : n ≤ 10000000) (hl : l ≤ 10000000) :
    Calls Tryz.prog 59 #[.slice a m c, .slice b n d, .slice e l f] w (DivRes w (4 * m + 4 * n + 2 * l) (quoL (val xs * val ys) (val zs)) (remL (val xs * val ys) (val zs)) (divE (val zs))) := by
  have CM := Lib.hid (fmul_calls ha hb (by omega) (by omega))
  have HE := Lib.hid he
  clear ha hb he
  go_enter Tryz.func59, Tryz.ntmps59
  go_wp2_with fail
  refine CM.out.mono ?_
  rintro e w1 ⟨o1, n1, c1, rfl, hown1, hext1, hno1⟩
  have CD := rdivmod_calls hown1.sl (HE.out.old hext1) (by omega) (by omega)
  rw [val_lim] at CD
  have HCD := Lib.hid CD; have HE1 := Lib.hid hext1
  clear CD hown1 hext1
  go_wp2_with fail
  refine HCD.out.mono ?_
  rintro e w2 ⟨a1, c1, L1, a2, c2, L2, rfl, hw1, hw2, hext2, h1, h2, h3⟩
  go_wp2_with fail
  go_ret3
  have hs := HE1.out.size
  exact ⟨a1, c1, L1, a2, c2, L2, rfl, hw1.mono hs, hw2.mono hs, HE1.out.trans hext2, by omega, by omega, h3⟩

/-- How long a power of ten is. -/
theorem pow_limbs {k : Nat} (h : k ≤ 4096) : (lim (10 ^ k)).length ≤ 4097 := by
  have h1 : 10 ^ k ≤ B64 ^ k := Nat.pow_le_pow_left (by decide) k
  have h2 : B64 ^ k < B64 ^ (k + 1) := Nat.pow_lt_pow_right (by decide) (Nat.lt_succ_self k)
  have h3 : (lim (10 ^ k)).length ≤ k + 1 := lim_len_le (Nat.lt_of_le_of_lt h1 h2)
  omega

def RP9Rel (w : World) (N : Nat) (iv ov : Value) (wr : World) : Prop :=
  ∃ (m k : Nat) (o : Option Addr) (n c : Nat), iv = .int .i64 (m : Int) ∧ ov = .slice o n c ∧ k + m = N ∧ Own w.heap.size wr o n c (lim (10 ^ k)) ∧ Ext w wr

set_option maxHeartbeats 4000000 in
set_option maxRecDepth 100000 in
theorem rpow_calls (N : Nat) (hN : N ≤ 4096) (w : World) : Calls Tryz.prog 52 #[.int .i64 (N : Int)] w (New2 w 5000 (lim (10 ^ N)) 0) := by
  have h1 : ¬ ((N : Int) < 0) := by omega
  have h2 : ¬ (4096 < (N : Int)) := by omega
  go_enter Tryz.func52, Tryz.ntmps52
  go_wp2_with fail
  refine (fof_calls 1 (by decide) _).mono ?_
  rintro e w1 ⟨o1, n1, c1, rfl, hown1, hext1, hno1⟩
  have HO1 := Lib.hid hown1; have HE1 := Lib.hid hext1
  clear hown1 hext1
  go_wp2_with fail
  go_loopw [0, 4] (fun iv ov wr => RP9Rel w N iv ov wr) (fun iv _ _ => (intOf iv).toNat)
  case atStart => exact ⟨N, 0, o1, n1, c1, rfl, rfl, by omega, by rw [Nat.pow_zero]; exact HO1.out, HE1.out⟩
  case round =>
    obtain ⟨m, k, o, n, c, rfl, rfl, hk, hown, hex⟩ := hrel
    have HO := Lib.hid hown; have HE := Lib.hid hex
    have hl : n ≤ 4097 := by rw [← hown.sl.len]; exact pow_limbs (by omega)
    clear hown hex
    by_cases h9 : 9 ≤ m
    · have g1 : (9 : Int) ≤ (m : Int) := by omega
      obtain ⟨m', hm'⟩ : ∃ x, m - 9 = x := ⟨_, rfl⟩
      have v1 : IntKind.i64.wrap ((m : Int) - 9) = (m' : Int) := by
        rw [show ((m : Int) - 9) = (m' : Int) by omega]; exact IntWalk.i64_in _ (by omega)
      have HM := Lib.hid (show m' + 9 = m by omega)
      clear hm' h9
      go_wp2_with fail
      refine (fof_calls 1000000000 (by decide) _).mono ?_
      rintro e w2 ⟨o2, n2, c2, rfl, hown2, hext2, hno2⟩
      have CM := fmul_calls (HO.out.sl.old hext2) hown2.sl (by omega) (by omega)
      rw [val_lim, val_lim] at CM
      have HCM := Lib.hid CM; have HE2 := Lib.hid hext2
      clear CM hown2 hext2
      go_wp2_with fail
      refine HCM.out.mono ?_
      rintro e w3 ⟨o3, n3, c3, rfl, hown3, hext3, hno3⟩
      have HO3 := Lib.hid hown3; have HE3 := Lib.hid hext3
      clear hown3 hext3
      go_wp2_with fail
      go_roundw
      case rel =>
        have hh := HM.out
        have hs := HE.out.size; have hs2 := HE2.out.size
        exact ⟨m', k + 9, o3, n3, c3, rfl, rfl, by omega, by rw [Nat.pow_add]; exact HO3.out.mono (by omega), (HE.out.trans HE2.out).trans HE3.out⟩
      case measure => have hh := HM.out; simp [intOf]; omega
    · have g1 : ¬ (9 : Int) ≤ (m : Int) := by omega
      clear h9
      go_wp2_with fail
      go_loopw [0, 4] (fun iv ov wr => RP9Rel w N iv ov wr) (fun iv _ _ => (intOf iv).toNat)
      case atStart => exact ⟨m, k, o, n, c, rfl, rfl, hk, HO.out, HE.out⟩
      case round =>
        obtain ⟨m, k, o, n, c, rfl, rfl, hk, hown, hex⟩ := hrel
        have HO := Lib.hid hown; have HE := Lib.hid hex
        have hl : n ≤ 4097 := by rw [← hown.sl.len]; exact pow_limbs (by omega)
        clear hown hex g1
        by_cases h0 : 0 < m
        · have g1 : (0 : Int) < (m : Int) := by omega
          obtain ⟨m', hm'⟩ : ∃ x, m - 1 = x := ⟨_, rfl⟩
          have v1 : IntKind.i64.wrap ((m : Int) - 1) = (m' : Int) := by
            rw [show ((m : Int) - 1) = (m' : Int) by omega]; exact IntWalk.i64_in _ (by omega)
          have HM := Lib.hid (show m' + 1 = m by omega)
          clear hm' h0
          go_wp2_with fail
          refine (fof_calls 10 (by decide) _).mono ?_
          rintro e w2 ⟨o2, n2, c2, rfl, hown2, hext2, hno2⟩
          have CM := fmul_calls (HO.out.sl.old hext2) hown2.sl (by omega) (by omega)
          rw [val_lim, val_lim] at CM
          have HCM := Lib.hid CM; have HE2 := Lib.hid hext2
          clear CM hown2 hext2
          go_wp2_with fail
          refine HCM.out.mono ?_
          rintro e w3 ⟨o3, n3, c3, rfl, hown3, hext3, hno3⟩
          have HO3 := Lib.hid hown3; have HE3 := Lib.hid hext3
          clear hown3 hext3
          go_wp2_with fail
          go_roundw
          case rel =>
            have hh := HM.out
            have hs := HE.out.size; have hs2 := HE2.out.size
            exact ⟨m', k + 1, o3, n3, c3, rfl, rfl, by omega, by rw [Nat.pow_succ]; exact HO3.out.mono (by omega), (HE.out.trans HE2.out).trans HE3.out⟩
          case measure => have hh := HM.out; simp [intOf]; omega
        · obtain rfl : m = 0 := by omega
          obtain rfl : k = N := by omega
          clear h0
          go_wp2_with fail
          go_ret2
          exact ⟨o, n, c, rfl, HO.out, HE.out, by omega⟩

theorem rmuldiv_at {a b e : Option Addr} {m n l c d f : Nat} {xs ys zs : List Nat} {w : World} (X Y Z : Nat) (ha : Sl w a m c xs) (hb : Sl w b n d ys) (he : Sl w e l f zs) (hx : val xs = X) (hy : val ys = Y) (hz : val zs = Z)
    (hZ : Z ≠ 0) (hm : m ≤ 10000000) (hn : n ≤ 10000000) (hl : l ≤ 10000000) :
    Calls Tryz.prog 59 #[.slice a m c, .slice b n d, .slice e l f] w (DivRes w (4 * m + 4 * n + 2 * l) (lim (X * Y / Z)) (lim (X * Y % Z)) 0) := by
  have := rmuldiv_calls ha hb he hm hn hl
  rw [hx, hy, hz] at this
  unfold quoL remL divE at this
  rwa [if_neg hZ, if_neg hZ, if_neg hZ] at this


set_option maxHeartbeats 1000000 in
set_option maxRecDepth 100000 in
theorem fsub_ok {a b : Option Addr} {m n c d : Nat} {xs ys : List Nat} {w : World} (X Y : Nat) (ha : Sl w a m c xs) (hb : Sl w b n d ys) (hx : val xs = X) (hy : val ys = Y) (hm : m ≤ 100000000) (hn : n ≤ 100000000) (h : Y ≤ X) :
    Calls Tryz.prog 46 #[.slice a m c, .slice b n d] w (New2 w (2 * m) (lim (X - Y)) 0) := by
  have CA := Lib.hid (digits_calls ha (by omega))
  have HB := Lib.hid hb
  rw [hx] at CA
  have HYV := Lib.hid hy
  obtain ⟨q, hq, hq0⟩ : ∃ q : Int, cmpN X Y = q ∧ ¬ (q < 0) := by
    rcases Nat.lt_or_eq_of_le h with h | h
    · exact ⟨_, cmpN_gt h, by decide⟩
    · exact ⟨_, cmpN_eq h.symm, by decide⟩
  have HQ := Lib.hid hq; have HLE := Lib.hid h
  clear ha hb hx hy hq h
  go_enter Tryz.func46, Tryz.ntmps46
  go_wp2_with fail
  refine CA.out.mono ?_
  rintro e w1 ⟨o1, M, c1, rfl, hown1, hext1, hno1⟩
  have CB := Lib.hid (digits_calls (HB.out.old hext1) (by omega))
  rw [HYV.out] at CB
  go_wp2_with fail
  refine CB.out.mono ?_
  rintro e w2 ⟨o2, N, c2, rfl, hown2, hext2, hno2⟩
  have CC := rdcmp_calls X Y (hown1.sl.old hext2) hown2.sl
  rw [HQ.out] at CC
  have HCC := Lib.hid CC; have HO1 := Lib.hid (hown1.sl.old hext2); have HO2 := Lib.hid hown2.sl; have HE2 := Lib.hid (hext1.trans hext2)
  clear CC hown1 hown2 hext1 hext2
  go_wp2_with fail
  refine HCC.out.mono ?_
  rintro e w3 ⟨rfl, k3, rfl⟩
  have D3 := Lib.hid ((Ext.refl w2).drewN k3)
  have CT := rtake_calls (HO1.out.old D3.out) (HO2.out.old D3.out) (bd_dig X) (bd_dig Y) (by rw [← HO1.out.len, ← HO2.out.len]; exact digs_len_mono B32_two HLE.out) (by rw [rval_dig, rval_dig]; exact HLE.out) (by omega)
  rw [rval_dig, rval_dig] at CT
  have HCT := Lib.hid CT
  clear CT
  go_wp2_with fail
  refine HCT.out.mono ?_
  rintro e w4 ⟨o4, n4, c4, rfl, hown4, hext4, hno4⟩
  have CN := number_calls hown4.sl (bd_dig _) (by omega)
  rw [rval_dig] at CN
  have HCN := Lib.hid CN; have HE4 := Lib.hid (HE2.out.trans (D3.out.trans hext4))
  clear CN hown4 hext4
  go_wp2_with fail
  refine HCN.out.mono ?_
  rintro e w5 ⟨o5, n5, c5, rfl, hown5, hext5, hno5⟩
  go_wp2_with fail
  go_ret2
  exact ⟨o5, n5, c5, rfl, hown5.mono HE4.out.size, HE4.out.trans hext5, by omega⟩

set_option maxHeartbeats 1000000 in
set_option maxRecDepth 100000 in
theorem fsub_below {a b : Option Addr} {m n c d : Nat} {xs ys : List Nat} {w : World} (X Y : Nat) (ha : Sl w a m c xs) (hb : Sl w b n d ys) (hx : val xs = X) (hy : val ys = Y) (hm : m ≤ 100000000) (hn : n ≤ 100000000) (h : X < Y) :
    Calls Tryz.prog 46 #[.slice a m c, .slice b n d] w (New2 w 0 [] 10) := by
  have CA := Lib.hid (digits_calls ha (by omega))
  have HB := Lib.hid hb
  rw [hx] at CA
  have HYV := Lib.hid hy
  have HQ := Lib.hid (cmpN_lt h)
  clear ha hb hx hy h
  go_enter Tryz.func46, Tryz.ntmps46
  go_wp2_with fail
  refine CA.out.mono ?_
  rintro e w1 ⟨o1, M, c1, rfl, hown1, hext1, hno1⟩
  have CB := Lib.hid (digits_calls (HB.out.old hext1) (by omega))
  rw [HYV.out] at CB
  go_wp2_with fail
  refine CB.out.mono ?_
  rintro e w2 ⟨o2, N, c2, rfl, hown2, hext2, hno2⟩
  have CC := rdcmp_calls X Y (hown1.sl.old hext2) hown2.sl
  rw [HQ.out] at CC
  have HCC := Lib.hid CC; have HE2 := Lib.hid (hext1.trans hext2)
  clear CC hown1 hown2 hext1 hext2
  go_wp2_with fail
  refine HCC.out.mono ?_
  rintro e w3 ⟨rfl, k3, rfl⟩
  go_wp2_with fail
  go_ret2
  exact ⟨none, 0, 0, rfl, Own.nil _ _, HE2.out.drewN k3, Nat.le_refl _⟩

end Go.Proofs.YtifoflicflodcaaGreatDoor
