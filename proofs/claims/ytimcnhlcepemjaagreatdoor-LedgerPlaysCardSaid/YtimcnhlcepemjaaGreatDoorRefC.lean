
/- gleanref1.MulDiv, Pow10; gleanref2.One, OfNat, Of, Zero, Cmp. -/
import Derived.Test.YtimcnhlcepemjaaGreatDoorRefB
import Derived.Test.YtimcnhlcepemjaaGreatDoorMD
import Derived.Test.YtimcnhlcepemjaaGreatDoorRat0
namespace Go.Proofs.YtimcnhlcepemjaaGreatDoor
open Go.RowKit

/-- How long a power of ten is. -/
theorem pow_limbs {k : Nat} (h : k ≤ 4096) : (lim (10 ^ k)).length ≤ 4097 := by
  have h1 : 10 ^ k ≤ B64 ^ k := Nat.pow_le_pow_left (by decide) k
  have h2 : B64 ^ k < B64 ^ (k + 1) := Nat.pow_lt_pow_right (by decide) (Nat.lt_succ_self k)
  have h3 : (lim (10 ^ k)).length ≤ k + 1 := lim_len_le (Nat.lt_of_le_of_lt h1 h2)
  omega

def RP9Rel (w : World) (N : Nat) (iv ov : Value) (wr : World) : Prop :=
  ∃ (m k : Nat) (o : Option Addr) (n c : Nat), iv = .int .i64 (m : Int) ∧ ov = .slice o n c ∧ k + m = N ∧ Own w.heap.size wr o n c (lim (10 ^ k)) ∧ Ext w wr

set_option maxHeartbeats 4000000 in
set_option maxRecDepth 100000 in
theorem rpow_calls (N : Nat) (hN : N ≤ 4096) (w : World) : Calls Tryz.prog 75 #[.int .i64 (N : Int)] w (New2 w 5000 (lim (10 ^ N)) 0) := by
  have h1 : ¬ ((N : Int) < 0) := by omega
  have h2 : ¬ (4096 < (N : Int)) := by omega
  go_enter Tryz.func75, Tryz.ntmps75
  go_wp2_with fail
  refine (fof_calls 1 (by decide) _).mono ?_
  rintro e w1 ⟨o1, n1, c1, rfl, hown1, hext1, hno1⟩
  have HO1 := Lib.hid hown1; have HE1 := Lib.hid hext1
  clear hown1 hext1
  go_wp2_with fail
  go_loopw [0, 4] (fun iv ov wr => RP9Rel w N iv ov wr) (fun iv _ _ => (intOf iv).toNat)
  case atStart => exact ⟨N, 0, o1, n1, c1, rfl, rfl, by omega, by rw [Nat.pow_zero]; exact HO1.out, HE1.out⟩
  case round =>
    obtain ⟨m, k, o, n, c, rfl, rfl, hk, hown, hex⟩ := hrel
    have HO := Lib.hid hown; have HE := Lib.hid hex
    have hl : n ≤ 4097 := by rw [← hown.sl.len]; exact pow_limbs (by omega)
    clear hown hex
    by_cases h9 : 9 ≤ m
    · have g1 : (9 : Int) ≤ (m : Int) := by omega
      obtain ⟨m', hm'⟩ : ∃ x, m - 9 = x := ⟨_, rfl⟩
      have v1 : IntKind.i64.wrap ((m : Int) - 9) = (m' : Int) := by
        rw [show ((m : Int) - 9) = (m' : Int) by omega]; exact IntWalk.i64_in _ (by omega)
      have HM := Lib.hid (show m' + 9 = m by omega)
      clear hm' h9
      go_wp2_with fail
      refine (fof_calls 1000000000 (by decide) _).mono ?_
      rintro e w2 ⟨o2, n2, c2, rfl, hown2, hext2, hno2⟩
      have CM := fmul_calls (HO.out.sl.old hext2) hown2.sl (by omega) (by omega)
      rw [val_lim, val_lim] at CM
      have HCM := Lib.hid CM; have HE2 := Lib.hid hext2
      clear CM hown2 hext2
      go_wp2_with fail
      refine HCM.out.mono ?_
      rintro e w3 ⟨o3, n3, c3, rfl, hown3, hext3, hno3⟩
      have HO3 := Lib.hid hown3; have HE3 := Lib.hid hext3
      clear hown3 hext3
      go_wp2_with fail
      go_roundw
      case rel =>
        have hh := HM.out
        have hs := HE.out.size; have hs2 := HE2.out.size
        exact ⟨m', k + 9, o3, n3, c3, rfl, rfl, by omega, by rw [Nat.pow_add]; exact HO3.out.mono (by omega), (HE.out.trans HE2.out).trans HE3.out⟩
      case measure => have hh := HM.out; simp [intOf]; omega
    · have g1 : ¬ (9 : Int) ≤ (m : Int) := by omega
      clear h9
      go_wp2_with fail
      go_loopw [0, 4] (fun iv ov wr => RP9Rel w N iv ov wr) (fun iv _ _ => (intOf iv).toNat)
      case atStart => exact ⟨m, k, o, n, c, rfl, rfl, hk, HO.out, HE.out⟩
      case round =>
        obtain ⟨m, k, o, n, c, rfl, rfl, hk, hown, hex⟩ := hrel
        have HO := Lib.hid hown; have HE := Lib.hid hex
        have hl : n ≤ 4097 := by rw [← hown.sl.len]; exact pow_limbs (by omega)
        clear hown hex g1
        by_cases h0 : 0 < m
        · have g1 : (0 : Int) < (m : Int) := by omega
          obtain ⟨m', hm'⟩ : ∃ x, m - 1 = x := ⟨_, rfl⟩
          have v1 : IntKind.i64.wrap ((m : Int) - 1) = (m' : Int) := by
            rw [show ((m : Int) - 1) = (m' : Int) by omega]; exact IntWalk.i64_in _ (by omega)
          have HM := Lib.hid (show m' + 1 = m by omega)
          clear hm' h0
          go_wp2_with fail
          refine (fof_calls 10 (by decide) _).mono ?_
          rintro e w2 ⟨o2, n2, c2, rfl, hown2, hext2, hno2⟩
          have CM := fmul_calls (HO.out.sl.old hext2) hown2.sl (by omega) (by omega)
          rw [val_lim, val_lim] at CM
          have HCM := Lib.hid CM; have HE2 := Lib.hid hext2
          clear CM hown2 hext2
          go_wp2_with fail
          refine HCM.out.mono ?_
          rintro e w3 ⟨o3, n3, c3, rfl, hown3, hext3, hno3⟩
          have HO3 := Lib.hid hown3; have HE3 := Lib.hid hext3
          clear hown3 hext3
          go_wp2_with fail
          go_roundw
          case rel =>
            have hh := HM.out
            have hs := HE.out.size; have hs2 := HE2.out.size
            exact ⟨m', k + 1, o3, n3, c3, rfl, rfl, by omega, by rw [Nat.pow_succ]; exact HO3.out.mono (by omega), (HE.out.trans HE2.out).trans HE3.out⟩
          case measure => have hh := HM.out; simp [intOf]; omega
        · obtain rfl : m = 0 := by omega
          obtain rfl : k = N := by omega
          clear h0
          go_wp2_with fail
          go_ret2
          exact ⟨o, n, c, rfl, HO.out, HE.out, by omega⟩

set_option maxRecDepth 100000 in
theorem rone_calls (w : World) : Calls Tryz.prog 93 #[] w (New w 2 (lim U36)) := by
  go_enter Tryz.func93, Tryz.ntmps93
  go_wp2_with fail
  refine (rpow_calls 36 (by omega) _).mono ?_
  rintro e w1 ⟨o1, n1, c1, rfl, hown1, hext1, hno1⟩
  go_wp2_with fail
  go_ret
  have hl := hown1.sl.len
  rw [show lim (10 ^ 36) = lim U36 from rfl] at hown1 hl
  rw [lim_unit] at hl
  simp at hl
  exact ⟨o1, n1, c1, rfl, hown1, hext1, by omega⟩

end Go.Proofs.YtimcnhlcepemjaaGreatDoor

/- gleanref1.Sub, Gcd; gleanref3.made, right. -/
namespace Go.Proofs.YtimcnhlcepemjaaGreatDoor
open Go.RowKit

def FGcdRel (w : World) (L G : Nat) (gk : Nat) (xv yv : Value) (wr : World) : Prop :=
  ∃ (x : Option Addr) (nx cx : Nat) (y : Option Addr) (ny cy X Y : Nat), xv = .slice x nx cx ∧ yv = .slice y ny cy ∧ gk = Y ∧ Own w.heap.size wr x nx cx (lim X) ∧ Own w.heap.size wr y ny cy (lim Y) ∧ Nat.gcd X Y = G ∧ nx ≤ L ∧ ny ≤ L ∧ Ext w wr

set_option maxHeartbeats 2000000 in
set_option maxRecDepth 100000 in
theorem fgcd_calls {a b : Option Addr} {m n c d : Nat} {xs ys : List Nat} {w : World} (ha : Sl w a m c xs) (hb : Sl w b n d ys) (hm : m ≤ 10000000) (hn : n ≤ 10000000) :
    Calls Tryz.prog 131 #[.slice a m c, .slice b n d] w (New w (2 * m + 2 * n) (lim (Nat.gcd (val xs) (val ys)))) := by
  have CA := Lib.hid (rnorm_calls ha (by omega))
  have HB := Lib.hid hb
  clear ha hb
  go_enter Tryz.func131, Tryz.ntmps131
  go_wp2_with fail
  refine CA.out.mono ?_
  rintro e w1 ⟨o1, n1, c1, rfl, hown1, hext1, hno1⟩
  have CB := Lib.hid (rnorm_calls (HB.out.old hext1) (by omega))
  go_wp2_with fail
  refine CB.out.mono ?_
  rintro e w2 ⟨o2, n2, c2, rfl, hown2, hext2, hno2⟩
  have HO1 := Lib.hid (hown1.old hext2); have HO2 := Lib.hid (hown2.mono hext1.size); have HE2 := Lib.hid (hext1.trans hext2)
  obtain ⟨X, hX⟩ : ∃ X, val xs = X := ⟨_, rfl⟩
  obtain ⟨Y, hY⟩ : ∃ Y, val ys = Y := ⟨_, rfl⟩
  rw [hX] at HO1
  rw [hY] at HO2
  have HXV := Lib.hid hX; have HYV := Lib.hid hY
  clear hown1 hown2 hext1 hext2 hX hY
  go_wp2_with fail
  go_loopg [0, 1] Y (fun gk xv yv wr => FGcdRel w (2 * m + 2 * n) (Nat.gcd X Y) gk xv yv wr)
  case atStart => exact ⟨o1, n1, c1, o2, n2, c2, X, Y, rfl, rfl, rfl, HO1.out, HO2.out, rfl, by omega, by omega, HE2.out⟩
  case round =>
    obtain ⟨x, nx, cx, y, ny, cy, X', Y', rfl, rfl, hgk, hx, hy, hg, hnx, hny, hex⟩ := hrel
    have HGK := Lib.hid hgk
    clear hgk
    have HX := Lib.hid hx; have HY := Lib.hid hy; have HG := Lib.hid hg; have HE := Lib.hid hex
    have hly := hy.sl.len
    clear hx hy hg hex
    by_cases h0 : Y' = 0
    · have hn0 : ny = 0 := by rw [← hly, h0]; rfl
      have g1 : ¬ (0 : Int) < (ny : Int) := by omega
      have HH := Lib.hid h0
      clear h0 hn0 hly
      go_wp2_with fail
      go_ret
      have hg := HG.out
      rw [HH.out, Nat.gcd_zero_right] at hg
      exact ⟨x, nx, cx, rfl, by rw [HXV.out, HYV.out, ← hg]; exact HX.out, HE.out, hnx⟩
    · have hn0 : ny ≠ 0 := fun h => h0 ((digs_nil B64_two).1 (List.eq_nil_of_length_eq_zero (hly.trans h)))
      have g1 : (0 : Int) < (ny : Int) := by omega
      have CD := rdivmod_calls HX.out.sl HY.out.sl (by omega) (by omega)
      rw [val_lim, val_lim] at CD
      unfold quoL remL divE at CD
      rw [if_neg h0, if_neg h0, if_neg h0] at CD
      have HCD := Lib.hid CD; have H0 := Lib.hid h0; have HLY := Lib.hid hly
      clear CD h0 hn0 hly
      go_wp2_with fail
      refine HCD.out.mono ?_
      rintro e w4 ⟨a1, d1, L1, a2, d2, L2, rfl, hw1, hw2, hext4, hl1, hl2, -⟩
      have HW2 := Lib.hid (hw2.mono HE.out.size); have HE4 := Lib.hid hext4
      clear hw1 hw2 hext4
      go_wp2_with fail
      go_roundg (X' % Y')
      case measure => rw [HGK.out]; exact Nat.mod_lt _ (Nat.pos_of_ne_zero H0.out)
      case rel =>
        have hlr : L2 ≤ ny := by
          rw [← HW2.out.sl.len, ← HLY.out]
          exact digs_len_mono B64_two (Nat.le_of_lt (Nat.mod_lt _ (Nat.pos_of_ne_zero H0.out)))
        exact ⟨y, ny, cy, a2, L2, d2, Y', X' % Y', rfl, rfl, rfl, HY.out.old HE4.out, HW2.out, (by rw [← HG.out, Nat.gcd_comm Y', ← Nat.gcd_rec, Nat.gcd_comm]), hny, by omega, HE.out.trans HE4.out⟩

end Go.Proofs.YtimcnhlcepemjaaGreatDoor

/- gleanref3.made, right. -/
namespace Go.Proofs.YtimcnhlcepemjaaGreatDoor
open Go.RowKit

set_option maxHeartbeats 2000000 in
set_option maxRecDepth 100000 in
theorem fmade_calls {a b : Option Addr} {m n c d : Nat} {xs ys : List Nat} {w : World} (ha : Sl w a m c xs) (hb : Sl w b n d ys) (hm : m ≤ 1000000) (hn : n ≤ 1000000) (hy : val ys ≠ 0) :
    Calls Tryz.prog 92 #[.slice a m c, .slice b n d] w (NewR w (8 * m + 8 * n) (8 * m + 8 * n) (lim (rN (val xs) (val ys))) (lim (rD (val xs) (val ys)))) := by
  obtain ⟨X, hX⟩ : ∃ X, w.alloc (.cells #[.slice none 0 0, .slice none 0 0] 40) = X := ⟨_, rfl⟩
  have E0 : Ext w X := by rw [← hX]; exact (Ext.refl w).alloc _
  have hr0 := fun w' (h : Ext X w') => box2_row (w := w) (w' := w') (u := .slice none 0 0) (v := .slice none 0 0) (T := 40) (by rw [hX]; exact h)
  have hsz : X.heap.size = w.heap.size + 1 := by rw [← hX, alloc_size]
  have HX := Lib.hid hX; have HE0 := Lib.hid E0; have HR0 := Lib.hid hr0; have HSZ := Lib.hid hsz; have HA := Lib.hid ha; have HB := Lib.hid hb; have HY := Lib.hid hy
  have CG := fgcd_calls (ha.old E0) (hb.old E0) (by omega) (by omega)
  obtain ⟨x, hx⟩ : ∃ x, val xs = x := ⟨_, rfl⟩
  obtain ⟨y, hyv⟩ : ∃ y, val ys = y := ⟨_, rfl⟩
  rw [hx, hyv] at CG ⊢
  obtain ⟨g, hg⟩ : ∃ g, Nat.gcd x y = g := ⟨_, rfl⟩
  rw [hg] at CG
  have HCG := Lib.hid CG; have HG := Lib.hid hg; have HXV := Lib.hid hx; have HYV := Lib.hid hyv
  clear hX E0 hr0 hsz ha hb hy CG hg hx hyv
  go_enter Tryz.func92, Tryz.ntmps92
  go_wp2_with (rw [HX.out])
  refine HCG.out.mono ?_
  rintro e w1 ⟨o1, n1, c1, rfl, hown1, hext1, hno1⟩
  have hgp : g ≠ 0 := by
    have : 0 < g := by rw [← HG.out]; exact gcd_posR (Nat.pos_of_ne_zero (by rw [← HYV.out]; exact HY.out))
    omega
  have CD := rdivmod_calls (HA.out.old (HE0.out.trans hext1)) hown1.sl (by omega) (by omega)
  rw [val_lim, HXV.out] at CD
  unfold quoL remL divE at CD
  rw [if_neg hgp, if_neg hgp, if_neg hgp] at CD
  have HCD := Lib.hid CD; have HO1 := Lib.hid hown1; have HE1 := Lib.hid hext1; have HGP := Lib.hid hgp
  clear CD hown1 hext1 hgp
  go_wp2_with fail
  refine HCD.out.mono ?_
  rintro e w2 ⟨a2, d2, l2, a3, d3, l3, rfl, hown2, hown3, hext2, hl2, hl3, -⟩
  have CD := rdivmod_calls (HB.out.old (HE0.out.trans (HE1.out.trans hext2))) (HO1.out.sl.old hext2) (by omega) (by omega)
  rw [val_lim, HYV.out] at CD
  unfold quoL remL divE at CD
  rw [if_neg HGP.out, if_neg HGP.out, if_neg HGP.out] at CD
  have HCD2 := Lib.hid CD; have HO2 := Lib.hid hown2; have HE2 := Lib.hid hext2
  clear CD hown2 hown3 hext2
  go_wp2_with fail
  refine HCD2.out.mono ?_
  rintro e w3 ⟨a4, d4, l4, a5, d5, l5, rfl, hown4, hown5, hext3, hl4, hl5, -⟩
  have EX := HE1.out.trans (HE2.out.trans hext3)
  obtain ⟨k1, k2, k3, k4⟩ := row2_cells (HR0.out w3 EX)
  go_wp2_with fail
  have HX3 := Lib.hid EX
  have HRW := Lib.hid (HR0.out w3 EX)
  clear EX
  try simp only [Exit.inBlock, Exit.then]
  refine bodyPost_ret (results_box1 rfl _ _ _ _ rfl (load_rat (set2_row HRW.out _ _))) rfl ?_
  have e1 : x / g = rN x y := by rw [← HG.out]; rfl
  have e2 : y / g = rD x y := by rw [← HG.out]; rfl
  have hs := HSZ.out
  have hs1 := HE1.out.size
  have hs2 := HE2.out.size
  have hO2 := (HO2.out.old hext3).set2 (.slice a2 l2 d2) (.slice a4 l4 d4) (by omega : w.heap.size < w1.heap.size)
  have hO4 := hown4.set2 (.slice a2 l2 d2) (.slice a4 l4 d4) (by omega : w.heap.size < w2.heap.size)
  rw [e1] at hO2
  rw [e2] at hO4
  exact ⟨a2, l2, d2, a4, l4, d4, rfl, hO2.mono (by omega), hO4.mono (by omega), set2_ext (HE0.out.trans HX3.out) (Nat.le_refl _) _ _, by omega, by omega⟩

set_option maxHeartbeats 2000000 in
set_option maxRecDepth 100000 in
theorem fright_calls {a b : Option Addr} {m n c d : Nat} {ys : List Nat} {w : World} (hb : Sl w b n d ys) (hn : n ≤ 1000000) :
    Calls Tryz.prog 91 #[RatV a m c b n d] w (fun e w' => ∃ a' m' c' b' n' d', e = .returned (RatV a' m' c' b' n' d') ∧ ((val ys ≠ 0 ∧ a' = a ∧ m' = m ∧ c' = c ∧ b' = b ∧ n' = n ∧ d' = d) ∨ (val ys = 0 ∧ a' = none ∧ m' = 0 ∧ c' = 0 ∧ n' ≤ 2 ∧ Own w.heap.size w' b' n' d' (lim 1))) ∧ Ext w w') := by
  obtain ⟨X, hX⟩ : ∃ X, w.alloc (.cells #[.slice a m c, .slice b n d] 40) = X := ⟨_, rfl⟩
  obtain ⟨Y, hY⟩ : ∃ Y, X.alloc (.cells #[.slice none 0 0, .slice none 0 0] 40) = Y := ⟨_, rfl⟩
  have E0 : Ext w X := by rw [← hX]; exact (Ext.refl w).alloc _
  have E1 : Ext X Y := by rw [← hY]; exact (Ext.refl X).alloc _
  have hsz : X.heap.size = w.heap.size + 1 := by rw [← hX, alloc_size]
  have hsy : Y.heap.size = w.heap.size + 2 := by rw [← hY, alloc_size, hsz]
  have r0 := fun w' (h : Ext Y w') => box2_row (w := w) (w' := w') (u := .slice a m c) (v := .slice b n d) (T := 40) (by rw [hX]; exact E1.trans h)
  have r1 := fun w' (h : Ext Y w') => box2_row (w := X) (w' := w') (u := .slice none 0 0) (v := .slice none 0 0) (T := 40) (by rw [hY]; exact h)
  rw [hsz] at r1
  have CN := Lib.hid (rnorm_calls (hb.old (E0.trans E1)) (by omega))
  obtain ⟨k1, k2, k3, k4⟩ := row2_cells (r0 Y (Ext.refl _))
  have HX := Lib.hid hX; have HY := Lib.hid hY; have HE0 := Lib.hid (E0.trans E1); have HR0 := Lib.hid r0; have HR1 := Lib.hid r1; have HSY := Lib.hid hsy
  obtain ⟨y, hyv⟩ : ∃ y, val ys = y := ⟨_, rfl⟩
  rw [hyv] at CN ⊢
  clear hX hY E0 E1 r0 r1 hb hyv hsy
  go_enter Tryz.func91, Tryz.ntmps91
  go_wp2_with (first | rw [HX.out, HY.out] | rw [HX.out] | rw [HY.out])
  refine CN.out.mono ?_
  rintro e w1 ⟨o1, n1, c1, rfl, hown1, hext1, hno1⟩
  have hl := hown1.sl.len
  obtain ⟨j1, j2, j3, j4⟩ := row2_cells (HR0.out _ hext1)
  have HE1 := Lib.hid hext1
  clear k1 k2 k3 k4
  by_cases hy0 : y = 0
  · have hn0 : n1 = 0 := by rw [← hl, hy0]; rfl
    have g1 : ((n1 : Int) == 0) = true := by rw [hn0]; rfl
    have HH := Lib.hid hy0
    clear hy0 hn0 hl hown1 hext1 j1 j2 j3 j4
    go_wp2_with fail
    refine (fof_calls 1 (by decide) _).mono ?_
    rintro e w2 ⟨o2, n2, c2, rfl, hown2, hext2, hno2⟩
    obtain ⟨i1, i2, i3, i4⟩ := row2_cells (HR1.out _ (HE1.out.trans hext2))
    have HRW := Lib.hid (HR1.out _ (HE1.out.trans hext2))
    have HO2 := Lib.hid hown2; have HE2 := Lib.hid hext2
    clear hown2 hext2
    go_wp2_with fail
    try simp only [Exit.inBlock, Exit.then]
    refine bodyPost_ret (results_box1 rfl _ _ _ _ rfl (load_rat (set2_row HRW.out _ _))) rfl ?_
    have hs := HSY.out
    have hs1 := HE1.out.size
    have hO2 := (HO2.out.set2 (.slice none 0 0) (.slice o2 n2 c2) (by omega : w.heap.size + 1 < w1.heap.size)).mono (by omega : w.heap.size ≤ w1.heap.size)
    exact ⟨none, 0, 0, o2, n2, c2, rfl, .inr ⟨HH.out, rfl, rfl, rfl, hno2, hO2⟩, set2_ext (HE0.out.trans (HE1.out.trans HE2.out)) (Nat.le_succ _) _ _⟩
  · have hn0 : n1 ≠ 0 := fun h => hy0 ((digs_nil B64_two).1 (List.eq_nil_of_length_eq_zero (hl.trans h)))
    have g1 : ((n1 : Int) == 0) = false := by rw [beq_eq_false_iff_ne]; omega
    have HH := Lib.hid hy0
    obtain ⟨i1, i2, i3, i4⟩ := row2_cells (HR1.out _ HE1.out)
    have HRW := Lib.hid (HR1.out _ HE1.out)
    clear hy0 hn0 hl hown1 hext1
    go_wp2_with fail
    try simp only [Exit.inBlock, Exit.then]
    refine bodyPost_ret (results_box1 rfl _ _ _ _ rfl (load_rat (set2_row HRW.out _ _))) rfl ?_
    exact ⟨a, m, c, b, n, d, rfl, .inl ⟨HH.out, rfl, rfl, rfl, rfl, rfl, rfl⟩, set2_ext (HE0.out.trans HE1.out) (Nat.le_succ _) _ _⟩

end Go.Proofs.YtimcnhlcepemjaaGreatDoor
