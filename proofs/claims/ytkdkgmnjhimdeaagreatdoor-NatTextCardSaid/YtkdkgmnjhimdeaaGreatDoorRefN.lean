/- gleanref1.MulDiv, Pow10, Sub, Gcd. -/
import Derived.Test.YtkdkgmnjhimdeaaGreatDoorRefB
import Derived.Test.YtkdkgmnjhimdeaaGreatDoorRatM
namespace Go.Proofs.YtkdkgmnjhimdeaaGreatDoor
open Go.RowKit

set_option maxHeartbeats 1000000 in
set_option maxRecDepth 100000 in
theorem rmuldiv_calls {a b e : Option Addr} {m n l c d f : Nat} {xs ys zs : List Nat} {w : World} (ha : Sl w a m c xs) (hb : Sl w b n d ys) (he : Sl w e l f zs) (hm : m ≤ 10000000) (hn : n ≤ 10000000) (hl : l ≤ 10000000) :
    Calls Tryz.prog 37 #[.slice a m c, .slice b n d, .slice e l f] w (DivRes w (4 * m + 4 * n + 2 * l) (quoL (val xs * val ys) (val zs)) (remL (val xs * val ys) (val zs)) (divE (val zs))) := by
  have CM := Lib.hid (fmul_calls ha hb (by omega) (by omega))
  have HE := Lib.hid he
  clear ha hb he
  go_enter Tryz.func37, Tryz.ntmps37
  go_wp2_with fail
  refine CM.out.mono ?_
  rintro e w1 ⟨o1, n1, c1, rfl, hown1, hext1, hno1⟩
  have CD := rdivmod_calls hown1.sl (HE.out.old hext1) (by omega) (by omega)
  rw [val_lim] at CD
  have HCD := Lib.hid CD; have HE1 := Lib.hid hext1
  clear CD hown1 hext1
  go_wp2_with fail
  refine HCD.out.mono ?_
  rintro e w2 ⟨a1, c1, L1, a2, c2, L2, rfl, hw1, hw2, hext2, h1, h2, h3⟩
  go_wp2_with fail
  go_ret3
  have hs := HE1.out.size
  exact ⟨a1, c1, L1, a2, c2, L2, rfl, hw1.mono hs, hw2.mono hs, HE1.out.trans hext2, by omega, by omega, h3⟩

/-- How long a power of ten is. -/
theorem pow_limbs {k : Nat} (h : k ≤ 4096) : (lim (10 ^ k)).length ≤ 4097 := by
  have h1 : 10 ^ k ≤ B64 ^ k := Nat.pow_le_pow_left (by decide) k
  have h2 : B64 ^ k < B64 ^ (k + 1) := Nat.pow_lt_pow_right (by decide) (Nat.lt_succ_self k)
  have h3 : (lim (10 ^ k)).length ≤ k + 1 := lim_len_le (Nat.lt_of_le_of_lt h1 h2)
  omega

def RP9Rel (w : World) (N : Nat) (iv ov : Value) (wr : World) : Prop :=
  ∃ (m k : Nat) (o : Option Addr) (n c : Nat), iv = .int .i64 (m : Int) ∧ ov = .slice o n c ∧ k + m = N ∧ Own w.heap.size wr o n c (lim (10 ^ k)) ∧ Ext w wr

set_option maxHeartbeats 4000000 in
set_option maxRecDepth 100000 in
theorem rpow_calls (N : Nat) (hN : N ≤ 4096) (w : World) : Calls Tryz.prog 39 #[.int .i64 (N : Int)] w (New2 w 5000 (lim (10 ^ N)) 0) := by
  have h1 : ¬ ((N : Int) < 0) := by omega
  have h2 : ¬ (4096 < (N : Int)) := by omega
  go_enter Tryz.func39, Tryz.ntmps39
  go_wp2_with fail
  refine (fof_calls 1 (by decide) _).mono ?_
  rintro e w1 ⟨o1, n1, c1, rfl, hown1, hext1, hno1⟩
  have HO1 := Lib.hid hown1; have HE1 := Lib.hid hext1
  clear hown1 hext1
  go_wp2_with fail
  go_loopw [0, 4] (fun iv ov wr => RP9Rel w N iv ov wr) (fun iv _ _ => (intOf iv).toNat)
  case atStart => exact ⟨N, 0, o1, n1, c1, rfl, rfl, by omega, by rw [Nat.pow_zero]; exact HO1.out, HE1.out⟩
  case round =>
    obtain ⟨m, k, o, n, c, rfl, rfl, hk, hown, hex⟩ := hrel
    have HO := Lib.hid hown; have HE := Lib.hid hex
    have hl : n ≤ 4097 := by rw [← hown.sl.len]; exact pow_limbs (by omega)
    clear hown hex
    by_cases h9 : 9 ≤ m
    · have g1 : (9 : Int) ≤ (m : Int) := by omega
      obtain ⟨m', hm'⟩ : ∃ x, m - 9 = x := ⟨_, rfl⟩
      have v1 : IntKind.i64.wrap ((m : Int) - 9) = (m' : Int) := by
        rw [show ((m : Int) - 9) = (m' : Int) by omega]; exact IntWalk.i64_in _ (by omega)
      have HM := Lib.hid (show m' + 9 = m by omega)
      clear hm' h9
      go_wp2_with fail
      refine (fof_calls 1000000000 (by decide) _).mono ?_
      rintro e w2 ⟨o2, n2, c2, rfl, hown2, hext2, hno2⟩
      have CM := fmul_calls (HO.out.sl.old hext2) hown2.sl (by omega) (by omega)
      rw [val_lim, val_lim] at CM
      have HCM := Lib.hid CM; have HE2 := Lib.hid hext2
      clear CM hown2 hext2
      go_wp2_with fail
      refine HCM.out.mono ?_
      rintro e w3 ⟨o3, n3, c3, rfl, hown3, hext3, hno3⟩
      have HO3 := Lib.hid hown3; have HE3 := Lib.hid hext3
      clear hown3 hext3
      go_wp2_with fail
      go_roundw
      case rel =>
        have hh := HM.out
        have hs := HE.out.size; have hs2 := HE2.out.size
        exact ⟨m', k + 9, o3, n3, c3, rfl, rfl, by omega, by rw [Nat.pow_add]; exact HO3.out.mono (by omega), (HE.out.trans HE2.out).trans HE3.out⟩
      case measure => have hh := HM.out; simp [intOf]; omega
    · have g1 : ¬ (9 : Int) ≤ (m : Int) := by omega
      clear h9
      go_wp2_with fail
      go_loopw [0, 4] (fun iv ov wr => RP9Rel w N iv ov wr) (fun iv _ _ => (intOf iv).toNat)
      case atStart => exact ⟨m, k, o, n, c, rfl, rfl, hk, HO.out, HE.out⟩
      case round =>
        obtain ⟨m, k, o, n, c, rfl, rfl, hk, hown, hex⟩ := hrel
        have HO := Lib.hid hown; have HE := Lib.hid hex
        have hl : n ≤ 4097 := by rw [← hown.sl.len]; exact pow_limbs (by omega)
        clear hown hex g1
        by_cases h0 : 0 < m
        · have g1 : (0 : Int) < (m : Int) := by omega
          obtain ⟨m', hm'⟩ : ∃ x, m - 1 = x := ⟨_, rfl⟩
          have v1 : IntKind.i64.wrap ((m : Int) - 1) = (m' : Int) := by
            rw [show ((m : Int) - 1) = (m' : Int) by omega]; exact IntWalk.i64_in _ (by omega)
          have HM := Lib.hid (show m' + 1 = m by omega)
          clear hm' h0
          go_wp2_with fail
          refine (fof_calls 10 (by decide) _).mono ?_
          rintro e w2 ⟨o2, n2, c2, rfl, hown2, hext2, hno2⟩
          have CM := fmul_calls (HO.out.sl.old hext2) hown2.sl (by omega) (by omega)
          rw [val_lim, val_lim] at CM
          have HCM := Lib.hid CM; have HE2 := Lib.hid hext2
          clear CM hown2 hext2
          go_wp2_with fail
          refine HCM.out.mono ?_
          rintro e w3 ⟨o3, n3, c3, rfl, hown3, hext3, hno3⟩
          have HO3 := Lib.hid hown3; have HE3 := Lib.hid hext3
          clear hown3 hext3
          go_wp2_with fail
          go_roundw
          case rel =>
            have hh := HM.out
            have hs := HE.out.size; have hs2 := HE2.out.size
            exact ⟨m', k + 1, o3, n3, c3, rfl, rfl, by omega, by rw [Nat.pow_succ]; exact HO3.out.mono (by omega), (HE.out.trans HE2.out).trans HE3.out⟩
          case measure => have hh := HM.out; simp [intOf]; omega
        · obtain rfl : m = 0 := by omega
          obtain rfl : k = N := by omega
          clear h0
          go_wp2_with fail
          go_ret2
          exact ⟨o, n, c, rfl, HO.out, HE.out, by omega⟩

theorem rmuldiv_at {a b e : Option Addr} {m n l c d f : Nat} {xs ys zs : List Nat} {w : World} (X Y Z : Nat) (ha : Sl w a m c xs) (hb : Sl w b n d ys) (he : Sl w e l f zs) (hx : val xs = X) (hy : val ys = Y) (hz : val zs = Z)
    (hZ : Z ≠ 0) (hm : m ≤ 10000000) (hn : n ≤ 10000000) (hl : l ≤ 10000000) :
    Calls Tryz.prog 37 #[.slice a m c, .slice b n d, .slice e l f] w (DivRes w (4 * m + 4 * n + 2 * l) (lim (X * Y / Z)) (lim (X * Y % Z)) 0) := by
  have := rmuldiv_calls ha hb he hm hn hl
  rw [hx, hy, hz] at this
  unfold quoL remL divE at this
  rwa [if_neg hZ, if_neg hZ, if_neg hZ] at this


set_option maxHeartbeats 1000000 in
set_option maxRecDepth 100000 in
theorem fsub_ok {a b : Option Addr} {m n c d : Nat} {xs ys : List Nat} {w : World} (X Y : Nat) (ha : Sl w a m c xs) (hb : Sl w b n d ys) (hx : val xs = X) (hy : val ys = Y) (hm : m ≤ 100000000) (hn : n ≤ 100000000) (h : Y ≤ X) :
    Calls Tryz.prog 22 #[.slice a m c, .slice b n d] w (New2 w (2 * m) (lim (X - Y)) 0) := by
  have CA := Lib.hid (digits_calls ha (by omega))
  have HB := Lib.hid hb
  rw [hx] at CA
  have HYV := Lib.hid hy
  obtain ⟨q, hq, hq0⟩ : ∃ q : Int, cmpN X Y = q ∧ ¬ (q < 0) := by
    rcases Nat.lt_or_eq_of_le h with h | h
    · exact ⟨_, cmpN_gt h, by decide⟩
    · exact ⟨_, cmpN_eq h.symm, by decide⟩
  have HQ := Lib.hid hq; have HLE := Lib.hid h
  clear ha hb hx hy hq h
  go_enter Tryz.func22, Tryz.ntmps22
  go_wp2_with fail
  refine CA.out.mono ?_
  rintro e w1 ⟨o1, M, c1, rfl, hown1, hext1, hno1⟩
  have CB := Lib.hid (digits_calls (HB.out.old hext1) (by omega))
  rw [HYV.out] at CB
  go_wp2_with fail
  refine CB.out.mono ?_
  rintro e w2 ⟨o2, N, c2, rfl, hown2, hext2, hno2⟩
  have CC := rdcmp_calls X Y (hown1.sl.old hext2) hown2.sl
  rw [HQ.out] at CC
  have HCC := Lib.hid CC; have HO1 := Lib.hid (hown1.sl.old hext2); have HO2 := Lib.hid hown2.sl; have HE2 := Lib.hid (hext1.trans hext2)
  clear CC hown1 hown2 hext1 hext2
  go_wp2_with fail
  refine HCC.out.mono ?_
  rintro e w3 ⟨rfl, k3, rfl⟩
  have D3 := Lib.hid ((Ext.refl w2).drewN k3)
  have CT := rtake_calls (HO1.out.old D3.out) (HO2.out.old D3.out) (bd_dig X) (bd_dig Y) (by rw [← HO1.out.len, ← HO2.out.len]; exact digs_len_mono B32_two HLE.out) (by rw [rval_dig, rval_dig]; exact HLE.out) (by omega)
  rw [rval_dig, rval_dig] at CT
  have HCT := Lib.hid CT
  clear CT
  go_wp2_with fail
  refine HCT.out.mono ?_
  rintro e w4 ⟨o4, n4, c4, rfl, hown4, hext4, hno4⟩
  have CN := number_calls hown4.sl (bd_dig _) (by omega)
  rw [rval_dig] at CN
  have HCN := Lib.hid CN; have HE4 := Lib.hid (HE2.out.trans (D3.out.trans hext4))
  clear CN hown4 hext4
  go_wp2_with fail
  refine HCN.out.mono ?_
  rintro e w5 ⟨o5, n5, c5, rfl, hown5, hext5, hno5⟩
  go_wp2_with fail
  go_ret2
  exact ⟨o5, n5, c5, rfl, hown5.mono HE4.out.size, HE4.out.trans hext5, by omega⟩

set_option maxHeartbeats 1000000 in
set_option maxRecDepth 100000 in
theorem fsub_below {a b : Option Addr} {m n c d : Nat} {xs ys : List Nat} {w : World} (X Y : Nat) (ha : Sl w a m c xs) (hb : Sl w b n d ys) (hx : val xs = X) (hy : val ys = Y) (hm : m ≤ 100000000) (hn : n ≤ 100000000) (h : X < Y) :
    Calls Tryz.prog 22 #[.slice a m c, .slice b n d] w (New2 w 0 [] 10) := by
  have CA := Lib.hid (digits_calls ha (by omega))
  have HB := Lib.hid hb
  rw [hx] at CA
  have HYV := Lib.hid hy
  have HQ := Lib.hid (cmpN_lt h)
  clear ha hb hx hy h
  go_enter Tryz.func22, Tryz.ntmps22
  go_wp2_with fail
  refine CA.out.mono ?_
  rintro e w1 ⟨o1, M, c1, rfl, hown1, hext1, hno1⟩
  have CB := Lib.hid (digits_calls (HB.out.old hext1) (by omega))
  rw [HYV.out] at CB
  go_wp2_with fail
  refine CB.out.mono ?_
  rintro e w2 ⟨o2, N, c2, rfl, hown2, hext2, hno2⟩
  have CC := rdcmp_calls X Y (hown1.sl.old hext2) hown2.sl
  rw [HQ.out] at CC
  have HCC := Lib.hid CC; have HE2 := Lib.hid (hext1.trans hext2)
  clear CC hown1 hown2 hext1 hext2
  go_wp2_with fail
  refine HCC.out.mono ?_
  rintro e w3 ⟨rfl, k3, rfl⟩
  go_wp2_with fail
  go_ret2
  exact ⟨none, 0, 0, rfl, Own.nil _ _, HE2.out.drewN k3, Nat.le_refl _⟩

def FGcdRel (w : World) (L G : Nat) (gk : Nat) (xv yv : Value) (wr : World) : Prop :=
  ∃ (x : Option Addr) (nx cx : Nat) (y : Option Addr) (ny cy X Y : Nat), xv = .slice x nx cx ∧ yv = .slice y ny cy ∧ gk = Y ∧ Own w.heap.size wr x nx cx (lim X) ∧ Own w.heap.size wr y ny cy (lim Y) ∧ Nat.gcd X Y = G ∧ nx ≤ L ∧ ny ≤ L ∧ Ext w wr

set_option maxHeartbeats 2000000 in
set_option maxRecDepth 100000 in
theorem fgcd_calls {a b : Option Addr} {m n c d : Nat} {xs ys : List Nat} {w : World} (ha : Sl w a m c xs) (hb : Sl w b n d ys) (hm : m ≤ 10000000) (hn : n ≤ 10000000) :
    Calls Tryz.prog 41 #[.slice a m c, .slice b n d] w (New w (2 * m + 2 * n) (lim (Nat.gcd (val xs) (val ys)))) := by
  have CA := Lib.hid (rnorm_calls ha (by omega))
  have HB := Lib.hid hb
  clear ha hb
  go_enter Tryz.func41, Tryz.ntmps41
  go_wp2_with fail
  refine CA.out.mono ?_
  rintro e w1 ⟨o1, n1, c1, rfl, hown1, hext1, hno1⟩
  have CB := Lib.hid (rnorm_calls (HB.out.old hext1) (by omega))
  go_wp2_with fail
  refine CB.out.mono ?_
  rintro e w2 ⟨o2, n2, c2, rfl, hown2, hext2, hno2⟩
  have HO1 := Lib.hid (hown1.old hext2); have HO2 := Lib.hid (hown2.mono hext1.size); have HE2 := Lib.hid (hext1.trans hext2)
  obtain ⟨X, hX⟩ : ∃ X, val xs = X := ⟨_, rfl⟩
  obtain ⟨Y, hY⟩ : ∃ Y, val ys = Y := ⟨_, rfl⟩
  rw [hX] at HO1
  rw [hY] at HO2
  have HXV := Lib.hid hX; have HYV := Lib.hid hY
  clear hown1 hown2 hext1 hext2 hX hY
  go_wp2_with fail
  go_loopg [0, 1] Y (fun gk xv yv wr => FGcdRel w (2 * m + 2 * n) (Nat.gcd X Y) gk xv yv wr)
  case atStart => exact ⟨o1, n1, c1, o2, n2, c2, X, Y, rfl, rfl, rfl, HO1.out, HO2.out, rfl, by omega, by omega, HE2.out⟩
  case round =>
    obtain ⟨x, nx, cx, y, ny, cy, X', Y', rfl, rfl, hgk, hx, hy, hg, hnx, hny, hex⟩ := hrel
    have HGK := Lib.hid hgk
    clear hgk
    have HX := Lib.hid hx; have HY := Lib.hid hy; have HG := Lib.hid hg; have HE := Lib.hid hex
    have hly := hy.sl.len
    clear hx hy hg hex
    by_cases h0 : Y' = 0
    · have hn0 : ny = 0 := by rw [← hly, h0]; rfl
      have g1 : ¬ (0 : Int) < (ny : Int) := by omega
      have HH := Lib.hid h0
      clear h0 hn0 hly
      go_wp2_with fail
      go_ret
      have hg := HG.out
      rw [HH.out, Nat.gcd_zero_right] at hg
      exact ⟨x, nx, cx, rfl, by rw [HXV.out, HYV.out, ← hg]; exact HX.out, HE.out, hnx⟩
    · have hn0 : ny ≠ 0 := fun h => h0 ((digs_nil B64_two).1 (List.eq_nil_of_length_eq_zero (hly.trans h)))
      have g1 : (0 : Int) < (ny : Int) := by omega
      have CD := rdivmod_calls HX.out.sl HY.out.sl (by omega) (by omega)
      rw [val_lim, val_lim] at CD
      unfold quoL remL divE at CD
      rw [if_neg h0, if_neg h0, if_neg h0] at CD
      have HCD := Lib.hid CD; have H0 := Lib.hid h0; have HLY := Lib.hid hly
      clear CD h0 hn0 hly
      go_wp2_with fail
      refine HCD.out.mono ?_
      rintro e w4 ⟨a1, d1, L1, a2, d2, L2, rfl, hw1, hw2, hext4, hl1, hl2, -⟩
      have HW2 := Lib.hid (hw2.mono HE.out.size); have HE4 := Lib.hid hext4
      clear hw1 hw2 hext4
      go_wp2_with fail
      go_roundg (X' % Y')
      case measure => rw [HGK.out]; exact Nat.mod_lt _ (Nat.pos_of_ne_zero H0.out)
      case rel =>
        have hlr : L2 ≤ ny := by
          rw [← HW2.out.sl.len, ← HLY.out]
          exact digs_len_mono B64_two (Nat.le_of_lt (Nat.mod_lt _ (Nat.pos_of_ne_zero H0.out)))
        exact ⟨y, ny, cy, a2, L2, d2, Y', X' % Y', rfl, rfl, rfl, HY.out.old HE4.out, HW2.out, (by rw [← HG.out, Nat.gcd_comm Y', ← Nat.gcd_rec, Nat.gcd_comm]), hny, by omega, HE.out.trans HE4.out⟩


end Go.Proofs.YtkdkgmnjhimdeaaGreatDoor
