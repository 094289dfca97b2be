/- gleanhelp.Rat, Normal, Place; gleanlaw3.small, frac, right. -/
import Derived.Test.YtnfjfgfkeigkiaaGreatDoorRat2
import Derived.Test.YtnfjfgfkeigkiaaGreatDoorRat5
import Derived.Test.YtnfjfgfkeigkiaaGreatDoorHNat
namespace Go.Proofs.YtnfjfgfkeigkiaaGreatDoor
open Go.RowKit

set_option maxHeartbeats 2000000 in
set_option maxRecDepth 100000 in
theorem hrat_calls {a1 b1 a2 b2 : Option Addr} {m1 n1 c1 d1 m2 n2 c2 d2 : Nat} {xs1 ys1 xs2 ys2 : List Nat} {w : World} (ha1 : Sl w a1 m1 c1 xs1) (hb1 : Sl w b1 n1 d1 ys1) (ha2 : Sl w a2 m2 c2 xs2) (hb2 : Sl w b2 n2 d2 ys2)
    (hm1 : m1 ≤ 1000000) (hn1 : n1 ≤ 1000000) (hm2 : m2 ≤ 1000000) (hn2 : n2 ≤ 1000000) :
    Calls Tryz.prog 18 #[RatV a1 m1 c1 b1 n1 d1, RatV a2 m2 c2 b2 n2 d2] w (RetE (.bool (decide (xs1 = xs2 ∧ ys1 = ys2))) w) := by
  obtain ⟨X1, hX1⟩ : ∃ X, w.alloc (.cells #[.slice a1 m1 c1, .slice b1 n1 d1] 25) = X := ⟨_, rfl⟩
  obtain ⟨X2, hX2⟩ : ∃ X, X1.alloc (.cells #[.slice a2 m2 c2, .slice b2 n2 d2] 25) = X := ⟨_, rfl⟩
  have hsz1 : X1.heap.size = w.heap.size + 1 := by rw [← hX1, alloc_size]
  have E1 : Ext w X1 := by rw [← hX1]; exact (Ext.refl w).alloc _
  have E2 : Ext X1 X2 := by rw [← hX2]; exact (Ext.refl X1).alloc _
  have R1 : X2.heap[w.heap.size]? = some (.cells #[.slice a1 m1 c1, .slice b1 n1 d1] 25 (0, 0)) := box2_row (w := w) (by rw [hX1]; exact E2)
  have R2 : X2.heap[w.heap.size + 1]? = some (.cells #[.slice a2 m2 c2, .slice b2 n2 d2] 25 (0, 0)) := by rw [← hsz1]; exact box2_row (w := X1) (by rw [hX2]; exact Ext.refl _)
  have HE := Lib.hid (E1.trans E2)
  have C1 := Lib.hid (hnat_calls (ha1.old (E1.trans E2)) (ha2.old (E1.trans E2)) (by omega) (by omega))
  have HB1 := Lib.hid (hb1.old (E1.trans E2)); have HB2 := Lib.hid (hb2.old (E1.trans E2))
  obtain ⟨k1, k2, k3, k4⟩ := row2_cells R1
  obtain ⟨j1, j2, j3, j4⟩ := row2_cells R2
  have HX1 := Lib.hid hX1; have HX2 := Lib.hid hX2; have HR1 := Lib.hid R1; have HR2 := Lib.hid R2
  clear hX1 hX2 E1 E2 R1 R2 ha1 hb1 ha2 hb2
  by_cases he : xs1 = xs2
  · rw [decide_eq_true he] at C1
    have hv : decide (xs1 = xs2 ∧ ys1 = ys2) = decide (ys1 = ys2) := by
      by_cases h2 : ys1 = ys2
      · rw [decide_eq_true h2, decide_eq_true ⟨he, h2⟩]
      · rw [decide_eq_false h2, decide_eq_false (fun h => h2 h.2)]
    rw [hv]
    have HV := Lib.hid hv
    clear he hv
    go_enter Tryz.func18, Tryz.ntmps18
    go_wp2_with (first | rw [HX1.out] | rw [HX2.out])
    refine C1.out.mono ?_
    rintro e w' ⟨rfl, q, rfl⟩
    have ED := (Ext.refl X2).drewN q
    clear k1 k2 k3 k4 j1 j2 j3 j4
    obtain ⟨k1, k2, k3, k4⟩ := row2_cells (rowE ED HR1.out)
    obtain ⟨j1, j2, j3, j4⟩ := row2_cells (rowE ED HR2.out)
    have C2 := Lib.hid (hnat_calls (HB1.out.old ED) (HB2.out.old ED) (by omega) (by omega))
    have HED := Lib.hid ED
    clear ED
    go_wp2_with fail
    refine C2.out.mono ?_
    rintro e w' ⟨rfl, q2, rfl⟩
    go_wp2_with fail
    go_ret
    exact ⟨rfl, HE.out.drewN _⟩
  · rw [decide_eq_false he] at C1
    rw [decide_eq_false (fun h => he h.1)]
    clear he
    go_enter Tryz.func18, Tryz.ntmps18
    go_wp2_with (first | rw [HX1.out] | rw [HX2.out])
    refine C1.out.mono ?_
    rintro e w' ⟨rfl, q, rfl⟩
    go_wp2_with fail
    go_ret
    exact ⟨rfl, HE.out.drewN _⟩

set_option maxHeartbeats 2000000 in
set_option maxRecDepth 100000 in
theorem hnormal_calls {a : Option Addr} {n c X : Nat} {w : World} (ha : Sl w a n c (lim X)) (hn : n ≤ 1000000) :
    Calls Tryz.prog 64 #[.slice a n c] w (Ret (.bool true) w) := by
  obtain ⟨i0, hi, hz0, hs, hby⟩ := info_parts info64
  have hl := ha.len
  by_cases hX : X = 0
  · have hn0 : n = 0 := by rw [← hl, hX]; rfl
    subst hn0
    clear hi hz0 hs hby hl hX ha
    go_enter Tryz.func64, Tryz.ntmps64
    go_wp2_with fail
    go_ret
    exact ⟨rfl, rfl⟩
  · have htop := lim_top hX
    rw [hl] at htop
    have hn0 : n ≠ 0 := fun h => hX (lim_len_zero (by rw [hl]; exact h))
    obtain ⟨b, off, hix, hcell, -⟩ := ha.ix (P := Tryz.prog) Tryz.underlying23 hi hs
    have x1 := hix (n - 1) (by omega)
    have x2 := hcell (n - 1) (by omega)
    rw [show ((n - 1 : Nat) : Int) = (n : Int) - 1 by omega] at x1
    obtain ⟨t, ht⟩ : ∃ t, (lim X).getD (n - 1) 0 = t := ⟨_, rfl⟩
    rw [ht] at x2 htop
    have g1 : ((n : Int) == 0) = false := by rw [beq_eq_false_iff_ne]; omega
    have g2 : ((t : Int) == 0) = false := by rw [beq_eq_false_iff_ne]; omega
    clear hi hz0 hs hby hl hX ha ht hix hcell
    go_enter Tryz.func64, Tryz.ntmps64
    go_wp2_with fail
    go_ret
    refine ⟨?_, rfl⟩
    show Ending.returned (.bool ((t : Int) != 0)) = _
    rw [bne, g2]; rfl


set_option maxHeartbeats 2000000 in
set_option maxRecDepth 100000 in
/-- A place in a list of n. -/
theorem hplace_calls (k : Int) (hk : -9223372036854775808 ≤ k ∧ k ≤ 9223372036854775807) (n : Nat) (hn : 0 < n ∧ n ≤ 1000000) (w : World) :
    ∃ r : Nat, r < n ∧ Calls Tryz.prog 25 #[.int .i64 k, .int .i64 (n : Int)] w (Ret (.int .i64 (r : Int)) w) := by
  obtain ⟨q, hq⟩ : ∃ q, k.tmod (n : Int) = q := ⟨_, rfl⟩
  have h1 : -(n : Int) < q ∧ q < (n : Int) := by
    rw [← hq]
    constructor
    · exact Int.lt_tmod_of_pos k (by omega)
    · exact Int.tmod_lt_of_pos k (by omega)
  have g0 : ((n : Int) == 0) = false := by rw [beq_eq_false_iff_ne]; omega
  have g00 : ¬ ((n : Int) = 0) := by omega
  by_cases hneg : q < 0
  · refine ⟨(q + n).toNat, by omega, ?_⟩
    have hr : (((q + n).toNat : Nat) : Int) = q + n := by omega
    rw [hr]
    have hw : IntKind.i64.wrap (q + (n : Int)) = q + (n : Int) := IntWalk.i64_in _ (by omega)
    have hw0 : IntKind.i64.wrap q = q := IntWalk.i64_in _ (by omega)
    go_enter Tryz.func25, Tryz.ntmps25
    go_wp2_with fail
    go_ret
    exact ⟨rfl, rfl⟩
  · refine ⟨q.toNat, by omega, ?_⟩
    have hr : ((q.toNat : Nat) : Int) = q := by omega
    rw [hr]
    have hw0 : IntKind.i64.wrap q = q := IntWalk.i64_in _ (by omega)
    go_enter Tryz.func25, Tryz.ntmps25
    go_wp2_with fail
    go_ret
    exact ⟨rfl, rfl⟩

set_option maxHeartbeats 2000000 in
set_option maxRecDepth 100000 in
theorem frac_calls (x y : Nat) (hx : x < B64) (hy : y < B64) (hy0 : y ≠ 0) (w : World) (htz : TzTab w) :
    Calls Tryz.prog 50 #[.int .u64 (x : Int), .int .u64 (y : Int)] w (NewR w 1 1 (lim (rN x y)) (lim (rD x y))) := by
  obtain ⟨X, hX⟩ : ∃ X, w.alloc (.cells #[.slice none 0 0, .slice none 0 0] 25) = X := ⟨_, rfl⟩
  have E0 : Ext w X := by rw [← hX]; exact (Ext.refl w).alloc _
  have hr0 := box2_row (w := w) (w' := X) (u := .slice none 0 0) (v := .slice none 0 0) (T := 25) (by rw [hX]; exact Ext.refl _)
  have hsz : X.heap.size = w.heap.size + 1 := by rw [← hX, alloc_size]
  have HX := Lib.hid hX; have HE0 := Lib.hid E0; have HR0 := Lib.hid hr0; have HSZ := Lib.hid hsz; have HTZ := Lib.hid htz; have HXB := Lib.hid hx; have HYB := Lib.hid hy; have HY0 := Lib.hid hy0
  clear hX E0 hr0 hsz htz hx hy hy0
  go_enter Tryz.func50, Tryz.ntmps50
  go_wp2_with (rw [HX.out])
  refine (of_calls x HXB.out _).mono ?_
  rintro e w1 ⟨o1, n1, c1, rfl, hown1, hext1, hno1⟩
  go_wp2_with fail
  refine (of_calls y HYB.out _).mono ?_
  rintro e w2 ⟨o2, n2, c2, rfl, hown2, hext2, hno2⟩
  have CO := rof_calls (hown1.sl.old hext2) hown2.sl (by omega) (by omega) (HTZ.out.old (HE0.out.trans (hext1.trans hext2))) (by rw [val_lim]; exact HY0.out)
  rw [val_lim, val_lim] at CO
  have HCO := Lib.hid CO; have HE2 := Lib.hid (hext1.trans hext2)
  clear CO hown1 hown2 hext1 hext2
  go_wp2_with fail
  refine HCO.out.mono ?_
  rintro e w3 ⟨a1, m1, d1, b1, m2, d2, rfl, hown3, hown4, hext3, hm1, hm2⟩
  have HRW := Lib.hid (rowE ((HE2.out.trans hext3).alloc (.cells #[.slice a1 m1 d1, .slice b1 m2 d2] 25)) HR0.out)
  obtain ⟨k1, k2, k3, k4⟩ := row2_cells HRW.out
  have hs := HSZ.out
  have hs2 := HE2.out.size
  have HO3 := Lib.hid (((hown3.old ((Ext.refl _).alloc (.cells #[.slice a1 m1 d1, .slice b1 m2 d2] 25))).set2 (.slice a1 m1 d1) (.slice b1 m2 d2) (by omega : w.heap.size < w2.heap.size)).mono (by omega : w.heap.size ≤ w2.heap.size))
  have HO4 := Lib.hid (((hown4.old ((Ext.refl _).alloc (.cells #[.slice a1 m1 d1, .slice b1 m2 d2] 25))).set2 (.slice a1 m1 d1) (.slice b1 m2 d2) (by omega : w.heap.size < w2.heap.size)).mono (by omega : w.heap.size ≤ w2.heap.size))
  have HEF := Lib.hid (set2_ext ((HE0.out.trans (HE2.out.trans hext3)).alloc (.cells #[.slice a1 m1 d1, .slice b1 m2 d2] 25)) (Nat.le_refl _) (.slice a1 m1 d1) (.slice b1 m2 d2))
  clear hown3 hown4 hext3
  go_wp2_with fail
  try simp only [Exit.inBlock, Exit.then]
  refine bodyPost_ret (results_box1 rfl _ _ _ _ rfl (load_rat (set2_row HRW.out _ _))) rfl ?_
  exact ⟨_, _, _, _, _, _, rfl, HO3.out, HO4.out, HEF.out, by omega, by omega⟩

set_option maxHeartbeats 4000000 in
set_option maxRecDepth 100000 in
theorem right_law {a b : Option Addr} {m n c d N D : Nat} {w : World} (ha : Sl w a m c (lim N)) (hb : Sl w b n d (lim D)) (hm : m ≤ 100000) (hn : n ≤ 100000) (hD : 0 < D) (hg : Nat.gcd N D = 1) (htz : TzTab w) :
    Calls Tryz.prog 26 #[RatV a m c b n d] w (RetE (.bool true) w) := by
  obtain ⟨X1, hX1⟩ : ∃ X, w.alloc (.cells #[.slice a m c, .slice b n d] 25) = X := ⟨_, rfl⟩
  have E1 : Ext w X1 := by rw [← hX1]; exact (Ext.refl w).alloc _
  have R1 : X1.heap[w.heap.size]? = some (.cells #[.slice a m c, .slice b n d] 25 (0, 0)) := box2_row (w := w) (by rw [hX1]; exact Ext.refl _)
  obtain ⟨k1, k2, k3, k4⟩ := row2_cells R1
  have C1 := Lib.hid (hnormal_calls (ha.old E1) (by omega))
  have C2 := Lib.hid (hnormal_calls (hb.old E1) (by omega))
  have hn0 : 0 < n := by
    rcases Nat.eq_zero_or_pos n with h | h
    · exfalso; have := lim_len_zero (hb.len.trans h); omega
    · exact h
  have CG := gcd_calls (ha.old E1) (hb.old E1) (by omega) (by omega) (htz.old E1)
  rw [val_lim, val_lim, hg] at CG
  have HCG := Lib.hid CG; have HX1 := Lib.hid hX1; have HE1 := Lib.hid E1; have HR1 := Lib.hid R1
  clear CG hX1 E1 R1 ha hb hg hD htz
  go_enter Tryz.func26, Tryz.ntmps26
  go_wp2_with (rw [HX1.out])
  refine C1.out.mono ?_
  rintro e w' ⟨rfl, rfl⟩
  go_wp2_with fail
  refine C2.out.mono ?_
  rintro e w' ⟨rfl, rfl⟩
  go_wp2_with fail
  refine HCG.out.mono ?_
  rintro e w1 ⟨o1, l1, e1, rfl, hown1, hext1, hl1⟩
  go_wp2_with fail
  refine (of_calls 1 (by decide) _).mono ?_
  rintro e w2 ⟨o2, l2, e2, rfl, hown2, hext2, hl2⟩
  have CN := hnat_calls (hown1.sl.old hext2) hown2.sl (by omega) (by omega)
  rw [decide_eq_true rfl] at CN
  have HCN := Lib.hid CN; have HE2 := Lib.hid (HE1.out.trans (hext1.trans hext2))
  clear CN hown1 hown2 hext1 hext2
  go_wp2_with fail
  refine HCN.out.mono ?_
  rintro e w' ⟨rfl, q, rfl⟩
  go_wp2_with fail
  go_ret
  exact ⟨rfl, HE2.out.drewN q⟩

def twelveR (v : Part × Part) : Bool := decide (v.1.2.1 ≤ 12) && decide (v.2.2.1 ≤ 12)
def SmRelR (w : World) (n : Nat) (vs : List (Part × Part)) (iv : Value) (wr : World) : Prop :=
  ∃ k : Nat, k ≤ n ∧ iv = .int .i64 (k : Int) ∧ (vs.take k).all twelveR = true ∧ wr = w

set_option maxHeartbeats 2000000 in
set_option maxRecDepth 100000 in
theorem smallR_calls {a : Option Addr} {n c : Nat} {vs : List (Part × Part)} {w : World} (ha : RSl w a n c vs) :
    Calls Tryz.prog 11 #[.slice a n c] w (Ret (.bool (vs.all twelveR)) w) := by
  obtain ⟨i0, hi, hs⟩ := infoRat'
  obtain ⟨b, off, hix, hcell⟩ := ha.ix (P := Tryz.prog) Tryz.underlying36 hi hs
  have LA := Lib.hid ha.len; have HIX := Lib.hid hix; have HC := Lib.hid hcell
  have hbig : (n : Int) ≤ 9223372036854775807 := by have := ha.cap; have := ha.big; omega
  clear hi hs hix hcell ha
  go_enter Tryz.func11, Tryz.ntmps11
  go_wp2_with fail
  go_loopw [3] (fun iv wr => SmRelR w n vs iv wr) (fun iv _ => n - (intOf iv).toNat)
  case atStart => exact ⟨0, by omega, rfl, rfl, rfl⟩
  case round =>
    obtain ⟨k, hk, rfl, htk, rfl⟩ := hrel
    have HD := Lib.hid htk
    clear htk
    by_cases hkm : k = n
    · subst hkm
      have hall : vs.all twelveR = true := by
        have := HD.out
        rwa [List.take_of_length_le (by rw [LA.out]; exact Nat.le_refl _)] at this
      have HALL := Lib.hid hall
      clear hall
      go_wp2_with fail
      go_ret
      exact ⟨by rw [HALL.out]; rfl, rfl⟩
    · have hlt : (k : Int) < (n : Int) := by omega
      have hkl : k < vs.length := by rw [LA.out]; omega
      obtain ⟨v, hvk⟩ : ∃ v, vs[k]? = some v := ⟨_, List.getElem?_eq_getElem hkl⟩
      obtain ⟨⟨va, vn, vc⟩, ⟨vb, vm, vd⟩⟩ := v
      have hc := HC.out k _ hvk
      simp only at hc
      obtain ⟨x2, x3⟩ := hc
      have x1 := HIX.out k (by omega)
      have HVK := Lib.hid hvk
      have hno : ¬ (vn ≤ 12 ∧ vm ≤ 12) → vs.all twelveR = false := by
        intro h
        rw [Bool.eq_false_iff]
        intro hall
        have := List.all_eq_true.1 hall _ (List.mem_of_getElem? HVK.out)
        simp [twelveR] at this
        exact h this
      have HNO := Lib.hid hno
      clear hno hvk
      by_cases h1 : vn ≤ 12
      · have g1 : ¬ ((12 : Int) < (vn : Int)) := by omega
        by_cases h2 : vm ≤ 12
        · have g2 : ¬ ((12 : Int) < (vm : Int)) := by omega
          have HT := Lib.hid (show (vs.take (k + 1)).all twelveR = true by
            rw [List.getElem?_eq_getElem hkl] at HVK
            have e := HVK.out
            rw [List.take_succ_eq_append_getElem hkl, List.all_append, HD.out, Option.some.inj e]
            simp [twelveR, h1, h2])
          go_wp2_with fail
          go_roundw
          case rel => exact ⟨k + 1, by omega, by go_num, HT.out, rfl⟩
          case measure => simp only [intOf]; omega
        · have g2 : (12 : Int) < (vm : Int) := by omega
          have HF := Lib.hid (HNO.out (fun h => h2 h.2))
          go_wp2_with fail
          go_ret
          exact ⟨by rw [HF.out]; rfl, rfl⟩
      · have g1 : (12 : Int) < (vn : Int) := by omega
        have HF := Lib.hid (HNO.out (fun h => h1 h.1))
        go_wp2_with fail
        go_ret
        exact ⟨by rw [HF.out]; rfl, rfl⟩

end Go.Proofs.YtnfjfgfkeigkiaaGreatDoor
