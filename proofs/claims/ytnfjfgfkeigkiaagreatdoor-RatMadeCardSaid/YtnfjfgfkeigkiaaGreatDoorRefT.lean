/- gleanref3.OfNat, Sum. -/
import Derived.Test.YtnfjfgfkeigkiaaGreatDoorRefE
import Derived.Test.YtnfjfgfkeigkiaaGreatDoorSpR
namespace Go.Proofs.YtnfjfgfkeigkiaaGreatDoor
open Go.RowKit

theorem lim_mul_len (x y : Nat) : (lim (x * y)).length ≤ (lim x).length + (lim y).length := by
  refine lim_len_le ?_
  have h1 := lim_lt x
  have h2 := lim_lt y
  rw [Nat.pow_add]
  exact Nat.mul_lt_mul'' h1 h2
theorem lim_add_len {x y k : Nat} (h1 : (lim x).length ≤ k) (h2 : (lim y).length ≤ k) : (lim (x + y)).length ≤ k + 1 := by
  refine lim_len_le ?_
  have a1 := Nat.lt_of_lt_of_le (lim_lt x) (Nat.pow_le_pow_right B64_pos h1)
  have a2 := Nat.lt_of_lt_of_le (lim_lt y) (Nat.pow_le_pow_right B64_pos h2)
  have : 2 * B64 ^ k ≤ B64 ^ k * B64 := by rw [Nat.mul_comm]; exact Nat.mul_le_mul_left _ B64_two
  rw [Nat.pow_succ]
  omega
theorem lim_le_len {x y : Nat} (h : x ≤ y) : (lim x).length ≤ (lim y).length := digs_len_mono B64_two h
theorem dN_le (x y : Nat) : dN x y ≤ x := by unfold dN; split <;> omega
theorem dD_len (y k : Nat) (hk : 1 ≤ k) (h : (lim y).length ≤ k) : (lim (dD y)).length ≤ k := by
  unfold dD
  split
  · exact Nat.le_trans (by decide +kernel) hk
  · exact h
theorem rN_le (x y : Nat) : rN x y ≤ x := Nat.div_le_self _ _
theorem rD_le (x y : Nat) : rD x y ≤ y := Nat.div_le_self _ _
theorem sumR_len : ∀ (k : Nat) (ps : List (Nat × Nat)), k ≤ ps.length → (∀ p ∈ ps, (lim p.1).length ≤ 12 ∧ (lim p.2).length ≤ 12) →
    (lim (sumR (ps.take k)).1).length ≤ 13 * k + 13 ∧ (lim (sumR (ps.take k)).2).length ≤ 12 * k + 1
  | 0, ps, _, _ => ⟨by simp [sumR, lim_zero], by rw [List.take_zero]; exact (by decide +kernel : (lim 1).length ≤ 1)⟩
  | k + 1, ps, hk, hp => by
    obtain ⟨i1, i2⟩ := sumR_len k ps (by omega) hp
    have hq : ps[k]? = some (ps[k]'(by omega)) := List.getElem?_eq_getElem (by omega)
    rw [sumR_succ hq]
    obtain ⟨q1, q2⟩ := hp _ (List.getElem_mem (show k < ps.length by omega))
    generalize ps[k]'(by omega) = q at *
    generalize sumR (ps.take k) = p at *
    have a1 := Nat.le_trans (lim_le_len (dN_le p.1 p.2)) i1
    have a2 := dD_len p.2 (12 * k + 1) (by omega) i2
    have a3 := Nat.le_trans (lim_le_len (dN_le q.1 q.2)) q1
    have a4 := dD_len q.2 12 (by omega) q2
    constructor
    · refine Nat.le_trans (lim_le_len (rN_le _ _)) ?_
      have b1 := lim_mul_len (dN p.1 p.2) (dD q.2)
      have b2 := lim_mul_len (dN q.1 q.2) (dD p.2)
      have := lim_add_len (x := dN p.1 p.2 * dD q.2) (y := dN q.1 q.2 * dD p.2) (k := 13 * k + 25) (by omega) (by omega)
      omega
    · refine Nat.le_trans (lim_le_len (rD_le _ _)) ?_
      have b1 := lim_mul_len (dD p.2) (dD q.2)
      omega

set_option maxHeartbeats 2000000 in
set_option maxRecDepth 100000 in
theorem frofnat_calls {a : Option Addr} {m c : Nat} {xs : List Nat} {w : World} (ha : Sl w a m c xs) (hm : m ≤ 10000) :
    Calls Tryz.prog 35 #[.slice a m c] w (NewR w (8 * m + 16) (8 * m + 16) (lim (rN (val xs) 1)) (lim (rD (val xs) 1))) := by
  obtain ⟨X1, hX1⟩ : ∃ X, w.alloc (.cells #[.slice none 0 0, .slice none 0 0] 25) = X := ⟨_, rfl⟩
  have hsz1 : X1.heap.size = w.heap.size + 1 := by rw [← hX1, alloc_size]
  have E1 : Ext w X1 := by rw [← hX1]; exact (Ext.refl w).alloc _
  have R1 : X1.heap[w.heap.size]? = some (.cells #[.slice none 0 0, .slice none 0 0] 25 (0, 0)) := box2_row (w := w) (by rw [hX1]; exact Ext.refl _)
  have HX1 := Lib.hid hX1; have HR1 := Lib.hid R1; have HE1 := Lib.hid E1; have HA := Lib.hid (ha.old E1)
  clear hX1 E1 R1 ha
  go_enter Tryz.func35, Tryz.ntmps35
  go_wp2_with (rw [HX1.out])
  refine (fof_calls 1 (by decide) X1).mono ?_
  rintro e w1 ⟨o1, n1, c1, rfl, hown1, hext1, hno1⟩
  have CM := fmade_calls (HA.out.old hext1) hown1.sl (by omega) (by omega) (by rw [val_lim]; decide)
  rw [val_lim] at CM
  have HCM := Lib.hid CM; have HE := Lib.hid hext1
  clear CM hown1 hext1
  go_wp2_with fail
  refine HCM.out.mono ?_
  rintro e w2 ⟨p, l, c, q, r, d, rfl, h1, h2, h3, h4, h5⟩
  have HS := HE.out.size
  have HRZ := Lib.hid (rowE (HE.out.trans h3) HR1.out)
  obtain ⟨k1, k2, k3, k4⟩ := row2_cells HRZ.out
  have H1 := Lib.hid h1; have H2 := Lib.hid h2; have H3 := Lib.hid (HE1.out.trans (HE.out.trans h3))
  clear h1 h2 h3
  go_wp2_with fail
  try simp only [Exit.inBlock, Exit.then]
  refine bodyPost_ret (results_box1 rfl _ _ _ _ rfl (load_rat (set2_row HRZ.out _ _))) rfl ?_
  exact ⟨_, _, _, _, _, _, rfl, (H1.out.set2 _ _ (by omega)).mono (by omega), (H2.out.set2 _ _ (by omega)).mono (by omega), set2_ext H3.out (Nat.le_refl _) _ _, by omega, by omega⟩

def FSumRel (C : Nat) (w1 : World) (B n : Nat) (ps : List (Nat × Nat)) (iv : Value) (wr : World) : Prop :=
  ∃ (k : Nat) (a : Option Addr) (n1 c1 : Nat) (b : Option Addr) (m1 d1 : Nat), k ≤ n ∧ iv = .int .i64 (k : Int) ∧ wr.heap[B]? = some (.cells #[.slice a n1 c1, .slice b m1 d1] 25 (0, 0)) ∧
    Own C wr a n1 c1 (lim (sumR (ps.take k)).1) ∧ Own C wr b m1 d1 (lim (sumR (ps.take k)).2) ∧ Ext w1 wr

set_option maxHeartbeats 8000000 in
set_option maxRecDepth 100000 in
theorem frsum_calls {a : Option Addr} {n c : Nat} {vs : List (Part × Part)} {ps : List (Nat × Nat)} {w : World} (ha : RSl w a n c vs) (hn : n ≤ 12) (hv : RVals w vs ps) :
    Calls Tryz.prog 24 #[.slice a n c] w (NewR w 200 200 (lim (sumR ps).1) (lim (sumR ps).2)) := by
  obtain ⟨i0, hi, hs⟩ := infoRat'
  obtain ⟨b, off, hix, hcell⟩ := ha.ix (P := Tryz.prog) Tryz.underlying36 hi hs
  have HLV := Lib.hid ha.len; have HLP := Lib.hid hv.1
  have HLEN := Lib.hid (fun (k : Nat) (hk : k ≤ n) => sumR_len k ps (by rw [hv.1, ha.len]; exact hk) (fun p hp => by
    obtain ⟨i, hi, rfl⟩ := List.getElem_of_mem hp
    have hiv : i < vs.length := by rw [← hv.1]; exact hi
    obtain ⟨⟨xs, s1, e1⟩, ⟨ys, s2, e2⟩, b1, b2⟩ := hv.2 i _ _ (List.getElem?_eq_getElem hiv) (List.getElem?_eq_getElem hi)
    constructor
    · rw [← e1]; exact Nat.le_trans s1.trimmed_len b1
    · rw [← e2]; exact Nat.le_trans s2.trimmed_len b2))
  obtain ⟨X1, hX1⟩ : ∃ X, w.alloc (.cells #[.slice none 0 0, .slice none 0 0] 25) = X := ⟨_, rfl⟩
  have hsz1 : X1.heap.size = w.heap.size + 1 := by rw [← hX1, alloc_size]
  have E1 : Ext w X1 := by rw [← hX1]; exact (Ext.refl w).alloc _
  have R1 : X1.heap[w.heap.size]? = some (.cells #[.slice none 0 0, .slice none 0 0] 25 (0, 0)) := box2_row (w := w) (by rw [hX1]; exact Ext.refl _)
  have CN := Lib.hid (frofnat_calls (Sl.nil X1) (by omega))
  have HX1 := Lib.hid hX1; have HR1 := Lib.hid R1; have HE1 := Lib.hid E1; have HIX := Lib.hid hix; have HCELL := Lib.hid hcell; have HV := Lib.hid hv.2
  clear hX1 E1 R1 ha hix hcell hv hi hs
  go_enter Tryz.func24, Tryz.ntmps24
  go_wp2_with (rw [HX1.out])
  refine CN.out.mono ?_
  rintro e w1 ⟨a1, n1, c1, b1, m1, d1, rfl, hown1, hown2, hext1, hn1, hm1⟩
  have e1 : lim (rN (val []) 1) = lim (sumR (ps.take 0)).1 := by rw [show rN (val []) 1 = 0 by decide +kernel]; rfl
  have e2 : lim (rD (val []) 1) = lim (sumR (ps.take 0)).2 := by rw [show rD (val []) 1 = 1 by decide +kernel]; rfl
  rw [e1] at hown1
  rw [e2] at hown2
  obtain ⟨w2, hw2⟩ : ∃ W, w1.alloc (.cells #[.slice a1 n1 c1, .slice b1 m1 d1] 25) = W := ⟨_, rfl⟩
  have HW2 := Lib.hid hw2
  have HEW2 := Lib.hid (show Ext X1 w2 by rw [← hw2]; exact hext1.alloc _)
  have HROW2 := Lib.hid (show w2.heap[w1.heap.size]? = some (.cells #[.slice a1 n1 c1, .slice b1 m1 d1] 25 (0, 0)) by rw [← hw2]; exact heap_alloc_new w1 _)
  have HOA := Lib.hid (show Own X1.heap.size w2 a1 n1 c1 _ by rw [← hw2]; exact hown1.old ((Ext.refl _).alloc _))
  have HOB := Lib.hid (show Own X1.heap.size w2 b1 m1 d1 _ by rw [← hw2]; exact hown2.old ((Ext.refl _).alloc _))
  have hs1 := hext1.size
  clear hw2 hown1 hown2 hext1 e1 e2
  go_wp2_with (rw [HW2.out])
  go_loopw [4] (fun iv wr => FSumRel X1.heap.size X1 w1.heap.size n ps iv wr) (fun iv _ => n - (intOf iv).toNat)
  case atStart => exact ⟨0, a1, n1, c1, b1, m1, d1, by omega, rfl, HROW2.out, HOA.out, HOB.out, HEW2.out⟩
  case round =>
    obtain ⟨k, ra, rn, rc, rb, rm, rd, hk, rfl, hrow, hoa, hob, hex⟩ := hrel
    have hlen := HLEN.out k hk
    have hrn : rn ≤ 200 := by have := hoa.sl.len; omega
    have hrm : rm ≤ 200 := by have := hob.sl.len; omega
    have HROW := Lib.hid hrow; have HA := Lib.hid hoa; have HB := Lib.hid hob; have HEX := Lib.hid hex
    clear hrow hoa hob hex hlen
    by_cases hkn : k = n
    · subst hkn
      have hwhole : ps.take k = ps := List.take_of_length_le (by rw [HLP.out, HLV.out]; exact Nat.le_refl _)
      obtain ⟨k1, k2, k3, k4⟩ := row2_cells HROW.out
      have HR1' := Lib.hid (rowE HEX.out HR1.out)
      obtain ⟨j1, j2, j3, j4⟩ := row2_cells HR1'.out
      have hoa := HA.out; have hob := HB.out
      rw [hwhole] at hoa hob
      have HOA' := Lib.hid ((hoa.set2 (.slice ra rn rc) (.slice rb rm rd) (by omega : w.heap.size < X1.heap.size)).mono (by omega : w.heap.size ≤ X1.heap.size))
      have HOB' := Lib.hid ((hob.set2 (.slice ra rn rc) (.slice rb rm rd) (by omega : w.heap.size < X1.heap.size)).mono (by omega : w.heap.size ≤ X1.heap.size))
      have HEF := Lib.hid (set2_ext (HE1.out.trans HEX.out) (Nat.le_refl w.heap.size) (.slice ra rn rc) (.slice rb rm rd))
      clear hoa hob hwhole
      go_wp2_with fail
      try simp only [Exit.inBlock, Exit.then]
      refine bodyPost_ret (results_box1 rfl _ _ _ _ rfl (load_rat (set2_row HR1'.out _ _))) rfl ?_
      exact ⟨_, _, _, _, _, _, rfl, HOA'.out, HOB'.out, HEF.out, by omega, by omega⟩
    · have hlt : (k : Int) < (n : Int) := by omega
      have hkl : k < vs.length := by rw [HLV.out]; omega
      obtain ⟨v, hvk⟩ : ∃ v, vs[k]? = some v := ⟨_, List.getElem?_eq_getElem hkl⟩
      obtain ⟨q, hqk⟩ : ∃ q, ps[k]? = some q := ⟨_, List.getElem?_eq_getElem (by rw [HLP.out]; exact hkl)⟩
      obtain ⟨⟨va, vn, vc⟩, ⟨vb, vm, vd⟩⟩ := v
      obtain ⟨hs1, hs2, hb1, hb2⟩ := HV.out k _ _ hvk hqk
      have hc := HCELL.out k _ hvk
      simp only at hs1 hs2 hb1 hb2 hc
      have ED := (Ext.refl wr).drew
      have EK := (HE1.out.trans HEX.out).trans ED
      have x1 := HIX.out k (by omega)
      have x2 := EK.cell hc.1
      have x3 := EK.cell hc.2
      obtain ⟨k1, k2, k3, k4⟩ := row2_cells (rowE ED HROW.out)
      obtain ⟨ya, hya, hyav⟩ := hs1.old EK
      obtain ⟨yb, hyb, hybv⟩ := hs2.old EK
      have CA := fradd_calls (HA.out.sl.old ED) (HB.out.sl.old ED) hya hyb (by omega) (by omega) (by omega) (by omega)
      rw [val_lim, val_lim, hyav, hybv] at CA
      have HCA := Lib.hid CA; have HEK := Lib.hid EK; have HED := Lib.hid ED
      have HSUM := Lib.hid (sumR_succ hqk)
      have HZX := Lib.hid (show X1.heap.size ≤ wr.drew.heap.size from HEX.out.size)
      have HZB := Lib.hid (show w1.heap.size < wr.drew.heap.size from (Array.getElem?_eq_some_iff.1 HROW.out).1)
      have HE5' := Lib.hid (fun w5 (h : Ext wr.drew w5) => HEX.out.trans (ED.trans h))
      clear CA EK ED hya hyb hyav hybv hs1 hs2 hc hvk hqk
      go_wp2_with fail
      go_region_with (first | (go_at_call 20; refine HCA.out.mono ?_; rintro e w5 ⟨o1, l1, e1, o2, l2, e2, rfl, hown5, hown6, hext5, hl1, hl2⟩; obtain ⟨j1, j2, j3, j4⟩ := row2_cells (rowE (HED.out.trans hext5) HROW.out)))
      all_goals (
        have HROW5 := Lib.hid (rowE (HED.out.trans hext5) HROW.out)
        have HO5 := Lib.hid hown5; have HO6 := Lib.hid hown6; have HE5 := Lib.hid (HE5'.out _ hext5)
        clear hown5 hown6 hext5
        go_wp2_with fail
        go_roundw
        case rel =>
          refine ⟨k + 1, o1, l1, e1, o2, l2, e2, by omega, by go_num, set2_row HROW5.out _ _, ?_, ?_, ?_⟩
          · rw [HSUM.out]; exact (HO5.out.set2 _ _ HZB.out).mono HZX.out
          · rw [HSUM.out]; exact (HO6.out.set2 _ _ HZB.out).mono HZX.out
          · exact set2_ext HE5.out hs1 _ _
        case measure => simp only [intOf]; omega)

end Go.Proofs.YtnfjfgfkeigkiaaGreatDoor
