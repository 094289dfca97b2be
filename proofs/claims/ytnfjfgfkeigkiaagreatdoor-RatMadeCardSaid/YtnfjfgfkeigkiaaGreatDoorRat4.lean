/- rat.Sum; slices of fractions. -/
import Derived.Test.YtnfjfgfkeigkiaaGreatDoorRat1
import Derived.Test.YtnfjfgfkeigkiaaGreatDoorRat3
namespace Go.Proofs.YtnfjfgfkeigkiaaGreatDoor
open Go.RowKit

abbrev Part := Option Addr × Nat × Nat
/-- A slice of fractions: each takes two cells. -/
structure RSl (w : World) (a : Option Addr) (n c : Nat) (vs : List (Part × Part)) : Prop where
  len : vs.length = n
  cap : n ≤ c
  big : c ≤ 9223372036854775807
  at_ : n = 0 ∨ ∃ b off, a = some ⟨b, off, none⟩ ∧ ∀ i v, vs[i]? = some v → w.cell? ⟨b, off + i * 2, none⟩ = some (.slice v.1.1 v.1.2.1 v.1.2.2) ∧ w.cell? ⟨b, off + i * 2 + 1, none⟩ = some (.slice v.2.1 v.2.2.1 v.2.2.2)
theorem RSl.old {w w' : World} {a : Option Addr} {n c : Nat} {vs : List (Part × Part)} (h : RSl w a n c vs) (hg : Ext w w') : RSl w' a n c vs := by
  refine ⟨h.len, h.cap, h.big, ?_⟩
  rcases h.at_ with hn | ⟨b, off, rfl, hc⟩
  · exact .inl hn
  · exact .inr ⟨b, off, rfl, fun i v hi => ⟨hg.cell (hc i v hi).1, hg.cell (hc i v hi).2⟩⟩
theorem RSl.ix {w : World} {a : Option Addr} {n c : Nat} {vs : List (Part × Part)} (h : RSl w a n c vs) {P : Program} {T E : TypeId} {i : TypeInfo}
    (hT : P.underlying T = some (.slice E)) (hi : P.info? E = some i) (hs : i.size = 2) :
    ∃ b off, (∀ k, k < n → ∀ w' : World, (Instr.indexAt T (.slice a n c) (.int .i64 (k : Int))).run P w' = .ok (.pointer (some ⟨b, off + k * 2, none⟩)) w') ∧
      (∀ k v, vs[k]? = some v → w.cell? ⟨b, off + k * 2, none⟩ = some (.slice v.1.1 v.1.2.1 v.1.2.2) ∧ w.cell? ⟨b, off + k * 2 + 1, none⟩ = some (.slice v.2.1 v.2.2.1 v.2.2.2)) := by
  rcases h.at_ with rfl | ⟨b, off, rfl, hc⟩
  · refine ⟨0, 0, fun k hk => absurd hk (by omega), fun k v hk => ?_⟩
    have hl := h.len
    rw [List.eq_nil_of_length_eq_zero hl] at hk
    simp at hk
  · refine ⟨b, off, fun k hk w' => ?_, hc⟩
    have hr := run_sizeOf hi w'
    rw [hs] at hr
    simp only [Instr.indexAt, Sem.run_bind, run_underlying hT, Result.andThen_ok, asIntOf, Sem.run_pure]
    have h1 : (0 : Int) ≤ (k : Int) ∧ (k : Int) < (n : Int) := ⟨by omega, by omega⟩
    simp [hk, hr, Addr.add]
theorem infoRat : (Tryz.prog.info? 25).map (fun i => (i.size, i.bytes)) = some (2, 48) := by kernel_rfl
theorem infoRat' : ∃ i, Tryz.prog.info? 25 = some i ∧ i.size = 2 := by
  have h := infoRat
  cases hq : Tryz.prog.info? 25 with
  | none => simp [hq] at h
  | some i => simp [hq] at h; exact ⟨i, rfl, h.1⟩

/-- The sum of two fractions; of many. -/
def addR (p q : Nat × Nat) : Nat × Nat :=
  (rN (dN p.1 p.2 * dD q.2 + dN q.1 q.2 * dD p.2) (dD p.2 * dD q.2), rD (dN p.1 p.2 * dD q.2 + dN q.1 q.2 * dD p.2) (dD p.2 * dD q.2))
def sumR (l : List (Nat × Nat)) : Nat × Nat := l.foldl addR (0, 1)
theorem sumR_succ {l : List (Nat × Nat)} {k : Nat} {p : Nat × Nat} (h : l[k]? = some p) : sumR (l.take (k + 1)) = addR (sumR (l.take k)) p := by
  unfold sumR
  have hk : k < l.length := by
    rcases Nat.lt_or_ge k l.length with h' | h'
    · exact h'
    · rw [List.getElem?_eq_none h'] at h; cases h
  rw [List.getElem?_eq_getElem hk] at h
  cases h
  rw [List.take_succ_eq_append_getElem hk, List.foldl_append]
  rfl

/-- What each of them reads as. -/
def RVals (w : World) (vs : List (Part × Part)) (ps : List (Nat × Nat)) : Prop :=
  ps.length = vs.length ∧ ∀ (k : Nat) (v : Part × Part) (p : Nat × Nat), vs[k]? = some v → ps[k]? = some p → SlV w v.1.1 v.1.2.1 v.1.2.2 p.1 ∧ SlV w v.2.1 v.2.2.1 v.2.2.2 p.2 ∧ v.1.2.1 ≤ 12 ∧ v.2.2.1 ≤ 12

abbrev AddF : Value := .func (.func 19) #[] #[]

def SumRel (C : Nat) (w1 : World) (B n : Nat) (ps : List (Nat × Nat)) (iv : Value) (wr : World) : Prop :=
  ∃ (k : Nat) (a : Option Addr) (n1 c1 : Nat) (b : Option Addr) (m1 d1 : Nat), k ≤ n ∧ iv = .int .i64 (k : Int) ∧ wr.heap[B]? = some (.cells #[.slice a n1 c1, .slice b m1 d1] 25 (0, 0)) ∧
    Own C wr a n1 c1 (lim (sumR (ps.take k)).1) ∧ Own C wr b m1 d1 (lim (sumR (ps.take k)).2) ∧ n1 ≤ 300 * k ∧ m1 ≤ 16 * k + 1 ∧ Ext w1 wr

set_option maxHeartbeats 8000000 in
set_option maxRecDepth 100000 in
theorem rfold_calls {a : Option Addr} {n c : Nat} {vs : List (Part × Part)} {ps : List (Nat × Nat)} {w : World} {p : Addr} (ha : RSl w a n c vs) (hn : n ≤ 12) (hv : RVals w vs ps) (htz : TzTab w)
    (hp : w.cell? p = some AddF) :
    Calls Tryz.prog 93 #[.slice a n c, .pointer (some p)] w (NewR w 3600 193 (lim (sumR ps).1) (lim (sumR ps).2)) := by
  obtain ⟨i0, hi, hs⟩ := infoRat'
  obtain ⟨b, off, hix, hcell⟩ := ha.ix (P := Tryz.prog) Tryz.underlying36 hi hs
  have HLV := Lib.hid ha.len; have HLP := Lib.hid hv.1
  obtain ⟨X1, hX1⟩ : ∃ X, w.alloc (.cells #[.slice none 0 0, .slice none 0 0] 25) = X := ⟨_, rfl⟩
  have hsz1 : X1.heap.size = w.heap.size + 1 := by rw [← hX1, alloc_size]
  have E1 : Ext w X1 := by rw [← hX1]; exact (Ext.refl w).alloc _
  have R1 : X1.heap[w.heap.size]? = some (.cells #[.slice none 0 0, .slice none 0 0] 25 (0, 0)) := box2_row (w := w) (by rw [hX1]; exact Ext.refl _)
  have CN := Lib.hid (rofnat_calls (Sl.nil X1) (by omega))
  have HX1 := Lib.hid hX1; have HR1 := Lib.hid R1; have HE1 := Lib.hid E1; have HIX := Lib.hid hix; have HCELL := Lib.hid hcell; have HV := Lib.hid hv.2; have HTZ := Lib.hid htz; have HP := Lib.hid hp
  clear hX1 E1 R1 ha hix hcell hv htz hp hi hs
  go_enter Tryz.func93, Tryz.ntmps93
  go_wp2_with (rw [HX1.out])
  refine CN.out.mono ?_
  rintro e w1 ⟨a1, n1, c1, b1, m1, d1, rfl, hown1, hown2, hext1, hn1, hm1⟩
  obtain ⟨w2, hw2⟩ : ∃ W, w1.alloc (.cells #[.slice a1 n1 c1, .slice b1 m1 d1] 25) = W := ⟨_, rfl⟩
  have HW2 := Lib.hid hw2
  have HEW2 := Lib.hid (show Ext X1 w2 by rw [← hw2]; exact hext1.alloc _)
  have hrow2 : w2.heap[w1.heap.size]? = some (.cells #[.slice a1 n1 c1, .slice b1 m1 d1] 25 (0, 0)) := by rw [← hw2]; exact heap_alloc_new w1 _
  have HOA := Lib.hid (show Own X1.heap.size w2 a1 n1 c1 (lim 0) by rw [← hw2]; exact hown1.old ((Ext.refl _).alloc _))
  have HOB := Lib.hid (show Own X1.heap.size w2 b1 m1 d1 (lim 1) by rw [← hw2]; exact hown2.old ((Ext.refl _).alloc _))
  have HROW2 := Lib.hid hrow2
  have hs1 := hext1.size
  have hl0 : n1 = 0 := by have := hown1.sl.len; simpa [lim_zero, val] using this.symm
  have HL0 := Lib.hid hl0
  clear hw2 hrow2 hown1 hown2 hext1 hl0
  go_wp2_with (rw [HW2.out])
  go_loopw [10] (fun iv wr => SumRel X1.heap.size X1 w1.heap.size n ps iv wr) (fun iv _ => n - (intOf iv).toNat)
  case atStart => exact ⟨0, a1, n1, c1, b1, m1, d1, by omega, rfl, HROW2.out, HOA.out, HOB.out, by have := HL0.out; omega, by omega, HEW2.out⟩
  case round =>
    obtain ⟨k, ra, rn, rc, rb, rm, rd, hk, rfl, hrow, hoa, hob, hrn, hrm, hex⟩ := hrel
    have HROW := Lib.hid hrow; have HA := Lib.hid hoa; have HB := Lib.hid hob; have HEX := Lib.hid hex
    clear hrow hoa hob hex
    by_cases hkn : k = n
    · subst hkn
      have hwhole : ps.take k = ps := List.take_of_length_le (by rw [HLP.out, HLV.out]; exact Nat.le_refl _)
      obtain ⟨k1, k2, k3, k4⟩ := row2_cells HROW.out
      have HR1' := Lib.hid (rowE HEX.out HR1.out)
      obtain ⟨j1, j2, j3, j4⟩ := row2_cells HR1'.out
      have hoa := HA.out; have hob := HB.out
      rw [hwhole] at hoa hob
      have HOA' := Lib.hid ((hoa.set2 (.slice ra rn rc) (.slice rb rm rd) (by omega : w.heap.size < X1.heap.size)).mono (by omega : w.heap.size ≤ X1.heap.size))
      have HOB' := Lib.hid ((hob.set2 (.slice ra rn rc) (.slice rb rm rd) (by omega : w.heap.size < X1.heap.size)).mono (by omega : w.heap.size ≤ X1.heap.size))
      have HEF := Lib.hid (set2_ext (HE1.out.trans HEX.out) (Nat.le_refl w.heap.size) (.slice ra rn rc) (.slice rb rm rd))
      clear hoa hob hwhole
      go_wp2_with fail
      try simp only [Exit.inBlock, Exit.then]
      refine bodyPost_ret (results_box1 rfl _ _ _ _ rfl (load_rat (set2_row HR1'.out _ _))) rfl ?_
      exact ⟨_, _, _, _, _, _, rfl, HOA'.out, HOB'.out, HEF.out, by omega, by omega⟩
    · have hlt : (k : Int) < (n : Int) := by omega
      have hkl : k < vs.length := by rw [HLV.out]; omega
      obtain ⟨v, hvk⟩ : ∃ v, vs[k]? = some v := ⟨_, List.getElem?_eq_getElem hkl⟩
      obtain ⟨q, hqk⟩ : ∃ q, ps[k]? = some q := ⟨_, List.getElem?_eq_getElem (by rw [HLP.out]; exact hkl)⟩
      obtain ⟨⟨va, vn, vc⟩, ⟨vb, vm, vd⟩⟩ := v
      obtain ⟨hs1, hs2, hb1, hb2⟩ := HV.out k _ _ hvk hqk
      have hc := HCELL.out k _ hvk
      simp only at hs1 hs2 hb1 hb2 hc
      have EK := HE1.out.trans HEX.out
      have x1 := HIX.out k (by omega)
      have x2 := EK.cell hc.1
      have x3 := EK.cell hc.2
      obtain ⟨Z, hZ⟩ : ∃ Z, wr.alloc (.cells #[.slice va vn vc, .slice vb vm vd] 25) = Z := ⟨_, rfl⟩
      have EZ : Ext wr Z := by rw [← hZ]; exact (Ext.refl wr).alloc _
      have x4 := (EK.trans EZ).cell HP.out
      obtain ⟨k1, k2, k3, k4⟩ := row2_cells (rowE EZ HROW.out)
      have hzr : Z.heap[wr.heap.size]? = some (.cells #[.slice va vn vc, .slice vb vm vd] 25 (0, 0)) := by rw [← hZ]; exact heap_alloc_new wr _
      obtain ⟨j1, j2, j3, j4⟩ := row2_cells hzr
      obtain ⟨ya, hya, hyav⟩ := hs1.old (EK.trans EZ)
      obtain ⟨yb, hyb, hybv⟩ := hs2.old (EK.trans EZ)
      have CA := radd_calls (HA.out.sl.old EZ) (HB.out.sl.old EZ) hya hyb (by omega) (by omega) (by omega) (by omega) (HTZ.out.old (EK.trans EZ))
      rw [val_lim, val_lim, hyav, hybv] at CA
      have HCA := Lib.hid CA; have HZ := Lib.hid hZ; have HEK := Lib.hid EK; have HEZ := Lib.hid EZ
      have HSUM := Lib.hid (sumR_succ hqk)
      have hB4 := (Array.getElem?_eq_some_iff.1 HROW.out).1
      have HZB := Lib.hid (show w1.heap.size < Z.heap.size by have := EZ.size; omega)
      have HZX := Lib.hid (show X1.heap.size ≤ Z.heap.size by have := EZ.size; have := HEX.out.size; omega)
      clear CA hZ EK EZ hzr hya hyb hyav hybv hs1 hs2 hc hvk hqk hB4
      go_wp2_with (rw [HZ.out])
      refine HCA.out.mono ?_
      rintro e w5 ⟨o1, l1, e1, o2, l2, e2, rfl, hown5, hown6, hext5, hl1, hl2⟩
      have HROW5 := Lib.hid (rowE (HEZ.out.trans hext5) HROW.out)
      clear k1 k2 k3 k4 j1 j2 j3 j4
      obtain ⟨k1, k2, k3, k4⟩ := row2_cells HROW5.out
      have HO5 := Lib.hid hown5; have HO6 := Lib.hid hown6; have HE5 := Lib.hid (HEX.out.trans (HEZ.out.trans hext5))
      clear hown5 hown6 hext5
      go_wp2_with fail
      go_roundw
      case rel =>
        refine ⟨k + 1, o1, l1, e1, o2, l2, e2, by omega, by go_num, set2_row HROW5.out _ _, ?_, ?_, by omega, by omega, ?_⟩
        · rw [HSUM.out]; exact (HO5.out.set2 _ _ HZB.out).mono HZX.out
        · rw [HSUM.out]; exact (HO6.out.set2 _ _ HZB.out).mono HZX.out
        · exact set2_ext HE5.out hs1 _ _
      case measure => simp only [intOf]; omega

end Go.Proofs.YtnfjfgfkeigkiaaGreatDoor
