
/- Sums of fractions; the fractions' functions over reduced fractions. -/
import Derived.Test.YtimcnhlcepemjaaGreatDoorRat0
import Derived.Test.YtimcnhlcepemjaaGreatDoorMid
import Derived.Test.YtimcnhlcepemjaaGreatDoorRat1
import Derived.Test.YtimcnhlcepemjaaGreatDoorMC
import Derived.Test.YtimcnhlcepemjaaGreatDoorMA
import Derived.Test.YtimcnhlcepemjaaGreatDoorRat2
import Derived.Test.YtimcnhlcepemjaaGreatDoorME

/- rat.OfNat, OfDec, Zero, Floor, Down. -/
namespace Go.Proofs.YtimcnhlcepemjaaGreatDoor
open Go.RowKit

theorem field_dec (o : Option Addr) (n c : Nat) (W : World) : (Instr.field 35 (.agg #[.slice o n c]) 0).run Tryz.prog W = .ok (.slice o n c) W := by kernel_rfl
set_option maxHeartbeats 2000000 in
set_option maxRecDepth 100000 in
theorem rofnat_calls {a : Option Addr} {m c : Nat} {xs : List Nat} {w : World} (ha : Sl w a m c xs) (hm : m ≤ 1000000) :
    Calls Tryz.prog 43 #[.slice a m c] w (NewR w m 1 (lim (val xs)) (lim 1)) := by
  obtain ⟨X1, hX1⟩ : ∃ X, w.alloc (.cells #[.slice none 0 0, .slice none 0 0] 40) = X := ⟨_, rfl⟩
  have hsz1 : X1.heap.size = w.heap.size + 1 := by rw [← hX1, alloc_size]
  have E1 : Ext w X1 := by rw [← hX1]; exact (Ext.refl w).alloc _
  have R1 : X1.heap[w.heap.size]? = some (.cells #[.slice none 0 0, .slice none 0 0] 40 (0, 0)) := box2_row (w := w) (by rw [hX1]; exact Ext.refl _)
  have CN := Lib.hid (norm_calls (ha.old E1) (by omega))
  have HX1 := Lib.hid hX1; have HR1 := Lib.hid R1; have HE1 := Lib.hid E1
  clear hX1 E1 R1 ha
  go_enter Tryz.func43, Tryz.ntmps43
  go_wp2_with (rw [HX1.out])
  refine CN.out.mono ?_
  rintro e w1 ⟨o1, n1, c1, rfl, hown1, hext1, hno1⟩
  obtain ⟨Z, hZ⟩ : ∃ Z, w1.alloc (.cells #[.int .u64 1] 31) = Z := ⟨_, rfl⟩
  have EZ : Ext w1 Z := by rw [← hZ]; exact (Ext.refl w1).alloc _
  have hown : Own w1.heap.size Z (some ⟨w1.heap.size, 0, none⟩) 1 1 [1] := by rw [← hZ]; exact own_lit w1.heap.size w1 1 (by decide) (Nat.le_refl _)
  have HRZ := Lib.hid (rowE (hext1.trans EZ) HR1.out)
  obtain ⟨k1, k2, k3, k4⟩ := row2_cells HRZ.out
  have HZ := Lib.hid hZ; have HO := Lib.hid hown; have HO1 := Lib.hid (hown1.old EZ); have HE := Lib.hid (hext1.trans EZ); have HSZ := Lib.hid hext1.size
  clear hZ hown EZ hown1 hext1
  go_wp2_with (rw [HZ.out])
  try simp only [Exit.inBlock, Exit.then]
  refine bodyPost_ret (results_box1 rfl _ _ _ _ rfl (load_rat (set2_row HRZ.out _ _))) rfl ?_
  have z1 := HSZ.out
  rw [lim_one]
  exact ⟨_, _, _, _, _, _, rfl, (HO1.out.set2 _ _ (by omega)).mono (by omega), (HO.out.set2 _ _ (by omega)).mono (by omega), set2_ext (HE1.out.trans HE.out) (Nat.le_refl _) _ _, hno1, Nat.le_refl _⟩

set_option maxHeartbeats 2000000 in
set_option maxRecDepth 100000 in
theorem rofdec_calls {a : Option Addr} {m c : Nat} {xs : List Nat} {w : World} (ha : Sl w a m c xs) (hm : m ≤ 100000) (htz : TzTab w) :
    Calls Tryz.prog 34 #[DecV a m c] w (NewR w m 3 (lim (rN (val xs) U36)) (lim (rD (val xs) U36))) := by
  obtain ⟨X1, hX1⟩ : ∃ X, w.alloc (.cells #[.slice a m c] 35) = X := ⟨_, rfl⟩
  obtain ⟨X2, hX2⟩ : ∃ X, X1.alloc (.cells #[.slice none 0 0, .slice none 0 0] 40) = X := ⟨_, rfl⟩
  have hsz1 : X1.heap.size = w.heap.size + 1 := by rw [← hX1, alloc_size]
  have hsz2 : X2.heap.size = w.heap.size + 2 := by rw [← hX2, alloc_size, hsz1]
  have E1 : Ext w X1 := by rw [← hX1]; exact (Ext.refl w).alloc _
  have E2 : Ext X1 X2 := by rw [← hX2]; exact (Ext.refl X1).alloc _
  have HC : Hid (∀ w', Ext X2 w' → w'.cell? ⟨w.heap.size, 0, none⟩ = some (.slice a m c)) := Lib.hid (fun w' h => box_cell (by rw [hX1]; exact E2.trans h))
  have R2 : X2.heap[w.heap.size + 1]? = some (.cells #[.slice none 0 0, .slice none 0 0] 40 (0, 0)) := by rw [← hsz1]; exact box2_row (w := X1) (by rw [hX2]; exact Ext.refl _)
  have HA := Lib.hid (fun w' (h : Ext X2 w') => ha.old ((E1.trans E2).trans h))
  have HX1 := Lib.hid hX1; have HX2 := Lib.hid hX2; have HR2 := Lib.hid R2; have HE := Lib.hid (E1.trans E2); have HSZ := Lib.hid hsz2; have HTZ := Lib.hid htz
  have HCC : Hid (∀ w' u v, Ext X2 w' → ((w'.setCell ⟨w.heap.size + 1, 0, none⟩ u).setCell ⟨w.heap.size + 1, 1, none⟩ v).cell? ⟨w.heap.size, 0, none⟩ = some (.slice a m c)) := Lib.hid (fun w' u v h => by
    rw [World.cell?_setCell_other _ _ _ _ (by intro e; injection e with e1; omega), World.cell?_setCell_other _ _ _ _ (by intro e; injection e with e1; omega)]; exact HC.out w' h)
  clear hX1 hX2 E1 E2 R2 ha htz
  have hfd := field_dec
  go_enter Tryz.func34, Tryz.ntmps34
  go_wp2_with (first | rw [HX1.out] | rw [HX2.out])
  go_region_held3 (fun w' => w'.cell? ⟨w.heap.size, 0, none⟩ = some (.slice a m c))
    (first | exact HC.out _ (Ext.refl _).drew | exact HC.out _ (by assumption) | exact HCC.out _ _ _ (by assumption))
    (first
      | (go_at_call 36; refine (dof_calls 1 (by decide) _).mono ?_; rintro e w1 ⟨o1, n1, c1, rfl, hown1, hext1, hno1⟩; have EX1 : Ext X2 w1 := (Ext.refl X2).drew.trans hext1)
      | (go_at_call 76; refine (rmade_calls (HA.out _ EX1) hown1.sl (by omega) (by omega) (HTZ.out.old (HE.out.trans EX1)) (by rw [val_lim]; unfold U36; decide)).mono ?_; rintro e wG ⟨o7, n7, c7, o8, n8, c8, rfl, hown7, hown8, hext7, hno7, hno8⟩; rw [val_lim, Nat.one_mul] at hown7 hown8; have EwG : Ext X2 wG := EX1.trans hext7; obtain ⟨l1, l2, l3, l4⟩ := row2_cells (rowE EwG HR2.out)))
  have HG7 := Lib.hid (rowE EwG HR2.out); have HO7 := Lib.hid hown7; have HO8 := Lib.hid hown8; have HEG := Lib.hid EwG
  have z3 := HSZ.out; have zz : X2.heap.size ≤ w1.heap.size := EX1.size
  go_wp2_with fail
  try simp only [Exit.inBlock, Exit.then]
  refine bodyPost_ret (results_box1 rfl _ _ _ _ rfl (load_rat (set2_row HG7.out _ _))) rfl ?_
  exact ⟨_, _, _, _, _, _, rfl, (HO7.out.set2 _ _ (by omega)).mono (by omega), (HO8.out.set2 _ _ (by omega)).mono (by omega), set2_ext (HE.out.trans HEG.out) (by omega) _ _, by omega, by omega⟩

end Go.Proofs.YtimcnhlcepemjaaGreatDoor

/- rat.Sum of at most one fraction of whatever length; slices of fractions. -/
namespace Go.Proofs.YtimcnhlcepemjaaGreatDoor
open Go.RowKit

abbrev Part := Option Addr × Nat × Nat
/-- A slice of fractions: each takes two cells. -/
structure RSl (w : World) (a : Option Addr) (n c : Nat) (vs : List (Part × Part)) : Prop where
  len : vs.length = n
  cap : n ≤ c
  big : c ≤ 9223372036854775807
  at_ : n = 0 ∨ ∃ b off, a = some ⟨b, off, none⟩ ∧ ∀ i v, vs[i]? = some v → w.cell? ⟨b, off + i * 2, none⟩ = some (.slice v.1.1 v.1.2.1 v.1.2.2) ∧ w.cell? ⟨b, off + i * 2 + 1, none⟩ = some (.slice v.2.1 v.2.2.1 v.2.2.2)
theorem RSl.old {w w' : World} {a : Option Addr} {n c : Nat} {vs : List (Part × Part)} (h : RSl w a n c vs) (hg : Ext w w') : RSl w' a n c vs := by
  refine ⟨h.len, h.cap, h.big, ?_⟩
  rcases h.at_ with hn | ⟨b, off, rfl, hc⟩
  · exact .inl hn
  · exact .inr ⟨b, off, rfl, fun i v hi => ⟨hg.cell (hc i v hi).1, hg.cell (hc i v hi).2⟩⟩
theorem RSl.ix {w : World} {a : Option Addr} {n c : Nat} {vs : List (Part × Part)} (h : RSl w a n c vs) {P : Program} {T E : TypeId} {i : TypeInfo}
    (hT : P.underlying T = some (.slice E)) (hi : P.info? E = some i) (hs : i.size = 2) :
    ∃ b off, (∀ k, k < n → ∀ w' : World, (Instr.indexAt T (.slice a n c) (.int .i64 (k : Int))).run P w' = .ok (.pointer (some ⟨b, off + k * 2, none⟩)) w') ∧
      (∀ k v, vs[k]? = some v → w.cell? ⟨b, off + k * 2, none⟩ = some (.slice v.1.1 v.1.2.1 v.1.2.2) ∧ w.cell? ⟨b, off + k * 2 + 1, none⟩ = some (.slice v.2.1 v.2.2.1 v.2.2.2)) := by
  rcases h.at_ with rfl | ⟨b, off, rfl, hc⟩
  · refine ⟨0, 0, fun k hk => absurd hk (by omega), fun k v hk => ?_⟩
    have hl := h.len
    rw [List.eq_nil_of_length_eq_zero hl] at hk
    simp at hk
  · refine ⟨b, off, fun k hk w' => ?_, hc⟩
    have hr := run_sizeOf hi w'
    rw [hs] at hr
    simp only [Instr.indexAt, Sem.run_bind, run_underlying hT, Result.andThen_ok, asIntOf, Sem.run_pure]
    have h1 : (0 : Int) ≤ (k : Int) ∧ (k : Int) < (n : Int) := ⟨by omega, by omega⟩
    simp [hk, hr, Addr.add]
theorem infoRat : (Tryz.prog.info? 40).map (fun i => (i.size, i.bytes)) = some (2, 48) := by kernel_rfl
theorem infoRat' : ∃ i, Tryz.prog.info? 40 = some i ∧ i.size = 2 := by
  have h := infoRat
  cases hq : Tryz.prog.info? 40 with
  | none => simp [hq] at h
  | some i => simp [hq] at h; exact ⟨i, rfl, h.1⟩

/-- The sum of many. -/
def sumR (l : List (Nat × Nat)) : Nat × Nat := l.foldl addR (0, 1)
theorem sumR_succ {l : List (Nat × Nat)} {k : Nat} {p : Nat × Nat} (h : l[k]? = some p) : sumR (l.take (k + 1)) = addR (sumR (l.take k)) p := by
  unfold sumR
  have hk : k < l.length := by
    rcases Nat.lt_or_ge k l.length with h' | h'
    · exact h'
    · rw [List.getElem?_eq_none h'] at h; cases h
  rw [List.getElem?_eq_getElem hk] at h
  cases h
  rw [List.take_succ_eq_append_getElem hk, List.foldl_append]
  rfl

/-- What each of them reads as. -/
def RVals (K : Nat) (w : World) (vs : List (Part × Part)) (ps : List (Nat × Nat)) : Prop :=
  ps.length = vs.length ∧ ∀ (k : Nat) (v : Part × Part) (p : Nat × Nat), vs[k]? = some v → ps[k]? = some p → SlV w v.1.1 v.1.2.1 v.1.2.2 p.1 ∧ SlV w v.2.1 v.2.2.1 v.2.2.2 p.2 ∧ v.1.2.1 ≤ K ∧ v.2.2.1 ≤ K

abbrev AddF : Value := .func (.func 53) #[] #[]

def SumRel (K C : Nat) (w1 : World) (B n : Nat) (ps : List (Nat × Nat)) (iv : Value) (wr : World) : Prop :=
  ∃ (k : Nat) (a : Option Addr) (n1 c1 : Nat) (b : Option Addr) (m1 d1 : Nat), k ≤ n ∧ iv = .int .i64 (k : Int) ∧ wr.heap[B]? = some (.cells #[.slice a n1 c1, .slice b m1 d1] 40 (0, 0)) ∧
    Own C wr a n1 c1 (lim (sumR (ps.take k)).1) ∧ Own C wr b m1 d1 (lim (sumR (ps.take k)).2) ∧ n1 ≤ 2 * K + 20 ∧ m1 ≤ K + 5 ∧ (k = 0 → n1 = 0 ∧ m1 ≤ 1) ∧ Ext w1 wr

set_option maxHeartbeats 8000000 in
set_option maxRecDepth 100000 in
theorem rfold_calls {K : Nat} (hK : K ≤ 90000) {a : Option Addr} {n c : Nat} {vs : List (Part × Part)} {ps : List (Nat × Nat)} {w : World} {p : Addr} (ha : RSl w a n c vs) (hn : n ≤ 1) (hv : RVals K w vs ps) (htz : TzTab w)
    (hp : w.cell? p = some AddF) :
    Calls Tryz.prog 133 #[.slice a n c, .pointer (some p)] w (NewR w (2 * K + 20) (K + 5) (lim (sumR ps).1) (lim (sumR ps).2)) := by
  obtain ⟨i0, hi, hs⟩ := infoRat'
  obtain ⟨b, off, hix, hcell⟩ := ha.ix (P := Tryz.prog) Tryz.underlying66 hi hs
  have HLV := Lib.hid ha.len; have HLP := Lib.hid hv.1
  obtain ⟨X1, hX1⟩ : ∃ X, w.alloc (.cells #[.slice none 0 0, .slice none 0 0] 40) = X := ⟨_, rfl⟩
  have hsz1 : X1.heap.size = w.heap.size + 1 := by rw [← hX1, alloc_size]
  have E1 : Ext w X1 := by rw [← hX1]; exact (Ext.refl w).alloc _
  have R1 : X1.heap[w.heap.size]? = some (.cells #[.slice none 0 0, .slice none 0 0] 40 (0, 0)) := box2_row (w := w) (by rw [hX1]; exact Ext.refl _)
  have CN := Lib.hid (rofnat_calls (Sl.nil X1) (by omega))
  have HX1 := Lib.hid hX1; have HR1 := Lib.hid R1; have HE1 := Lib.hid E1; have HIX := Lib.hid hix; have HCELL := Lib.hid hcell; have HV := Lib.hid hv.2; have HTZ := Lib.hid htz; have HP := Lib.hid hp
  clear hX1 E1 R1 ha hix hcell hv htz hp hi hs
  go_enter Tryz.func133, Tryz.ntmps133
  go_wp2_with (rw [HX1.out])
  refine CN.out.mono ?_
  rintro e w1 ⟨a1, n1, c1, b1, m1, d1, rfl, hown1, hown2, hext1, hn1, hm1⟩
  obtain ⟨w2, hw2⟩ : ∃ W, w1.alloc (.cells #[.slice a1 n1 c1, .slice b1 m1 d1] 40) = W := ⟨_, rfl⟩
  have HW2 := Lib.hid hw2
  have HEW2 := Lib.hid (show Ext X1 w2 by rw [← hw2]; exact hext1.alloc _)
  have hrow2 : w2.heap[w1.heap.size]? = some (.cells #[.slice a1 n1 c1, .slice b1 m1 d1] 40 (0, 0)) := by rw [← hw2]; exact heap_alloc_new w1 _
  have HOA := Lib.hid (show Own X1.heap.size w2 a1 n1 c1 (lim 0) by rw [← hw2]; exact hown1.old ((Ext.refl _).alloc _))
  have HOB := Lib.hid (show Own X1.heap.size w2 b1 m1 d1 (lim 1) by rw [← hw2]; exact hown2.old ((Ext.refl _).alloc _))
  have HROW2 := Lib.hid hrow2
  have hs1 := hext1.size
  have hl0 : n1 = 0 := by have := hown1.sl.len; simpa [lim_zero, val] using this.symm
  have HL0 := Lib.hid hl0
  clear hw2 hrow2 hown1 hown2 hext1 hl0
  go_wp2_with (rw [HW2.out])
  go_loopw [10] (fun iv wr => SumRel K X1.heap.size X1 w1.heap.size n ps iv wr) (fun iv _ => n - (intOf iv).toNat)
  case atStart => exact ⟨0, a1, n1, c1, b1, m1, d1, by omega, rfl, HROW2.out, HOA.out, HOB.out, by have := HL0.out; omega, by omega, fun _ => ⟨HL0.out, by omega⟩, HEW2.out⟩
  case round =>
    obtain ⟨k, ra, rn, rc, rb, rm, rd, hk, rfl, hrow, hoa, hob, hrn, hrm, hr0, hex⟩ := hrel
    have HROW := Lib.hid hrow; have HA := Lib.hid hoa; have HB := Lib.hid hob; have HEX := Lib.hid hex; have HR0 := Lib.hid hr0
    clear hrow hoa hob hex hr0
    by_cases hkn : k = n
    · subst hkn
      have hwhole : ps.take k = ps := List.take_of_length_le (by rw [HLP.out, HLV.out]; exact Nat.le_refl _)
      obtain ⟨k1, k2, k3, k4⟩ := row2_cells HROW.out
      have HR1' := Lib.hid (rowE HEX.out HR1.out)
      obtain ⟨j1, j2, j3, j4⟩ := row2_cells HR1'.out
      have hoa := HA.out; have hob := HB.out
      rw [hwhole] at hoa hob
      have HOA' := Lib.hid ((hoa.set2 (.slice ra rn rc) (.slice rb rm rd) (by omega : w.heap.size < X1.heap.size)).mono (by omega : w.heap.size ≤ X1.heap.size))
      have HOB' := Lib.hid ((hob.set2 (.slice ra rn rc) (.slice rb rm rd) (by omega : w.heap.size < X1.heap.size)).mono (by omega : w.heap.size ≤ X1.heap.size))
      have HEF := Lib.hid (set2_ext (HE1.out.trans HEX.out) (Nat.le_refl w.heap.size) (.slice ra rn rc) (.slice rb rm rd))
      clear hoa hob hwhole
      go_wp2_with fail
      try simp only [Exit.inBlock, Exit.then]
      refine bodyPost_ret (results_box1 rfl _ _ _ _ rfl (load_rat (set2_row HR1'.out _ _))) rfl ?_
      exact ⟨_, _, _, _, _, _, rfl, HOA'.out, HOB'.out, HEF.out, by omega, by omega⟩
    · have hlt : (k : Int) < (n : Int) := by omega
      have hkl : k < vs.length := by rw [HLV.out]; omega
      obtain ⟨v, hvk⟩ : ∃ v, vs[k]? = some v := ⟨_, List.getElem?_eq_getElem hkl⟩
      obtain ⟨q, hqk⟩ : ∃ q, ps[k]? = some q := ⟨_, List.getElem?_eq_getElem (by rw [HLP.out]; exact hkl)⟩
      obtain ⟨⟨va, vn, vc⟩, ⟨vb, vm, vd⟩⟩ := v
      obtain ⟨hs1, hs2, hb1, hb2⟩ := HV.out k _ _ hvk hqk
      have hc := HCELL.out k _ hvk
      simp only at hs1 hs2 hb1 hb2 hc
      have EK := HE1.out.trans HEX.out
      have x1 := HIX.out k (by omega)
      have x2 := EK.cell hc.1
      have x3 := EK.cell hc.2
      obtain ⟨Z, hZ⟩ : ∃ Z, wr.alloc (.cells #[.slice va vn vc, .slice vb vm vd] 40) = Z := ⟨_, rfl⟩
      have EZ : Ext wr Z := by rw [← hZ]; exact (Ext.refl wr).alloc _
      have x4 := (EK.trans EZ).cell HP.out
      obtain ⟨k1, k2, k3, k4⟩ := row2_cells (rowE EZ HROW.out)
      have hzr : Z.heap[wr.heap.size]? = some (.cells #[.slice va vn vc, .slice vb vm vd] 40 (0, 0)) := by rw [← hZ]; exact heap_alloc_new wr _
      obtain ⟨j1, j2, j3, j4⟩ := row2_cells hzr
      obtain ⟨ya, hya, hyav⟩ := hs1.old (EK.trans EZ)
      obtain ⟨yb, hyb, hybv⟩ := hs2.old (EK.trans EZ)
      have CA := radd_calls (HA.out.sl.old EZ) (HB.out.sl.old EZ) hya hyb (by have := (HR0.out (by omega)).1; omega) (by have := (HR0.out (by omega)).2; omega) (by omega) (by omega) (HTZ.out.old (EK.trans EZ))
      rw [val_lim, val_lim, hyav, hybv] at CA
      have HCA := Lib.hid CA; have HZ := Lib.hid hZ; have HEK := Lib.hid EK; have HEZ := Lib.hid EZ
      have HSUM := Lib.hid (sumR_succ hqk)
      have hB4 := (Array.getElem?_eq_some_iff.1 HROW.out).1
      have HZB := Lib.hid (show w1.heap.size < Z.heap.size by have := EZ.size; omega)
      have HZX := Lib.hid (show X1.heap.size ≤ Z.heap.size by have := EZ.size; have := HEX.out.size; omega)
      clear CA hZ EK EZ hzr hya hyb hyav hybv hs1 hs2 hc hvk hqk hB4
      go_wp2_with (rw [HZ.out])
      refine HCA.out.mono ?_
      rintro e w5 ⟨o1, l1, e1, o2, l2, e2, rfl, hown5, hown6, hext5, hl1, hl2⟩
      have HROW5 := Lib.hid (rowE (HEZ.out.trans hext5) HROW.out)
      clear k1 k2 k3 k4 j1 j2 j3 j4
      obtain ⟨k1, k2, k3, k4⟩ := row2_cells HROW5.out
      have HO5 := Lib.hid hown5; have HO6 := Lib.hid hown6; have HE5 := Lib.hid (HEX.out.trans (HEZ.out.trans hext5))
      clear hown5 hown6 hext5
      go_wp2_with fail
      go_roundw
      case rel =>
        obtain ⟨hr1, hr2⟩ := HR0.out (by omega)
        refine ⟨k + 1, o1, l1, e1, o2, l2, e2, by omega, by go_num, set2_row HROW5.out _ _, ?_, ?_, by omega, by omega, fun h => by omega, ?_⟩
        · rw [HSUM.out]; exact (HO5.out.set2 _ _ HZB.out).mono HZX.out
        · rw [HSUM.out]; exact (HO6.out.set2 _ _ HZB.out).mono HZX.out
        · exact set2_ext HE5.out hs1 _ _
      case measure => simp only [intOf]; omega

end Go.Proofs.YtimcnhlcepemjaaGreatDoor

/- rat.Sum of at most one fraction. -/
namespace Go.Proofs.YtimcnhlcepemjaaGreatDoor
open Go.RowKit

/-- The closure over a function's variable. -/
abbrev FoldF (p : Nat) : Value := .func (.func 133) #[] #[.pointer (some ⟨p, 0, none⟩)]

set_option maxHeartbeats 1000000 in
set_option maxRecDepth 100000 in
theorem rfolder_calls (w : World) : Calls Tryz.prog 94 #[AddF] w (fun e w' => e = .returned (FoldF w.heap.size) ∧ ∃ T, w' = w.alloc (.cells #[AddF] T)) := by
  go_enter Tryz.func94, Tryz.ntmps94
  go_wp2_with fail
  go_ret
  exact ⟨rfl, _, rfl⟩

set_option maxHeartbeats 400000 in
set_option maxRecDepth 100000 in
theorem rsum_calls {K : Nat} (hK : K ≤ 90000) {a : Option Addr} {n c : Nat} {vs : List (Part × Part)} {ps : List (Nat × Nat)} {w : World} (ha : RSl w a n c vs) (hn : n ≤ 1) (hv : RVals K w vs ps) (htz : TzTab w) :
    Calls Tryz.prog 59 #[.slice a n c] w (NewR w (2 * K + 20) (K + 5) (lim (sumR ps).1) (lim (sumR ps).2)) := by
  obtain ⟨X1, hX1⟩ : ∃ X, w.alloc (.cells #[.slice none 0 0, .slice none 0 0] 40) = X := ⟨_, rfl⟩
  have hsz1 : X1.heap.size = w.heap.size + 1 := by rw [← hX1, alloc_size]
  have E1 : Ext w X1 := by rw [← hX1]; exact (Ext.refl w).alloc _
  have R1 : X1.heap[w.heap.size]? = some (.cells #[.slice none 0 0, .slice none 0 0] 40 (0, 0)) := box2_row (w := w) (by rw [hX1]; exact Ext.refl _)
  have HX1 := Lib.hid hX1; have HR1 := Lib.hid R1; have HE1 := Lib.hid E1; have HA := Lib.hid ha; have HV := Lib.hid hv; have HTZ := Lib.hid htz
  clear hX1 E1 R1 ha hv htz
  go_enter Tryz.func59, Tryz.ntmps59
  go_wp2_with (rw [HX1.out])
  refine (rfolder_calls _).mono ?_
  rintro e w2 ⟨rfl, T, hw2⟩
  have E2 : Ext X1 w2 := by rw [hw2]; exact (Ext.refl _).alloc _
  have hp : w2.cell? ⟨X1.heap.size, 0, none⟩ = some AddF := by rw [hw2, World.cell?_alloc_new]; rfl
  rw [hsz1] at hp
  have hv2 : RVals K w2 vs ps := ⟨HV.out.1, fun k v p h1 h2 => ⟨((HV.out.2 k v p h1 h2).1).old (HE1.out.trans E2), ((HV.out.2 k v p h1 h2).2.1).old (HE1.out.trans E2), (HV.out.2 k v p h1 h2).2.2⟩⟩
  have CF := Lib.hid (rfold_calls hK (HA.out.old (HE1.out.trans E2)) hn hv2 (HTZ.out.old (HE1.out.trans E2)) hp)
  have HE2 := Lib.hid E2
  clear hw2 E2 hp hv2
  go_wp2_with fail
  refine CF.out.mono ?_
  rintro e w3 ⟨o1, l1, e1, o2, l2, e2, rfl, hown5, hown6, hext5, hl1, hl2⟩
  have HRW := Lib.hid (rowE (HE2.out.trans hext5) HR1.out)
  obtain ⟨k1, k2, k3, k4⟩ := row2_cells HRW.out
  have z1 := HE2.out.size
  have HO5 := Lib.hid ((hown5.set2 (.slice o1 l1 e1) (.slice o2 l2 e2) (by omega : w.heap.size < w2.heap.size)).mono (by omega : w.heap.size ≤ w2.heap.size))
  have HO6 := Lib.hid ((hown6.set2 (.slice o1 l1 e1) (.slice o2 l2 e2) (by omega : w.heap.size < w2.heap.size)).mono (by omega : w.heap.size ≤ w2.heap.size))
  have HEF := Lib.hid (set2_ext (HE1.out.trans (HE2.out.trans hext5)) (Nat.le_refl w.heap.size) (.slice o1 l1 e1) (.slice o2 l2 e2))
  clear hown5 hown6 hext5
  go_wp2_with fail
  try simp only [Exit.inBlock, Exit.then]
  refine bodyPost_ret (results_box1 rfl _ _ _ _ rfl (load_rat (set2_row HRW.out _ _))) rfl ?_
  exact ⟨_, _, _, _, _, _, rfl, HO5.out, HO6.out, HEF.out, hl1, hl2⟩

end Go.Proofs.YtimcnhlcepemjaaGreatDoor

/- gleanhelp.Nat. -/
namespace Go.Proofs.YtimcnhlcepemjaaGreatDoor
open Go.RowKit

def HelpRel (w : World) (n : Nat) (xs ys : List Nat) (iv : Value) (wr : World) : Prop :=
  ∃ k : Nat, k ≤ n ∧ iv = .int .i64 (k : Int) ∧ xs.take k = ys.take k ∧ ∃ m, wr = w.drewN m
theorem take_succ_same {xs ys : List Nat} {k n : Nat} (hx : xs.length = n) (hy : ys.length = n) (hk : k < n) (h : xs.take k = ys.take k) (he : xs.getD k 0 = ys.getD k 0) : xs.take (k + 1) = ys.take (k + 1) := by
  rw [List.take_succ_eq_append_getElem (by omega), List.take_succ_eq_append_getElem (by omega), h]
  rw [getD_of_lt (by omega : k < xs.length), getD_of_lt (by omega : k < ys.length)] at he
  rw [he]

set_option maxHeartbeats 1000000 in
set_option maxRecDepth 100000 in
theorem hnat_calls {a b : Option Addr} {m n c d : Nat} {xs ys : List Nat} {w : World} (ha : Sl w a m c xs) (hb : Sl w b n d ys) (hm : m ≤ 1000000000) (_hn : n ≤ 1000000000) :
    Calls Tryz.prog 62 #[.slice a m c, .slice b n d] w (RetD (.bool (decide (xs = ys))) w) := by
  obtain ⟨i0, hi, hz0, hs, hby⟩ := info_parts info64
  have H1 := Lib.hid hi; have H3 := Lib.hid hs
  clear hi hz0 hs hby
  have LA := Lib.hid ha.len; have LB := Lib.hid hb.len
  by_cases hmn : m = n
  · subst hmn
    go_enter Tryz.func62, Tryz.ntmps62
    go_wp2_with fail
    go_loopw [5] (fun iv wr => HelpRel w m xs ys iv wr) (fun iv _ => m - (intOf iv).toNat)
    case atStart => exact ⟨0, by omega, rfl, rfl, 0, rfl⟩
    case round =>
      obtain ⟨k, hk, rfl, htk, m0, hwr⟩ := hrel
      have HD := Lib.hid htk
      have HW := Lib.hid hwr
      have hexr : Ext w wr := by rw [hwr]; exact (Ext.refl w).drewN m0
      clear htk hwr
      by_cases hkm : k = m
      · subst hkm
        have HR := Lib.hid (show decide (xs = ys) = true by
          have := HD.out
          rw [List.take_of_length_le (by rw [LA.out]; omega), List.take_of_length_le (by rw [LB.out]; omega)] at this
          exact decide_eq_true this)
        go_wp2_with fail
        go_ret
        exact ⟨by rw [HR.out]; rfl, _, HW.out⟩
      · obtain ⟨ba, oa, hixa, hca, -⟩  := (ha.old hexr).ix (P := Tryz.prog) Tryz.underlying33 H1.out H3.out
        obtain ⟨bb, ob, hixb, hcb, -⟩  := (hb.old hexr).ix (P := Tryz.prog) Tryz.underlying33 H1.out H3.out
        have x1 := hixa k (by omega)
        have x2 := hca k (by omega)
        have x3 := hixb k (by omega)
        have x4 := hcb k (by omega)
        have HT := Lib.hid (take_succ_same LA.out LB.out (show k < m by omega) HD.out)
        have HN := Lib.hid (show xs.getD k 0 ≠ ys.getD k 0 → xs ≠ ys from fun h e => h (by rw [e]))
        clear hixa hca hixb hcb
        have hlt : (k : Int) < (m : Int) := by omega
        generalize xs.getD k 0 = u at *
        generalize ys.getD k 0 = v at *
        by_cases huv : u = v
        · have HT2 := Lib.hid (HT.out huv)
          subst huv
          go_wp2_with fail
          go_quiet (fail)
          go_wp2_with fail
          go_roundw
          case rel => exact ⟨k + 1, by omega, rfl, HT2.out, m0 + nq, by rw [HW.out]; exact World.drewN_drewN _ _ _⟩
          case measure => simp only [intOf]; omega
        · have HR := Lib.hid (decide_eq_false (HN.out huv))
          have huv' : ((u : Int) == (v : Int)) = false := by rw [beq_eq_false_iff_ne]; omega
          go_wp2_with fail
          go_quiet (fail)
          go_wp2_with fail
          go_ret
          exact ⟨by rw [HR.out]; rfl, m0 + nq, by rw [HW.out]; exact World.drewN_drewN _ _ _⟩
  · have HR := Lib.hid (show decide (xs = ys) = false from decide_eq_false (fun e => hmn (by rw [← LA.out, ← LB.out, e])))
    have g1 : ((m : Int) == (n : Int)) = false := by rw [beq_eq_false_iff_ne]; omega
    go_enter Tryz.func62, Tryz.ntmps62
    go_wp2_with fail
    go_ret
    exact ⟨by rw [HR.out]; rfl, 0, rfl⟩

end Go.Proofs.YtimcnhlcepemjaaGreatDoor

/- gleanhelp.Rat. -/
namespace Go.Proofs.YtimcnhlcepemjaaGreatDoor
open Go.RowKit

set_option maxHeartbeats 2000000 in
set_option maxRecDepth 100000 in
theorem hrat_calls {a1 b1 a2 b2 : Option Addr} {m1 n1 c1 d1 m2 n2 c2 d2 : Nat} {xs1 ys1 xs2 ys2 : List Nat} {w : World} (ha1 : Sl w a1 m1 c1 xs1) (hb1 : Sl w b1 n1 d1 ys1) (ha2 : Sl w a2 m2 c2 xs2) (hb2 : Sl w b2 n2 d2 ys2)
    (hm1 : m1 ≤ 1000000) (hn1 : n1 ≤ 1000000) (hm2 : m2 ≤ 1000000) (hn2 : n2 ≤ 1000000) :
    Calls Tryz.prog 16 #[RatV a1 m1 c1 b1 n1 d1, RatV a2 m2 c2 b2 n2 d2] w (RetE (.bool (decide (xs1 = xs2 ∧ ys1 = ys2))) w) := by
  obtain ⟨X1, hX1⟩ : ∃ X, w.alloc (.cells #[.slice a1 m1 c1, .slice b1 n1 d1] 40) = X := ⟨_, rfl⟩
  obtain ⟨X2, hX2⟩ : ∃ X, X1.alloc (.cells #[.slice a2 m2 c2, .slice b2 n2 d2] 40) = X := ⟨_, rfl⟩
  have hsz1 : X1.heap.size = w.heap.size + 1 := by rw [← hX1, alloc_size]
  have E1 : Ext w X1 := by rw [← hX1]; exact (Ext.refl w).alloc _
  have E2 : Ext X1 X2 := by rw [← hX2]; exact (Ext.refl X1).alloc _
  have R1 : X2.heap[w.heap.size]? = some (.cells #[.slice a1 m1 c1, .slice b1 n1 d1] 40 (0, 0)) := box2_row (w := w) (by rw [hX1]; exact E2)
  have R2 : X2.heap[w.heap.size + 1]? = some (.cells #[.slice a2 m2 c2, .slice b2 n2 d2] 40 (0, 0)) := by rw [← hsz1]; exact box2_row (w := X1) (by rw [hX2]; exact Ext.refl _)
  have HE := Lib.hid (E1.trans E2)
  have C1 := Lib.hid (hnat_calls (ha1.old (E1.trans E2)) (ha2.old (E1.trans E2)) (by omega) (by omega))
  have HB1 := Lib.hid (hb1.old (E1.trans E2)); have HB2 := Lib.hid (hb2.old (E1.trans E2))
  obtain ⟨k1, k2, k3, k4⟩ := row2_cells R1
  obtain ⟨j1, j2, j3, j4⟩ := row2_cells R2
  have HX1 := Lib.hid hX1; have HX2 := Lib.hid hX2; have HR1 := Lib.hid R1; have HR2 := Lib.hid R2
  clear hX1 hX2 E1 E2 R1 R2 ha1 hb1 ha2 hb2
  by_cases he : xs1 = xs2
  · rw [decide_eq_true he] at C1
    have hv : decide (xs1 = xs2 ∧ ys1 = ys2) = decide (ys1 = ys2) := by
      by_cases h2 : ys1 = ys2
      · rw [decide_eq_true h2, decide_eq_true ⟨he, h2⟩]
      · rw [decide_eq_false h2, decide_eq_false (fun h => h2 h.2)]
    rw [hv]
    have HV := Lib.hid hv
    clear he hv
    go_enter Tryz.func16, Tryz.ntmps16
    go_wp2_with (first | rw [HX1.out] | rw [HX2.out])
    refine C1.out.mono ?_
    rintro e w' ⟨rfl, q, rfl⟩
    have ED := (Ext.refl X2).drewN q
    clear k1 k2 k3 k4 j1 j2 j3 j4
    obtain ⟨k1, k2, k3, k4⟩ := row2_cells (rowE ED HR1.out)
    obtain ⟨j1, j2, j3, j4⟩ := row2_cells (rowE ED HR2.out)
    have C2 := Lib.hid (hnat_calls (HB1.out.old ED) (HB2.out.old ED) (by omega) (by omega))
    have HED := Lib.hid ED
    clear ED
    go_wp2_with fail
    refine C2.out.mono ?_
    rintro e w' ⟨rfl, q2, rfl⟩
    go_wp2_with fail
    go_ret
    exact ⟨rfl, HE.out.drewN _⟩
  · rw [decide_eq_false he] at C1
    rw [decide_eq_false (fun h => he h.1)]
    clear he
    go_enter Tryz.func16, Tryz.ntmps16
    go_wp2_with (first | rw [HX1.out] | rw [HX2.out])
    refine C1.out.mono ?_
    rintro e w' ⟨rfl, q, rfl⟩
    go_wp2_with fail
    go_ret
    exact ⟨rfl, HE.out.drewN _⟩

end Go.Proofs.YtimcnhlcepemjaaGreatDoor

/- The fractions' functions, over reduced fractions: sums, products, quotients, whole numbers. -/
namespace Go.Proofs.YtimcnhlcepemjaaGreatDoor
open Go.RowKit

/-- Two slices that read as a fraction. -/
structure RA (w : World) (a : Option Addr) (n c : Nat) (b : Option Addr) (m d : Nat) (q : Nat × Nat) : Prop where
  nu : Sl w a n c (lim q.1)
  de : Sl w b m d (lim q.2)
theorem RA.len {w : World} {a : Option Addr} {n c : Nat} {b : Option Addr} {m d : Nat} {q : Nat × Nat} (h : RA w a n c b m d q) : n ≤ sz q ∧ m ≤ sz q := by
  have h1 := h.nu.len
  have h2 := h.de.len
  unfold sz ln
  omega
theorem RA.old {w w' : World} {a : Option Addr} {n c : Nat} {b : Option Addr} {m d : Nat} {q : Nat × Nat} (h : RA w a n c b m d q) (E : Ext w w') : RA w' a n c b m d q := ⟨h.nu.old E, h.de.old E⟩
/-- A new fraction. -/
def NewQ (w : World) (q : Nat × Nat) (e : Ending) (w' : World) : Prop :=
  ∃ a n c b m d, e = .returned (RatV a n c b m d) ∧ Own w.heap.size w' a n c (lim q.1) ∧ Own w.heap.size w' b m d (lim q.2) ∧ Ext w w'
theorem NewR.q {w : World} {L M : Nat} {X Y : Nat} {e : Ending} {w' : World} (h : NewR w L M (lim X) (lim Y) e w') : NewQ w (X, Y) e w' := by
  obtain ⟨a, n, c, b, m, d, he, h1, h2, h3, _, _⟩ := h
  exact ⟨a, n, c, b, m, d, he, h1, h2, h3⟩
def decQ (X : Nat) : Nat × Nat := (rN X U36, rD X U36)
theorem radd_q {a1 b1 a2 b2 : Option Addr} {m1 n1 c1 d1 m2 n2 c2 d2 : Nat} {p q : Nat × Nat} {w : World} (h1 : RA w a1 m1 c1 b1 n1 d1 p) (h2 : RA w a2 m2 c2 b2 n2 d2 q) (hp : sz p ≤ 100000) (hq : sz q ≤ 100000) (htz : TzTab w) :
    Calls Tryz.prog 53 #[RatV a1 m1 c1 b1 n1 d1, RatV a2 m2 c2 b2 n2 d2] w (NewQ w (addR p q)) := by
  have l1 := h1.len; have l2 := h2.len
  have := radd_calls h1.nu h1.de h2.nu h2.de (by omega) (by omega) (by omega) (by omega) htz
  rw [val_lim, val_lim, val_lim, val_lim] at this
  exact this.mono fun _ _ h => h.q
theorem rmul_q {a1 b1 a2 b2 : Option Addr} {m1 n1 c1 d1 m2 n2 c2 d2 : Nat} {p q : Nat × Nat} {w : World} (h1 : RA w a1 m1 c1 b1 n1 d1 p) (h2 : RA w a2 m2 c2 b2 n2 d2 q) (hp : sz p ≤ 100000) (hq : sz q ≤ 100000) (htz : TzTab w) :
    Calls Tryz.prog 45 #[RatV a1 m1 c1 b1 n1 d1, RatV a2 m2 c2 b2 n2 d2] w (NewQ w (mulR p q)) := by
  have l1 := h1.len; have l2 := h2.len
  have := rmul_calls h1.nu h1.de h2.nu h2.de (by omega) (by omega) (by omega) (by omega) htz
  rw [val_lim, val_lim, val_lim, val_lim] at this
  exact this.mono fun _ _ h => h.q
theorem rofdec_q {a : Option Addr} {m c : Nat} {xs : List Nat} {w : World} (ha : Sl w a m c xs) (hm : m ≤ 100000) (htz : TzTab w) :
    Calls Tryz.prog 34 #[DecV a m c] w (NewQ w (decQ (val xs))) := (rofdec_calls ha hm htz).mono fun _ _ h => h.q
theorem rnil_q (w : World) : Calls Tryz.prog 43 #[.slice none 0 0] w (NewQ w (0, 1)) :=
  (rofnat_calls (Sl.nil w) (by decide)).mono fun _ _ h => h.q
theorem rsum0_q (w : World) (htz : TzTab w) : Calls Tryz.prog 59 #[.slice none 0 0] w (NewQ w (0, 1)) :=
  (rsum_calls (K := 0) (by decide) (vs := []) (ps := []) ⟨rfl, Nat.le_refl _, by decide, .inl rfl⟩ (by decide) ⟨rfl, fun k v p h => by simp at h⟩ htz).mono fun _ _ h => h.q
/-- The sum of one: it, reduced. -/
def canQ (q : Nat × Nat) : Nat × Nat := addR (0, 1) q
theorem tQ_can (q : Nat × Nat) : tQ (canQ q) = tQ q := by
  unfold canQ
  rw [tQ_add, tQ_one]
  grind
theorem can_canQ (q : Nat × Nat) : Can (canQ q) := can_add _ _
theorem rsum1_q {a b o : Option Addr} {m n c d co : Nat} {q : Nat × Nat} {w : World} (h : RA w a m c b n d q) (hq : sz q ≤ 90000) (htz : TzTab w) (g off : Nat) (ho : o = some ⟨g, off, none⟩) (hco : 1 ≤ co) (hc2 : co ≤ 9223372036854775807)
    (h0 : w.cell? ⟨g, off, none⟩ = some (.slice a m c)) (h1 : w.cell? ⟨g, off + 1, none⟩ = some (.slice b n d)) :
    Calls Tryz.prog 59 #[.slice o 1 co] w (NewQ w (canQ q)) := by
  have l := h.len
  refine (rsum_calls (K := sz q) hq (vs := [((a, m, c), (b, n, d))]) (ps := [q]) ⟨rfl, hco, hc2, .inr ⟨g, off, ho, fun i v hi => ?_⟩⟩ (Nat.le_refl _) ⟨rfl, fun k v p hv hp => ?_⟩ htz).mono fun _ _ h => h.q
  · match i, hi with
    | 0, hi => simp at hi; subst hi; simpa using ⟨h0, h1⟩
    | i + 1, hi => simp at hi
  · match k, hv, hp with
    | 0, hv, hp =>
      simp at hv hp
      subst hv hp
      exact ⟨⟨_, h.nu, val_lim _⟩, ⟨_, h.de, val_lim _⟩, l.1, l.2⟩
    | k + 1, hv, hp => simp at hv
theorem hrat_q {a1 b1 a2 b2 : Option Addr} {m1 n1 c1 d1 m2 n2 c2 d2 : Nat} {p q : Nat × Nat} {w : World} (h1 : RA w a1 m1 c1 b1 n1 d1 p) (h2 : RA w a2 m2 c2 b2 n2 d2 q) (hp : sz p ≤ 100000) (hq : sz q ≤ 100000) (v : Bool) (hv : decide (p = q) = v) :
    Calls Tryz.prog 16 #[RatV a1 m1 c1 b1 n1 d1, RatV a2 m2 c2 b2 n2 d2] w (RetE (.bool v) w) := by
  have l1 := h1.len; have l2 := h2.len
  have := hrat_calls h1.nu h1.de h2.nu h2.de (by omega) (by omega) (by omega) (by omega)
  have e : decide (lim p.1 = lim q.1 ∧ lim p.2 = lim q.2) = decide (p = q) := by
    apply Bool.eq_iff_iff.2
    rw [decide_eq_true_iff, decide_eq_true_iff]
    constructor
    · rintro ⟨x, y⟩
      have x := congrArg val x; have y := congrArg val y
      rw [val_lim, val_lim] at x y
      exact Prod.ext x y
    · rintro rfl; exact ⟨rfl, rfl⟩
  rw [e, hv] at this
  exact this

/-! ledger.quo, whole. -/
set_option maxHeartbeats 4000000 in
set_option maxRecDepth 100000 in
theorem whole_q (x : Nat) (hx : x < B64) (w : World) : Calls Tryz.prog 50 #[.int .u64 (x : Int)] w (NewQ w (x, 1)) := by
  obtain ⟨X, hX⟩ : ∃ X, w.alloc (.cells #[.slice none 0 0, .slice none 0 0] 40) = X := ⟨_, rfl⟩
  have E0 : Ext w X := by rw [← hX]; exact (Ext.refl w).alloc _
  have hr0 : X.heap[w.heap.size]? = some (.cells #[.slice none 0 0, .slice none 0 0] 40 (0, 0)) := by rw [← hX]; exact heap_alloc_new w _
  have C1 := Lib.hid (of_calls x hx X)
  have HX := Lib.hid hX; have HE0 := Lib.hid E0; have HR0 := Lib.hid hr0; have HSZ := Lib.hid (show X.heap.size = w.heap.size + 1 by rw [← hX, alloc_size])
  clear hX E0 hr0 hx
  go_enter Tryz.func50, Tryz.ntmps50
  go_wp2_with (rw [HX.out])
  refine C1.out.mono ?_
  rintro e w1 ⟨a, n, c, rfl, ho, hx1, hn⟩
  have C2 := rofnat_calls ho.sl (by omega)
  rw [val_lim] at C2
  have HC2 := Lib.hid C2; have HX1 := Lib.hid hx1
  clear C2 ho hx1 C1
  go_wp2_with fail
  refine HC2.out.mono ?_
  rintro e w2 ⟨o1, n1, c1, o2, n2, c2, rfl, h1, h2, hx2, -, -⟩
  have HRW := Lib.hid (rowE (HX1.out.trans hx2) HR0.out)
  obtain ⟨k1, k2, k3, k4⟩ := row2_cells HRW.out
  have z1 := HX1.out.size
  have z2 := HSZ.out
  have HO1 := Lib.hid ((h1.set2 (.slice o1 n1 c1) (.slice o2 n2 c2) (by omega : w.heap.size < w1.heap.size)).mono (by omega : w.heap.size ≤ w1.heap.size))
  have HO2 := Lib.hid ((h2.set2 (.slice o1 n1 c1) (.slice o2 n2 c2) (by omega : w.heap.size < w1.heap.size)).mono (by omega : w.heap.size ≤ w1.heap.size))
  have HEF := Lib.hid (set2_ext (HE0.out.trans (HX1.out.trans hx2)) (Nat.le_refl w.heap.size) (.slice o1 n1 c1) (.slice o2 n2 c2))
  clear h1 h2 hx2 z1 z2
  go_wp2_with fail
  try simp only [Exit.inBlock, Exit.then]
  refine bodyPost_ret (results_box1 rfl _ _ _ _ rfl (load_rat (set2_row HRW.out _ _))) rfl ?_
  exact ⟨_, _, _, _, _, _, rfl, HO1.out, HO2.out, HEF.out⟩

set_option maxHeartbeats 4000000 in
set_option maxRecDepth 100000 in
theorem quo_q {a1 b1 a2 b2 : Option Addr} {m1 n1 c1 d1 m2 n2 c2 d2 : Nat} {p q : Nat × Nat} {w : World} (ha : RA w a1 m1 c1 b1 n1 d1 p) (hb : RA w a2 m2 c2 b2 n2 d2 q) (hp : sz p ≤ 100000) (hq : sz q ≤ 100000) (htz : TzTab w) :
    Calls Tryz.prog 49 #[RatV a1 m1 c1 b1 n1 d1, RatV a2 m2 c2 b2 n2 d2] w (NewQ w (quoR p q)) := by
  have l1 := ha.len; have l2 := hb.len
  obtain ⟨X1, hX1⟩ : ∃ X, w.alloc (.cells #[.slice a1 m1 c1, .slice b1 n1 d1] 40) = X := ⟨_, rfl⟩
  obtain ⟨X2, hX2⟩ : ∃ X, X1.alloc (.cells #[.slice a2 m2 c2, .slice b2 n2 d2] 40) = X := ⟨_, rfl⟩
  obtain ⟨X3, hX3⟩ : ∃ X, X2.alloc (.cells #[.slice none 0 0, .slice none 0 0] 40) = X := ⟨_, rfl⟩
  have hsz1 : X1.heap.size = w.heap.size + 1 := by rw [← hX1, alloc_size]
  have hsz2 : X2.heap.size = w.heap.size + 2 := by rw [← hX2, alloc_size, hsz1]
  have E1 : Ext w X1 := by rw [← hX1]; exact (Ext.refl w).alloc _
  have E2 : Ext X1 X2 := by rw [← hX2]; exact (Ext.refl X1).alloc _
  have E3 : Ext X2 X3 := by rw [← hX3]; exact (Ext.refl X2).alloc _
  have R1 : X3.heap[w.heap.size]? = some (.cells #[.slice a1 m1 c1, .slice b1 n1 d1] 40 (0, 0)) := box2_row (w := w) (by rw [hX1]; exact E2.trans E3)
  have R2 : X3.heap[w.heap.size + 1]? = some (.cells #[.slice a2 m2 c2, .slice b2 n2 d2] 40 (0, 0)) := by rw [← hsz1]; exact box2_row (w := X1) (by rw [hX2]; exact E3)
  have R3 : X3.heap[w.heap.size + 2]? = some (.cells #[.slice none 0 0, .slice none 0 0] 40 (0, 0)) := by rw [← hsz2, ← hX3]; exact heap_alloc_new X2 _
  have EX := E1.trans (E2.trans E3)
  have hsz3 : X3.heap.size = w.heap.size + 3 := by rw [← hX3, alloc_size, hsz2]
  have hz := htz.old EX
  have ha3 := ha.old EX
  have hb3 := hb.old EX
  obtain ⟨k1, k2, k3, k4⟩ := row2_cells R1
  obtain ⟨j1, j2, j3, j4⟩ := row2_cells R2
  have HX1 := Lib.hid hX1; have HX2 := Lib.hid hX2; have HX3 := Lib.hid hX3; have HE := Lib.hid EX; have HR3 := Lib.hid R3; have HSZ1 := Lib.hid hsz1; have HSZ2 := Lib.hid hsz2; have HSZ3 := Lib.hid hsz3
  unfold quoR
  by_cases h0 : dN q.1 q.2 = 0
  · rw [if_pos h0]
    have C1 := Lib.hid (rquo_zero ha3.nu ha3.de hb3.nu hb3.de (by omega) (by omega) (by omega) (by omega) (by rw [val_lim, val_lim]; exact h0))
    clear hX1 hX2 hX3 hsz1 hsz2 hsz3 E1 E2 E3 R1 R2 R3 EX hz ha3 hb3 ha hb h0 htz
    go_enter Tryz.func49, Tryz.ntmps49
    go_wp2_with (first | rw [HX1.out] | rw [HX2.out, HSZ1.out] | rw [HX2.out] | rw [HX3.out, HSZ2.out] | rw [HX3.out])
    refine C1.out.mono ?_
    rintro e w1 ⟨o1, z1, y1, o2, z2, y2, rfl, h1, h2, hx1, -, -⟩
    obtain ⟨V, hV⟩ : ∃ V, w1.alloc (.cells #[.slice o1 z1 y1, .slice o2 z2 y2] 40) = V := ⟨_, rfl⟩
    have EV : Ext X3 V := by rw [← hV]; exact hx1.alloc _
    have HV := Lib.hid hV; have HEV := Lib.hid EV
    have C2 := Lib.hid (rnil_q V)
    clear hV EV h1 h2 hx1 k1 k2 k3 k4 j1 j2 j3 j4 C1
    go_wp2_with (rw [HV.out])
    refine C2.out.mono ?_
    rintro e w2 ⟨o3, z3, y3, o4, z4, y4, rfl, h3, h4, hx2⟩
    have HRW := Lib.hid (rowE (HEV.out.trans hx2) HR3.out)
    obtain ⟨k1, k2, k3, k4⟩ := row2_cells HRW.out
    have x1 := HEV.out.size
    have x2 := HSZ3.out
    have HO1 := Lib.hid ((h3.set2 (.slice o3 z3 y3) (.slice o4 z4 y4) (by omega : w.heap.size + 2 < V.heap.size)).mono (by omega : w.heap.size ≤ V.heap.size))
    have HO2 := Lib.hid ((h4.set2 (.slice o3 z3 y3) (.slice o4 z4 y4) (by omega : w.heap.size + 2 < V.heap.size)).mono (by omega : w.heap.size ≤ V.heap.size))
    have HEF := Lib.hid (set2_ext (HE.out.trans (HEV.out.trans hx2)) (by omega : w.heap.size ≤ w.heap.size + 2) (.slice o3 z3 y3) (.slice o4 z4 y4))
    clear h3 h4 hx2 x1 x2
    go_wp2_with fail
    try simp only [Exit.inBlock, Exit.then]
    refine bodyPost_ret (results_box1 rfl _ _ _ _ rfl (load_rat (set2_row HRW.out _ _))) rfl ?_
    exact ⟨_, _, _, _, _, _, rfl, HO1.out, HO2.out, HEF.out⟩
  · rw [if_neg h0]
    have C1 := rquo_ok ha3.nu ha3.de hb3.nu hb3.de (by omega) (by omega) (by omega) (by omega) hz (by rw [val_lim, val_lim]; exact h0)
    rw [val_lim, val_lim, val_lim, val_lim] at C1
    obtain ⟨N, hN⟩ : ∃ N, rN (dN p.1 p.2 * dD q.2) (dD p.2 * dN q.1 q.2) = N := ⟨_, rfl⟩
    obtain ⟨D, hD⟩ : ∃ D, rD (dN p.1 p.2 * dD q.2) (dD p.2 * dN q.1 q.2) = D := ⟨_, rfl⟩
    rw [hN, hD] at C1 ⊢
    have HC1 := Lib.hid C1
    clear C1 hN hD
    clear hX1 hX2 hX3 hsz1 hsz2 hsz3 E1 E2 E3 R1 R2 R3 EX hz ha3 hb3 ha hb h0 htz
    go_enter Tryz.func49, Tryz.ntmps49
    go_wp2_with (first | rw [HX1.out] | rw [HX2.out, HSZ1.out] | rw [HX2.out] | rw [HX3.out, HSZ2.out] | rw [HX3.out])
    refine HC1.out.mono ?_
    rintro e w1 ⟨o1, z1, y1, o2, z2, y2, rfl, h1, h2, hx1, -, -⟩
    obtain ⟨V, hV⟩ : ∃ V, w1.alloc (.cells #[.slice o1 z1 y1, .slice o2 z2 y2] 40) = V := ⟨_, rfl⟩
    have EV : Ext w1 V := by rw [← hV]; exact (Ext.refl w1).alloc _
    have hvr : V.heap[w1.heap.size]? = some (.cells #[.slice o1 z1 y1, .slice o2 z2 y2] 40 (0, 0)) := by rw [← hV]; exact heap_alloc_new w1 _
    have HRW := Lib.hid (rowE (hx1.trans EV) HR3.out)
    have HV := Lib.hid hV
    clear k1 k2 k3 k4 j1 j2 j3 j4
    obtain ⟨k1, k2, k3, k4⟩ := row2_cells HRW.out
    obtain ⟨j1, j2, j3, j4⟩ := row2_cells hvr
    have x1 := hx1.size
    have x2 := HSZ3.out
    have HO1 := Lib.hid (((h1.old EV).set2 (.slice o1 z1 y1) (.slice o2 z2 y2) (by omega : w.heap.size + 2 < X3.heap.size)).mono (by omega : w.heap.size ≤ X3.heap.size))
    have HO2 := Lib.hid (((h2.old EV).set2 (.slice o1 z1 y1) (.slice o2 z2 y2) (by omega : w.heap.size + 2 < X3.heap.size)).mono (by omega : w.heap.size ≤ X3.heap.size))
    have HEF := Lib.hid (set2_ext (HE.out.trans (hx1.trans EV)) (by omega : w.heap.size ≤ w.heap.size + 2) (.slice o1 z1 y1) (.slice o2 z2 y2))
    clear h1 h2 hx1 x1 x2 hV EV hvr
    go_wp2_with (rw [HV.out])
    try simp only [Exit.inBlock, Exit.then]
    refine bodyPost_ret (results_box1 rfl _ _ _ _ rfl (load_rat (set2_row HRW.out _ _))) rfl ?_
    exact ⟨_, _, _, _, _, _, rfl, HO1.out, HO2.out, HEF.out⟩

end Go.Proofs.YtimcnhlcepemjaaGreatDoor
