/- dec.places: the decimal places of what is below one. -/
import Derived.Test.YtifoflicflodcaaGreatDoorTrunc
import Derived.Laws.Tables
namespace Go.Proofs.YtifoflicflodcaaGreatDoor
open Go.RowKit Go.Lib

/-- Bytes as cells. -/
def bCells (l : List UInt8) : Array Value := (l.map fun b => Value.int .u8 (b.toNat : Int)).toArray
theorem bCells_size (l : List UInt8) : (bCells l).size = l.length := by simp [bCells]
theorem bCells_set (l : List UInt8) (k : Nat) (b : UInt8) : (bCells l).setIfInBounds k (.int .u8 (b.toNat : Int)) = bCells (l.set k b) := by
  simp [bCells, List.setIfInBounds_toArray, List.map_set]
theorem bCells_all (l : List UInt8) : (bCells l).all (·.oneCell') = true := by
  rw [Array.all_eq_true_iff_forall_mem]
  intro v hv
  simp only [bCells, List.mem_toArray, List.mem_map] at hv
  obtain ⟨b, _, rfl⟩ := hv
  rfl

theorem bCells_zero : bCells (List.replicate 36 0) = #[Value.int .u8 0, Value.int .u8 0, Value.int .u8 0, Value.int .u8 0, Value.int .u8 0, Value.int .u8 0, Value.int .u8 0, Value.int .u8 0, Value.int .u8 0, Value.int .u8 0, Value.int .u8 0, Value.int .u8 0, Value.int .u8 0, Value.int .u8 0, Value.int .u8 0, Value.int .u8 0, Value.int .u8 0, Value.int .u8 0, Value.int .u8 0, Value.int .u8 0, Value.int .u8 0, Value.int .u8 0, Value.int .u8 0, Value.int .u8 0, Value.int .u8 0, Value.int .u8 0, Value.int .u8 0, Value.int .u8 0, Value.int .u8 0, Value.int .u8 0, Value.int .u8 0, Value.int .u8 0, Value.int .u8 0, Value.int .u8 0, Value.int .u8 0, Value.int .u8 0] := rfl

/-- The row behind k rounds. -/
def plRow (X k : Nat) : List UInt8 := (padk 36 X).take k ++ List.replicate (36 - k) 0
theorem plRow_zero (X : Nat) : plRow X 0 = List.replicate 36 0 := by simp [plRow]
theorem plRow_len (X k : Nat) (h : k ≤ 36) : (plRow X k).length = 36 := by
  unfold plRow; rw [List.length_append, List.length_take, padk_length, List.length_replicate]; omega
theorem plRow_full (X : Nat) : plRow X 36 = padk 36 X := by
  unfold plRow; rw [List.take_of_length_le (by rw [padk_length]; omega)]; simp
theorem plRow_step (X k : Nat) (h : k < 36) : (plRow X k).set k ((padk 36 X).getD k 0) = plRow X (k + 1) := by
  have hl := padk_length 36 X
  unfold plRow
  generalize padk 36 X = l at *
  have e1 : (l.take k).length = k := by rw [List.length_take]; omega
  have e2 : List.replicate (36 - k) (0 : UInt8) = 0 :: List.replicate (36 - (k + 1)) 0 := by
    rw [show 36 - k = (36 - (k + 1)) + 1 by omega, List.replicate_succ]
  rw [List.set_append, if_neg (by omega), e1, Nat.sub_self, e2, List.set_cons_zero, List.take_add_one, List.append_assoc]
  congr 1
  rw [List.getD_eq_getElem?_getD, List.getElem?_eq_getElem (by omega)]
  rfl
theorem padk36_lo {X k : Nat} (hX : X < 10 ^ 36) (h : k < 36 - (decDigits X).length) : (padk 36 X).getD k 0 = 48 := by
  rw [padk_eq 36 X (by omega) hX, ← decDigits_length, List.getD_eq_getElem?_getD, List.getElem?_append_left (by rw [List.length_replicate]; exact h), List.getElem?_replicate, if_pos h]
  rfl
theorem padk36_hi {X k : Nat} (hX : X < 10 ^ 36) (h : 36 - (decDigits X).length ≤ k) (_hk : k < 36) : (padk 36 X).getD k 0 = (decDigits X).getD (k - (36 - (decDigits X).length)) 0 := by
  rw [padk_eq 36 X (by omega) hX, ← decDigits_length, List.getD_eq_getElem?_getD, List.getElem?_append_right (by rw [List.length_replicate]; exact h), List.length_replicate, ← List.getD_eq_getElem?_getD]

theorem setRow_by (w : World) (b : Nat) (c : Array Value) : w.grownBy (w.setRow b c) (some b) :=
  ⟨rfl, rfl, rfl, by simp [World.setRow], fun j _ hj => by
    simp only [World.setRow, Array.getElem?_modify]
    rw [if_neg (fun e => hj (by rw [e]))]⟩
theorem row_store {w w' : World} {B : Nat} (c : Array Value) (E : Ext w w') (hB : w.heap.size ≤ B) : Ext w (w'.setRow B c) :=
  Below.grown E (setRow_by w' B c) E.size (fun k hk => by cases hk; exact hB)

theorem cell_store {w w' : World} (B o : Nat) (u : Value) (E : Ext w w') (hB : w.heap.size ≤ B) : Ext w (w'.setCell ⟨B, o, none⟩ u) :=
  Below.grown (row := some B) E ⟨rfl, rfl, rfl, by simp, fun j _ hj => heap_setCell_other w' _ j _ (fun e => hj (by simp [e]))⟩ E.size (fun k hk => by cases hk; exact hB)

/-- What the loop keeps: B the row's block, B' the result's. -/
def PlRel (w : World) (B' B X : Nat) (iv : Value) (wr : World) : Prop :=
  ∃ k : Nat, k ≤ 36 ∧ iv = .int .i64 (k : Int) ∧ wr.heap[B]? = some (.cells (bCells (plRow X k)) 78 (0, 0)) ∧ wr.heap[B']? = some (.cells (bCells (List.replicate 36 0)) 78 (0, 0)) ∧ Ext w wr

theorem info36 : (Tryz.prog.info? 78).map (·.size) = some 36 := by kernel_rfl
theorem infoU8 : (Tryz.prog.info? 5).map (·.size) = some 1 := by kernel_rfl

/-- The call returns the places. -/
def RetRow (w : World) (l : List UInt8) (e : Ending) (w' : World) : Prop := e = .returned (.agg (bCells l)) ∧ Ext w w'

set_option maxHeartbeats 2000000 in
set_option maxRecDepth 100000 in
theorem places_calls {a : Option Addr} {m c : Nat} {xs : List Nat} {w : World} (ha : Sl w a m c xs) (hm : m ≤ 1000000) (ht : Tab w) (hX : val xs < 10 ^ 36) :
    Calls Tryz.prog 66 #[DecV a m c] w (RetRow w (padk 36 (val xs))) := by
  obtain ⟨X1, hX1⟩ : ∃ X, w.alloc (.cells #[.slice a m c] 25) = X := ⟨_, rfl⟩
  have E1 : Ext w X1 := by rw [← hX1]; exact (Ext.refl _).alloc _
  have hz1 : X1.heap.size = w.heap.size + 1 := by rw [← hX1, alloc_size]
  obtain ⟨X2, hX2⟩ : ∃ X, X1.alloc (.cells (bCells (List.replicate 36 0)) 78) = X := ⟨_, rfl⟩
  have E2 : Ext X1 X2 := by rw [← hX2]; exact (Ext.refl _).alloc _
  have hz2 : X2.heap.size = w.heap.size + 1 + 1 := by rw [← hX2, alloc_size, hz1]
  obtain ⟨W, hW⟩ : ∃ X, X2.alloc (.cells (bCells (List.replicate 36 0)) 78) = X := ⟨_, rfl⟩
  have E3 : Ext X2 W := by rw [← hW]; exact (Ext.refl _).alloc _
  have HE := Lib.hid ((E1.trans E2).trans E3)
  have HC := Lib.hid (text_calls (ha.old HE.out) hm (ht.old HE.out))
  have hc1 : W.cell? ⟨w.heap.size, 0, none⟩ = some (.slice a m c) := box_cell (by rw [hX1]; exact E2.trans E3)
  have HR0 := Lib.hid (show ∀ w', Ext W w' → w'.heap[w.heap.size + 1]? = some (.cells (bCells (List.replicate 36 0)) 78 (0, 0)) by
    intro w' h
    rw [h.block _ (by rw [← hW, alloc_size, hz2]; omega), E3.block _ (by rw [hz2]; omega), ← hX2, ← hz1]
    exact heap_alloc_new _ _)
  have HR1 := Lib.hid (show ∀ w', Ext W w' → w'.heap[w.heap.size + 1 + 1]? = some (.cells (bCells (List.replicate 36 0)) 78 (0, 0)) by
    intro w' h
    rw [h.block _ (by rw [← hW, alloc_size, hz2]; omega), ← hW, ← hz2]
    exact heap_alloc_new _ _)
  have hn36 : (decDigits (val xs)).length ≤ 36 := by
    rw [decDigits_length]; exact nDigits_le (by omega) hX
  have HW := Lib.hid hW; have HX2 := Lib.hid hX2; have HX1 := Lib.hid hX1; have HX := Lib.hid hX
  clear hW hX2 hX1 E1 E2 E3 hz1 hz2 ha ht hX
  generalize val xs = X at *
  have CT := HC.out
  rw [← HW.out, ← HX2.out, ← HX1.out, bCells_zero] at CT
  have HCT := Lib.hid CT
  clear CT
  go_enter Tryz.func66, Tryz.ntmps66
  go_wp2_with fail
  refine HCT.out.mono ?_
  rintro e w2 ⟨rfl, hext⟩
  rw [← bCells_zero, HX1.out, HX2.out, HW.out] at hext
  have hr0 := Lib.hid (HR0.out _ hext)
  have hr1 := Lib.hid (HR1.out _ hext)
  have hE2 := Lib.hid (HE.out.trans hext)
  clear hext hc1
  go_wp2_with fail
  go_loopw [10] (fun iv wr => PlRel w (w.heap.size + 1) (w.heap.size + 1 + 1) X iv wr) (fun iv _ => 36 - (RowKit.intOf iv).toNat)
  case atStart => exact ⟨0, by omega, rfl, by rw [plRow_zero]; exact hr1.out, hr0.out, hE2.out⟩
  case round =>
    obtain ⟨k, hk, rfl, hrow, hrow', hex⟩ := hrel
    have HROW := Lib.hid hrow
    have HROW' := Lib.hid hrow'
    have HEX := Lib.hid hex
    clear hrow hrow' hex
    by_cases hk36 : k = 36
    · subst hk36
      have hsz := bCells_size (plRow X 36)
      rw [plRow_len X 36 (Nat.le_refl _)] at hsz
      have hall := bCells_all (plRow X 36)
      have HFULL := Lib.hid (plRow_full X)
      have HR2 := Lib.hid (show wr.heap[w.heap.size + 1 + 1]? = some (.cells (bCells (plRow X 36)) 78 (0, 0)) from HROW.out)
      generalize hR : bCells (plRow X 36) = R at *
      have HRR := Lib.hid hR
      have HI := Lib.hid (show (Tryz.prog.info? 78).map (·.size) = some R.size by rw [hsz]; exact info36)
      have HO := Lib.hid (show (bCells (List.replicate 36 0)).size = R.size by rw [hsz]; rfl)
      clear hsz
      have HALL := Lib.hid hall
      clear hR hall
      go_wp2_with (first | (refine wpList_load_row rfl 78 _ rfl (w.heap.size + 1 + 1) rfl _ _ _ _ HR2.out Tryz.underlying78 rfl HI.out ?_) | (refine wpList_store_row rfl 78 _ _ rfl (w.heap.size + 1) R rfl rfl _ _ HROW'.out HI.out HO.out HALL.out ?_))
      have hfin : (wr.setRow (w.heap.size + 1) R).heap[w.heap.size + 1]? = some (.cells R 78 (0, 0)) := setRow_heap wr _ _ _ _ _ HROW'.out
      try simp only [Exit.inBlock, Exit.then]
      refine bodyPost_ret (results_cell_row rfl _ _ _ _ _ _ _ rfl hfin Tryz.underlying78 rfl HI.out) rfl ?_
      refine ⟨?_, row_store R HEX.out (by omega)⟩
      rw [← HRR.out, HFULL.out]
    · have hlt : (k : Int) < 36 := by omega
      have HLO := Lib.hid (fun h => padk36_lo (k := k) HX.out h)
      have HHI := Lib.hid (fun h => padk36_hi (k := k) HX.out h (by omega))
      have HST := Lib.hid (plRow_step X k (by omega))
      have hfz : wr.frozen? ⟨w.heap.size + 1 + 1, k, none⟩ = false := frozen_of_row wr _ k _ _ HROW.out
      obtain ⟨v0, hv0⟩ : ∃ v, wr.cell? ⟨w.heap.size + 1 + 1, k, none⟩ = some v := by
        rw [cell_of_row _ _ _ _ _ _ HROW.out]
        exact ⟨_, Array.getElem?_eq_getElem (by rw [bCells_size, plRow_len X k (by omega)]; omega)⟩
      generalize decDigits X = ds at *
      by_cases hlo : k < 36 - ds.length
      · have g1 : ¬ (0 ≤ (k : Int) - (36 - (ds.length : Int))) := by omega
        go_wp2_with fail
        refine ⟨⟨k + 1, by omega, by go_num, ?_, ?_, cell_store (w.heap.size + 1 + 1) k _ HEX.out (by omega)⟩, by simp only [RowKit.intOf]; omega⟩
        · have h1 := heap_setCell_same wr (w.heap.size + 1 + 1) k _ _ (.int .u8 ((48 : UInt8).toNat : Int)) HROW.out
          rw [bCells_set, ← HLO.out hlo, HST.out] at h1
          rw [HLO.out hlo] at h1
          exact h1
        · rw [heap_setCell_other _ _ _ _ (by simp)]; exact HROW'.out
      · have g1 : 0 ≤ (k : Int) - (36 - (ds.length : Int)) := by omega
        have g2 : (k : Int) - (36 - (ds.length : Int)) < (ds.length : Int) := by omega
        go_wp2_with fail
        refine ⟨⟨k + 1, by omega, by go_num, ?_, ?_, cell_store (w.heap.size + 1 + 1) k _ (cell_store (w.heap.size + 1 + 1) k _ HEX.out (by omega)) (by omega)⟩, by simp only [RowKit.intOf]; omega⟩
        · have h1 := heap_setCell_same wr (w.heap.size + 1 + 1) k _ _ (.int .u8 48) HROW.out
          have h2 := heap_setCell_same (wr.setCell ⟨w.heap.size + 1 + 1, k, none⟩ (.int .u8 48)) (w.heap.size + 1 + 1) k _ _ (.int .u8 (((padk 36 X).getD k 0).toNat : Int)) h1
          rw [Array.setIfInBounds_setIfInBounds, bCells_set, HST.out] at h2
          rw [HHI.out (by omega), List.getD_eq_getElem?_getD, List.getElem?_eq_getElem (by omega)] at h2
          exact h2
        · rw [heap_setCell_other _ _ _ _ (by simp), heap_setCell_other _ _ _ _ (by simp)]; exact HROW'.out


end Go.Proofs.YtifoflicflodcaaGreatDoor
