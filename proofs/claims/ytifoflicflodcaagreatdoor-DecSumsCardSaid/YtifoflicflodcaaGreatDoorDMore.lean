/- dec.Times, Basis, Mul, Quo, Over. -/
import Derived.Test.YtifoflicflodcaaGreatDoorRound2
import Derived.Test.YtifoflicflodcaaGreatDoorTrunc
namespace Go.Proofs.YtifoflicflodcaaGreatDoor
open Go.RowKit

theorem rowE {w w' : World} {B : Nat} {o : Obj} (h : Ext w w') (r : w.heap[B]? = some o) : w'.heap[B]? = some o := by
  rw [h.block B (Array.getElem?_eq_some_iff.1 r).1]; exact r
theorem drew_size (w : World) : w.drew.heap.size = w.heap.size := rfl
theorem row_new {w w' : World} {v : Value} {T : TypeId} (h : Ext (w.alloc (.cells #[v] T (0, 0))) w') : w'.heap[w.heap.size]? = some (.cells #[v] T (0, 0)) := box_row0 h
theorem row_lt {w : World} {B : Nat} {o : Obj} (r : w.heap[B]? = some o) : B < w.heap.size := (Array.getElem?_eq_some_iff.1 r).1
theorem row_ext {w w' : World} {B : Nat} {o : Obj} (h : Ext w w') (r : w.heap[B]? = some o) : w'.heap[B]? = some o := by
  rw [h.block _ (row_lt r)]; exact r
theorem row_by {w w5 : World} {v : Value} {T : TypeId} {o : Obj} (h : w5 = (w.drew.alloc (.cells #[v] T (0, 0))).alloc o) : w5.heap[w.heap.size]? = some (.cells #[v] T (0, 0)) := by
  rw [h]; exact row_ext ((Ext.refl _).alloc _) (heap_alloc_new w.drew _)
theorem by_cell {w w5 : World} {v : Value} {T : TypeId} (h : w5 = w.alloc (.cells #[v] T (0, 0))) : w5.cell? ⟨w.heap.size, 0, none⟩ = some v := by
  rw [h]; exact box_cell (Ext.refl _)
theorem row_cell {w : World} {B : Nat} {v : Value} {T : TypeId} (r : w.heap[B]? = some (.cells #[v] T (0, 0))) : w.cell? ⟨B, 0, none⟩ = some v := by
  rw [cell_of_row _ _ _ _ _ _ r]; rfl
theorem row_free {w : World} {B : Nat} {v : Value} {T : TypeId} (r : w.heap[B]? = some (.cells #[v] T (0, 0))) : w.frozen? ⟨B, 0, none⟩ = false := frozen_of_row w B 0 _ _ r
theorem pack {W w8 : World} {B C : Nat} {v u : Value} {T : TypeId} {o : Option Addr} {n c : Nat} {xs : List Nat} (R9 : w8.heap[B]? = some (.cells #[v] T (0, 0))) (E : Ext W w8) (hB : W.heap.size ≤ B) (hown : Own C w8 o n c xs) (hBC : B < C) :
    ∃ wF, wF = w8.setCell ⟨B, 0, none⟩ u ∧ Ext W wF ∧ wF.heap[B]? = some (.cells #[u] T (0, 0)) ∧ Own C wF o n c xs :=
  ⟨_, rfl, box_store u E hB, heap_setCell_same w8 B 0 _ T u R9, hown.box u hBC⟩
theorem packA {W w8 : World} {C : Nat} {u : Value} {T : TypeId} {o : Option Addr} {n c : Nat} {xs : List Nat} (E : Ext W w8) (hown : Own C w8 o n c xs) :
    ∃ wF, wF = w8.alloc (.cells #[u] T (0, 0)) ∧ Ext W wF ∧ wF.heap[w8.heap.size]? = some (.cells #[u] T (0, 0)) ∧ Own C wF o n c xs :=
  ⟨_, rfl, E.alloc _, heap_alloc_new w8 _, hown.old ((Ext.refl _).alloc _)⟩
theorem rdL_down {P Z : Nat} (h : Z ≠ 0) : rdL false P Z = lim (P / Z) := by unfold rdL rdV; rw [if_neg h, if_neg (by simp)]; rfl

set_option maxHeartbeats 4000000 in
set_option maxRecDepth 100000 in
theorem dtimes_calls {a1 : Option Addr} {m1 c1 : Nat} {xs1 : List Nat} {w : World} (ha1 : Sl w a1 m1 c1 xs1) (hm1 : m1 ≤ 1000000) {x : Nat} (hx : x < B64) :
    Calls Tryz.prog 9 #[DecV a1 m1 c1, .int .u64 (x : Int)] w (NewD w (m1 + 1) (lim (val xs1 * x))) := by
  obtain ⟨X1, hX1⟩ : ∃ X, w.alloc (.cells #[.slice a1 m1 c1] 25) = X := ⟨_, rfl⟩
  obtain ⟨X2, hX2⟩ : ∃ X, X1.alloc (.cells #[.slice none 0 0] 25) = X := ⟨_, rfl⟩
  have hsz1 : X1.heap.size = w.heap.size + 1 := by rw [← hX1, alloc_size]
  have hsz2 : X2.heap.size = w.heap.size + 2 := by rw [← hX2, alloc_size, hsz1]
  have E1 : Ext w X1 := by rw [← hX1]; exact (Ext.refl w).alloc _
  have E2 : Ext X1 X2 := by rw [← hX2]; exact (Ext.refl X1).alloc _
  have HC : Hid (∀ w', Ext X2 w' → w'.cell? ⟨w.heap.size, 0, none⟩ = some (.slice a1 m1 c1)) := Lib.hid (fun w' h => by
    have c1' := box_cell (w := w) (w' := w') (v := .slice a1 m1 c1) (T := 25) (by rw [hX1]; exact (E2).trans h)
    exact c1')
  have HCC : Hid (∀ w' u, Ext X2 w' → (w'.setCell ⟨w.heap.size + 1, 0, none⟩ u).cell? ⟨w.heap.size, 0, none⟩ = some (.slice a1 m1 c1)) := Lib.hid (fun w' u h => by
    rw [World.cell?_setCell_other _ _ _ _ (by intro e; injection e with e1; omega)]
    exact HC.out w' h)
  have R : X2.heap[w.heap.size + 1]? = some (.cells #[.slice none 0 0] 25 (0, 0)) := by rw [← hsz1]; exact box_row0 (w := X1) (by rw [hX2]; exact Ext.refl _)
  have HE := Lib.hid ((E1).trans E2)
  have HA1 := Lib.hid (fun w' (h : Ext X2 w') => ha1.old (HE.out.trans h))
  have HX1 := Lib.hid hX1; have HX2 := Lib.hid hX2; have HR := Lib.hid R; have HSZ := Lib.hid hsz2
  have k0 := HC.out X2.drew (Ext.refl _).drew
  clear hX1 E1 hX2 E2 R ha1 hsz2
  have HXB := Lib.hid hx; clear hx
  go_enter Tryz.func9, Tryz.ntmps9
  go_wp2_with (first | rw [HX1.out] | rw [HX2.out])
  clear k0
  go_region_held3 (fun w' => w'.cell? ⟨w.heap.size, 0, none⟩ = some (.slice a1 m1 c1))
    (first | exact HC.out _ (Ext.refl _).drew | exact HC.out _ (by assumption) | exact HCC.out _ _ (by assumption))
    (first
      | (go_at_call 44; refine (of_calls x HXB.out _).mono ?_; rintro e w5 ⟨o5, n5, c5, rfl, hown5, hext5, hno5⟩; have EX5 : Ext X2 w5 := (Ext.refl X2).drew.trans hext5)
      | (go_at_call 43; refine (mul_calls (HA1.out _ EX5) hown5.sl (by omega) (by omega)).mono ?_; rintro e w7 ⟨o7, n7, c7, rfl, hown7, hext7, hno7⟩; rw [val_lim] at hown7; have EX7 : Ext X2 w7 := EX5.trans hext7; have hr9 := rowE EX7 HR.out; have l1 : w7.cell? ⟨w.heap.size + 1, 0, none⟩ = some (.slice none 0 0) := (by rw [cell_of_row _ _ _ _ _ _ hr9]; rfl); have l2 : w7.frozen? ⟨w.heap.size + 1, 0, none⟩ = false := frozen_of_row _ _ _ _ _ hr9))
  have HR7 := Lib.hid (rowE EX7 HR.out)
  have z1 := HSZ.out
  have z2 : w5.heap.size ≥ X2.heap.size := by first | exact Nat.le_refl _ | exact (by assumption : Ext X2 w5).size
  have HO := Lib.hid hown7; have HE7 := Lib.hid (HE.out.trans EX7)
  go_wp2_with fail
  try simp only [Exit.inBlock, Exit.then]
  refine bodyPost_ret (results_box1 rfl _ _ _ _ rfl (load_dec (heap_setCell_same w7 _ 0 _ _ (.slice o7 n7 c7) HR7.out))) rfl ?_
  exact ⟨o7, n7, c7, rfl, (HO.out.box _ (by omega)).mono (by omega), box_store _ HE7.out (by omega), by omega⟩

set_option maxHeartbeats 4000000 in
set_option maxRecDepth 100000 in
theorem dmul_calls {a1 a2 : Option Addr} {m1 c1 m2 c2 : Nat} {xs1 xs2 : List Nat} {w : World} (ha1 : Sl w a1 m1 c1 xs1) (ha2 : Sl w a2 m2 c2 xs2) (hm1 : m1 ≤ 1000000) (hm2 : m2 ≤ 1000000) :
    Calls Tryz.prog 36 #[DecV a1 m1 c1, DecV a2 m2 c2] w (NewD w (m1 + m2 + 2) (lim (val xs1 * val xs2 / U36))) := by
  obtain ⟨X1, hX1⟩ : ∃ X, w.alloc (.cells #[.slice a1 m1 c1] 25) = X := ⟨_, rfl⟩
  obtain ⟨X2, hX2⟩ : ∃ X, X1.alloc (.cells #[.slice a2 m2 c2] 25) = X := ⟨_, rfl⟩
  obtain ⟨X3, hX3⟩ : ∃ X, X2.alloc (.cells #[.slice none 0 0] 25) = X := ⟨_, rfl⟩
  have hsz1 : X1.heap.size = w.heap.size + 1 := by rw [← hX1, alloc_size]
  have hsz2 : X2.heap.size = w.heap.size + 2 := by rw [← hX2, alloc_size, hsz1]
  have hsz3 : X3.heap.size = w.heap.size + 3 := by rw [← hX3, alloc_size, hsz2]
  have E1 : Ext w X1 := by rw [← hX1]; exact (Ext.refl w).alloc _
  have E2 : Ext X1 X2 := by rw [← hX2]; exact (Ext.refl X1).alloc _
  have E3 : Ext X2 X3 := by rw [← hX3]; exact (Ext.refl X2).alloc _
  have HC : Hid (∀ w', Ext X3 w' → w'.cell? ⟨w.heap.size, 0, none⟩ = some (.slice a1 m1 c1) ∧ w'.cell? ⟨w.heap.size + 1, 0, none⟩ = some (.slice a2 m2 c2)) := Lib.hid (fun w' h => by
    have c1' := box_cell (w := w) (w' := w') (v := .slice a1 m1 c1) (T := 25) (by rw [hX1]; exact ((E2).trans E3).trans h)
    have c2' := box_cell (w := X1) (w' := w') (v := .slice a2 m2 c2) (T := 25) (by rw [hX2]; exact (E3).trans h)
    rw [hsz1] at c2'
    exact ⟨c1', c2'⟩)
  have HCC : Hid (∀ w' u, Ext X3 w' → (w'.setCell ⟨w.heap.size + 2, 0, none⟩ u).cell? ⟨w.heap.size, 0, none⟩ = some (.slice a1 m1 c1) ∧ (w'.setCell ⟨w.heap.size + 2, 0, none⟩ u).cell? ⟨w.heap.size + 1, 0, none⟩ = some (.slice a2 m2 c2)) := Lib.hid (fun w' u h => by
    rw [World.cell?_setCell_other _ _ _ _ (by intro e; injection e with e1; omega), World.cell?_setCell_other _ _ _ _ (by intro e; injection e with e1; omega)]
    exact HC.out w' h)
  have R : X3.heap[w.heap.size + 2]? = some (.cells #[.slice none 0 0] 25 (0, 0)) := by rw [← hsz2]; exact box_row0 (w := X2) (by rw [hX3]; exact Ext.refl _)
  have HE := Lib.hid (((E1).trans E2).trans E3)
  have HA1 := Lib.hid (fun w' (h : Ext X3 w') => ha1.old (HE.out.trans h))
  have HA2 := Lib.hid (fun w' (h : Ext X3 w') => ha2.old (HE.out.trans h))
  have HX1 := Lib.hid hX1; have HX2 := Lib.hid hX2; have HX3 := Lib.hid hX3; have HR := Lib.hid R; have HSZ := Lib.hid hsz3
  obtain ⟨k1, k2⟩ := HC.out X3.drew (Ext.refl _).drew
  clear hX1 E1 hX2 E2 hX3 E3 R ha1 ha2 hsz3
  have HS5 : Hid (∀ w', Ext X3 w' → ∀ B, X3.heap.size ≤ B → ∀ u, (w'.setCell ⟨B, 0, none⟩ u).cell? ⟨w.heap.size, 0, none⟩ = some (.slice a1 m1 c1) ∧ (w'.setCell ⟨B, 0, none⟩ u).cell? ⟨w.heap.size + 1, 0, none⟩ = some (.slice a2 m2 c2)) := Lib.hid (fun w' h B hB u => by
    have z9 := HSZ.out
    rw [World.cell?_setCell_other _ _ _ _ (by intro e; injection e with e1; omega), World.cell?_setCell_other _ _ _ _ (by intro e; injection e with e1; omega)]
    exact HC.out w' h)
  go_enter Tryz.func36, Tryz.ntmps36
  go_wp2_with (first | rw [HX1.out] | rw [HX2.out] | rw [HX3.out])
  clear k1 k2
  go_region_held3 (fun w' => w'.cell? ⟨w.heap.size, 0, none⟩ = some (.slice a1 m1 c1) ∧ w'.cell? ⟨w.heap.size + 1, 0, none⟩ = some (.slice a2 m2 c2))
    (first | exact HC.out _ (Ext.refl _).drew | exact HC.out _ ((Ext.refl _).drew.alloc _) | exact HC.out _ (by assumption) | exact HC.out _ (Ext.alloc (by assumption) _) | exact HS5.out _ (by assumption) _ (Nat.le_refl _) _ | exact HS5.out _ (by assumption) _ (Ext.size (by assumption)) _ | exact HS5.out _ (Ext.alloc (by assumption) _) _ (Ext.size (by assumption)) _)
    (first
      | (go_at_call 58; refine (rounder_calls none 0 0 _).mono ?_; rintro e w5 ⟨rfl, hw5⟩; have E5 : Ext X3 w5 := (by rw [hw5]; first | exact (Ext.refl _).drew.alloc _ | exact ((Ext.refl _).drew.alloc _).alloc _); have P5 := by_cell hw5; (try simp only [drew_size, alloc_size] at P5); have HP5 := Lib.hid P5; (try have R9 := Lib.hid (row_by hw5)); clear P5 hw5)
      | (go_at_call 51; refine (unit_calls _).mono ?_; rintro e w6 ⟨o6, n6, c6, rfl, hown6, hext6, hno6⟩; have E6 : Ext X3 w6 := (by first | exact E5.trans hext6 | exact (E5.alloc _).trans hext6); (first | have HP6 := Lib.hid (hext6.cell HP5.out) | have HP6 := Lib.hid ((((Ext.refl _).alloc _).trans hext6).cell HP5.out)); (first | have R9 := Lib.hid (row_ext hext6 R9.out) | have R9 := Lib.hid (row_new hext6) | skip))
      | (go_at_call 84; refine (rounder1_calls (up := false) (HA1.out _ (by first | exact E6 | exact E6.alloc _)) (HA2.out _ (by first | exact E6 | exact E6.alloc _)) (hown6.sl.old (by first | exact Ext.refl _ | exact (Ext.refl _).alloc _)) (by first | exact HP6.out | exact ((Ext.refl _).alloc _).cell HP6.out) (Sl.nil _) (by omega) (by omega) (by omega)).mono ?_; rintro e w8 ⟨o8, n8, c8, rfl, hown8, hext8, hno8⟩; have E8 : Ext X3 w8 := (by first | exact E6.trans hext8 | exact (E6.alloc _).trans hext8); (first | have HLT9 := Lib.hid (row_lt R9.out) | skip); (first | have R9 := Lib.hid (row_ext hext8 R9.out) | have R9 := Lib.hid (row_new hext8) | skip); (first | have k1 := row_cell R9.out | skip); (first | have k2 := row_free R9.out | skip)))
  all_goals (
    rw [val_lim, rdL_down U36_ne] at hown8
    first
      | have PK := pack (u := .slice o8 n8 c8) R9.out E8 (Nat.le_refl _) hown8 HLT9.out
      | have PK := pack (u := .slice o8 n8 c8) R9.out E8 (Ext.size (by assumption)) hown8 HLT9.out
      | have PK := pack (u := .slice o8 n8 c8) R9.out E8 (Ext.size (by assumption)) hown8 (by rw [alloc_size]; omega)
      | have PK := packA (u := .slice o8 n8 c8) (T := 25) E8 hown8
    obtain ⟨wF, hwF, EF, RF, SF⟩ := PK
    rw [← hwF]
    have HRF := Lib.hid RF; have HEF := Lib.hid EF; have HSO := Lib.hid (SF.mono (by first | exact E6.size | exact (E6.alloc _).size) : Own X3.heap.size wF o8 n8 c8 _)
    have HR7 := Lib.hid (rowE EF HR.out)
    try clear k1 k2
    clear hwF EF RF SF hown8 hext8 E8 E6 E5 hown6 hext6
    have c8' := row_cell HRF.out
    have l1 : wF.cell? ⟨w.heap.size + 2, 0, none⟩ = some (.slice none 0 0) := (by rw [cell_of_row _ _ _ _ _ _ HR7.out]; rfl)
    have l2 : wF.frozen? ⟨w.heap.size + 2, 0, none⟩ = false := frozen_of_row _ _ _ _ _ HR7.out
    go_wp2_with fail
    try simp only [Exit.inBlock, Exit.then]
    have z1 := HSZ.out
    refine bodyPost_ret (results_box1 rfl _ _ _ _ rfl (load_dec (heap_setCell_same wF _ 0 _ _ (.slice o8 n8 c8) HR7.out))) rfl ?_
    exact ⟨o8, n8, c8, rfl, (HSO.out.box _ (by omega)).mono (by omega), box_store _ (HE.out.trans HEF.out) (by omega), by omega⟩)

set_option maxHeartbeats 4000000 in
set_option maxRecDepth 100000 in
theorem dquo_calls {a1 a2 : Option Addr} {m1 c1 m2 c2 : Nat} {xs1 xs2 : List Nat} {w : World} (ha1 : Sl w a1 m1 c1 xs1) (ha2 : Sl w a2 m2 c2 xs2) (hm1 : m1 ≤ 1000000) (hm2 : m2 ≤ 1000000) :
    Calls Tryz.prog 26 #[DecV a1 m1 c1, DecV a2 m2 c2] w (NewDE w (m1 + 4) (rdL false (val xs1 * U36) (val xs2)) (rdE (val xs2))) := by
  obtain ⟨X1, hX1⟩ : ∃ X, w.alloc (.cells #[.slice a1 m1 c1] 25) = X := ⟨_, rfl⟩
  obtain ⟨X2, hX2⟩ : ∃ X, X1.alloc (.cells #[.slice a2 m2 c2] 25) = X := ⟨_, rfl⟩
  obtain ⟨X3, hX3⟩ : ∃ X, X2.alloc (.cells #[.slice none 0 0] 25) = X := ⟨_, rfl⟩
  have hsz1 : X1.heap.size = w.heap.size + 1 := by rw [← hX1, alloc_size]
  have hsz2 : X2.heap.size = w.heap.size + 2 := by rw [← hX2, alloc_size, hsz1]
  have hsz3 : X3.heap.size = w.heap.size + 3 := by rw [← hX3, alloc_size, hsz2]
  have E1 : Ext w X1 := by rw [← hX1]; exact (Ext.refl w).alloc _
  have E2 : Ext X1 X2 := by rw [← hX2]; exact (Ext.refl X1).alloc _
  have E3 : Ext X2 X3 := by rw [← hX3]; exact (Ext.refl X2).alloc _
  have HC : Hid (∀ w', Ext X3 w' → w'.cell? ⟨w.heap.size, 0, none⟩ = some (.slice a1 m1 c1) ∧ w'.cell? ⟨w.heap.size + 1, 0, none⟩ = some (.slice a2 m2 c2)) := Lib.hid (fun w' h => by
    have c1' := box_cell (w := w) (w' := w') (v := .slice a1 m1 c1) (T := 25) (by rw [hX1]; exact ((E2).trans E3).trans h)
    have c2' := box_cell (w := X1) (w' := w') (v := .slice a2 m2 c2) (T := 25) (by rw [hX2]; exact (E3).trans h)
    rw [hsz1] at c2'
    exact ⟨c1', c2'⟩)
  have HCC : Hid (∀ w' u, Ext X3 w' → (w'.setCell ⟨w.heap.size + 2, 0, none⟩ u).cell? ⟨w.heap.size, 0, none⟩ = some (.slice a1 m1 c1) ∧ (w'.setCell ⟨w.heap.size + 2, 0, none⟩ u).cell? ⟨w.heap.size + 1, 0, none⟩ = some (.slice a2 m2 c2)) := Lib.hid (fun w' u h => by
    rw [World.cell?_setCell_other _ _ _ _ (by intro e; injection e with e1; omega), World.cell?_setCell_other _ _ _ _ (by intro e; injection e with e1; omega)]
    exact HC.out w' h)
  have R : X3.heap[w.heap.size + 2]? = some (.cells #[.slice none 0 0] 25 (0, 0)) := by rw [← hsz2]; exact box_row0 (w := X2) (by rw [hX3]; exact Ext.refl _)
  have HE := Lib.hid (((E1).trans E2).trans E3)
  have HA1 := Lib.hid (fun w' (h : Ext X3 w') => ha1.old (HE.out.trans h))
  have HA2 := Lib.hid (fun w' (h : Ext X3 w') => ha2.old (HE.out.trans h))
  have HX1 := Lib.hid hX1; have HX2 := Lib.hid hX2; have HX3 := Lib.hid hX3; have HR := Lib.hid R; have HSZ := Lib.hid hsz3
  obtain ⟨k1, k2⟩ := HC.out X3.drew (Ext.refl _).drew
  clear hX1 E1 hX2 E2 hX3 E3 R ha1 ha2 hsz3
  go_enter Tryz.func26, Tryz.ntmps26
  go_wp2_with (first | rw [HX1.out] | rw [HX2.out] | rw [HX3.out])
  clear k1 k2
  go_region_held3 (fun w' => w'.cell? ⟨w.heap.size, 0, none⟩ = some (.slice a1 m1 c1) ∧ w'.cell? ⟨w.heap.size + 1, 0, none⟩ = some (.slice a2 m2 c2))
    (first | exact HC.out _ (Ext.refl _).drew | exact HC.out _ (by assumption) | exact HCC.out _ _ (by assumption))
    (first
      | (go_at_call 58; refine (rounder_calls none 0 0 _).mono ?_; rintro e w5 ⟨rfl, rfl⟩; have EX5 : Ext X3 (X3.drew.alloc (.cells #[.slice none 0 0] 23)) := (((Ext.refl X3).drew).alloc _); have hp := (box_cell (w := X3.drew) (T := 23) (v := .slice none 0 0) (Ext.refl _)))
      | (go_at_call 51; refine (unit_calls _).mono ?_; rintro e w6 ⟨o6, n6, c6, rfl, hown6, hext6, hno6⟩; have EX6 : Ext X3 w6 := EX5.trans hext6)
      | (go_at_call 84; refine (rounder1_calls (up := false) (HA1.out _ EX6) hown6.sl (HA2.out _ EX6) (hext6.cell hp) (Sl.nil _) (by omega) (by omega) (by omega)).mono ?_; rintro e w7 ⟨o7, n7, c7, rfl, hown7, hext7, hno7⟩; rw [val_lim] at hown7; have EX7 : Ext X3 w7 := EX6.trans hext7; have hr9 := rowE EX7 HR.out; have l1 : w7.cell? ⟨w.heap.size + 2, 0, none⟩ = some (.slice none 0 0) := (by rw [cell_of_row _ _ _ _ _ _ hr9]; rfl); have l2 : w7.frozen? ⟨w.heap.size + 2, 0, none⟩ = false := frozen_of_row _ _ _ _ _ hr9))
  have HR7 := Lib.hid (rowE EX7 HR.out)
  have z1 := HSZ.out
  have z2 : w6.heap.size ≥ X3.heap.size := by first | exact Nat.le_refl _ | exact (by assumption : Ext X3 w6).size
  have HO := Lib.hid hown7; have HE7 := Lib.hid (HE.out.trans EX7)
  go_wp2_with fail
  try simp only [Exit.inBlock, Exit.then]
  refine bodyPost_ret (results_box2 rfl _ _ _ _ rfl (load_dec (heap_setCell_same w7 _ 0 _ _ (.slice o7 n7 c7) HR7.out))) rfl ?_
  exact ⟨o7, n7, c7, rfl, (HO.out.box _ (by omega)).mono (by omega), box_store _ HE7.out (by omega), by omega⟩

set_option maxHeartbeats 4000000 in
set_option maxRecDepth 100000 in
theorem dover_calls {a1 : Option Addr} {m1 c1 : Nat} {xs1 : List Nat} {w : World} (ha1 : Sl w a1 m1 c1 xs1) (hm1 : m1 ≤ 1000000) {x : Nat} (hx : x < B64) :
    Calls Tryz.prog 32 #[DecV a1 m1 c1, .int .u64 (x : Int)] w (NewDE w (m1 + 3) (rdL false (val xs1) x) (rdE x)) := by
  obtain ⟨X1, hX1⟩ : ∃ X, w.alloc (.cells #[.slice a1 m1 c1] 25) = X := ⟨_, rfl⟩
  obtain ⟨X2, hX2⟩ : ∃ X, X1.alloc (.cells #[.slice none 0 0] 25) = X := ⟨_, rfl⟩
  have hsz1 : X1.heap.size = w.heap.size + 1 := by rw [← hX1, alloc_size]
  have hsz2 : X2.heap.size = w.heap.size + 2 := by rw [← hX2, alloc_size, hsz1]
  have E1 : Ext w X1 := by rw [← hX1]; exact (Ext.refl w).alloc _
  have E2 : Ext X1 X2 := by rw [← hX2]; exact (Ext.refl X1).alloc _
  have HC : Hid (∀ w', Ext X2 w' → w'.cell? ⟨w.heap.size, 0, none⟩ = some (.slice a1 m1 c1)) := Lib.hid (fun w' h => by
    have c1' := box_cell (w := w) (w' := w') (v := .slice a1 m1 c1) (T := 25) (by rw [hX1]; exact (E2).trans h)
    exact c1')
  have HCC : Hid (∀ w' u, Ext X2 w' → (w'.setCell ⟨w.heap.size + 1, 0, none⟩ u).cell? ⟨w.heap.size, 0, none⟩ = some (.slice a1 m1 c1)) := Lib.hid (fun w' u h => by
    rw [World.cell?_setCell_other _ _ _ _ (by intro e; injection e with e1; omega)]
    exact HC.out w' h)
  have R : X2.heap[w.heap.size + 1]? = some (.cells #[.slice none 0 0] 25 (0, 0)) := by rw [← hsz1]; exact box_row0 (w := X1) (by rw [hX2]; exact Ext.refl _)
  have HE := Lib.hid ((E1).trans E2)
  have HA1 := Lib.hid (fun w' (h : Ext X2 w') => ha1.old (HE.out.trans h))
  have HX1 := Lib.hid hX1; have HX2 := Lib.hid hX2; have HR := Lib.hid R; have HSZ := Lib.hid hsz2
  have k0 := HC.out X2.drew (Ext.refl _).drew
  clear hX1 E1 hX2 E2 R ha1 hsz2
  have HXB := Lib.hid hx; clear hx
  go_enter Tryz.func32, Tryz.ntmps32
  go_wp2_with (first | rw [HX1.out] | rw [HX2.out])
  clear k0
  go_region_held3 (fun w' => w'.cell? ⟨w.heap.size, 0, none⟩ = some (.slice a1 m1 c1))
    (first | exact HC.out _ (Ext.refl _).drew | exact HC.out _ (by assumption) | exact HCC.out _ _ (by assumption))
    (first
      | (go_at_call 58; refine (rounder_calls none 0 0 _).mono ?_; rintro e w5 ⟨rfl, rfl⟩; have EX5 : Ext X2 (X2.drew.alloc (.cells #[.slice none 0 0] 23)) := (((Ext.refl X2).drew).alloc _); have hp := (box_cell (w := X2.drew) (T := 23) (v := .slice none 0 0) (Ext.refl _)))
      | (go_at_call 44; refine (of_calls 1 (by decide) _).mono ?_; rintro e w6 ⟨o6, n6, c6, rfl, hown6, hext6, hno6⟩; have EX6 : Ext X2 w6 := EX5.trans hext6)
      | (go_at_call 44; refine (of_calls x HXB.out _).mono ?_; rintro e w8 ⟨o8, n8, c8, rfl, hown8, hext8, hno8⟩; have EX8 : Ext X2 w8 := EX6.trans hext8)
      | (go_at_call 84; have CQ := rounder1_calls (up := false) (HA1.out _ EX8) (hown6.sl.old hext8) hown8.sl ((hext6.trans hext8).cell hp) (Sl.nil _) (by omega) (by omega) (by omega); rw [val_lim, val_lim, Nat.mul_one] at CQ; refine CQ.mono ?_; rintro e w7 ⟨o7, n7, c7, rfl, hown7, hext7, hno7⟩; have EX7 : Ext X2 w7 := EX8.trans hext7; have hr9 := rowE EX7 HR.out; have l1 : w7.cell? ⟨w.heap.size + 1, 0, none⟩ = some (.slice none 0 0) := (by rw [cell_of_row _ _ _ _ _ _ hr9]; rfl); have l2 : w7.frozen? ⟨w.heap.size + 1, 0, none⟩ = false := frozen_of_row _ _ _ _ _ hr9))
  have HR7 := Lib.hid (rowE EX7 HR.out)
  have z1 := HSZ.out
  have z2 : w8.heap.size ≥ X2.heap.size := by first | exact Nat.le_refl _ | exact (by assumption : Ext X2 w8).size
  have HO := Lib.hid hown7; have HE7 := Lib.hid (HE.out.trans EX7)
  go_wp2_with fail
  try simp only [Exit.inBlock, Exit.then]
  refine bodyPost_ret (results_box2 rfl _ _ _ _ rfl (load_dec (heap_setCell_same w7 _ 0 _ _ (.slice o7 n7 c7) HR7.out))) rfl ?_
  exact ⟨o7, n7, c7, rfl, (HO.out.box _ (by omega)).mono (by omega), box_store _ HE7.out (by omega), by omega⟩

set_option maxHeartbeats 4000000 in
set_option maxRecDepth 100000 in
theorem dbasis_calls (x : Nat) (hx : x < B64) (w : World) : Calls Tryz.prog 17 #[.int .u64 (x : Int)] w (NewD w 4 (lim (U36 / 10000 * x))) := by
  have HX := Lib.hid hx
  clear hx
  go_enter Tryz.func17, Tryz.ntmps17
  go_wp2_with fail
  refine (unit_calls _).mono ?_
  rintro e w1 ⟨o1, n1, c1, rfl, hown1, hext1, hno1⟩
  have E0 := (Ext.refl w).alloc (.cells #[.slice none 0 0] 25)
  go_wp2_with fail
  refine (of_calls 10000 (by decide) _).mono ?_
  rintro e w2 ⟨o2, n2, c2, rfl, hown2, hext2, hno2⟩
  have CD := divmod_pos (hown1.sl.old hext2) hown2.sl (by omega) (by omega) (by rw [val_lim]; decide)
  rw [val_lim, val_lim] at CD
  have HCD := Lib.hid CD; have HE2 := Lib.hid (hext1.trans hext2)
  clear CD hown1 hown2 hext1 hext2
  go_wp2_with fail
  refine HCD.out.mono ?_
  rintro e w3 ⟨a3, d3, l3, a4, d4, l4, rfl, hown3, hown4, hext3, hl3, hl4, -⟩
  have HO3 := Lib.hid hown3.sl; have HE3 := Lib.hid (HE2.out.trans hext3)
  clear hown3 hown4 hext3
  go_wp2_with fail
  refine (of_calls x HX.out _).mono ?_
  rintro e w5 ⟨o5, n5, c5, rfl, hown5, hext5, hno5⟩
  have CM := mul_calls (HO3.out.old hext5) hown5.sl (by omega) (by omega)
  rw [val_lim, val_lim] at CM
  have HCM := Lib.hid CM; have HE5 := Lib.hid (HE3.out.trans hext5)
  clear CM hown5 hext5
  go_wp2_with fail
  refine HCM.out.mono ?_
  rintro e w6 ⟨o6, n6, c6, rfl, hown6, hext6, hno6⟩
  have E6 := HE5.out.trans hext6
  have k1 := box_cell E6
  have k2 := box_free E6
  have hs := HE5.out.size
  rw [alloc_size] at hs
  go_wp2_with fail
  try simp only [Exit.inBlock, Exit.then]
  refine bodyPost_ret (results_box1 rfl _ _ _ _ rfl (load_dec (box_row E6 _))) rfl ?_
  exact ⟨o6, n6, c6, rfl, (hown6.box _ (by omega)).mono (by omega), box_store _ (E0.trans E6) (Nat.le_refl _), by omega⟩

end Go.Proofs.YtifoflicflodcaaGreatDoor
