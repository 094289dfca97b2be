/- dec.Quo, gleanhelp.Dec. -/
import Derived.Test.YtnfjfgfkeigkiaaGreatDoorSpR
import Derived.Test.YtnfjfgfkeigkiaaGreatDoorRound2
namespace Go.Proofs.YtnfjfgfkeigkiaaGreatDoor
open Go.RowKit

set_option maxHeartbeats 4000000 in
set_option maxRecDepth 100000 in
theorem dquo_calls {a b : Option Addr} {m n c d : Nat} {xs ys : List Nat} {w : World} (ha : Sl w a m c xs) (hb : Sl w b n d ys) (hm : m ≤ 100000000) (hn : n ≤ 100000000) :
    Calls Tryz.prog 48 #[DecV a m c, DecV b n d] w (NewDE w (m + 4) (rdL false (val xs * U36) (val ys)) (rdE (val ys))) := by
  obtain ⟨X1, hX1⟩ : ∃ X, w.alloc (.cells #[.slice a m c] 50) = X := ⟨_, rfl⟩
  obtain ⟨X2, hX2⟩ : ∃ X, X1.alloc (.cells #[.slice b n d] 50) = X := ⟨_, rfl⟩
  obtain ⟨X3, hX3⟩ : ∃ X, X2.alloc (.cells #[.slice none 0 0] 50) = X := ⟨_, rfl⟩
  have hsz1 : X1.heap.size = w.heap.size + 1 := by rw [← hX1, alloc_size]
  have hsz2 : X2.heap.size = w.heap.size + 2 := by rw [← hX2, alloc_size, hsz1]
  have hsz3 : X3.heap.size = w.heap.size + 3 := by rw [← hX3, alloc_size, hsz2]
  have E1 : Ext w X1 := by rw [← hX1]; exact (Ext.refl w).alloc _
  have E2 : Ext X1 X2 := by rw [← hX2]; exact (Ext.refl X1).alloc _
  have E3 : Ext X2 X3 := by rw [← hX3]; exact (Ext.refl X2).alloc _
  have HC : Hid (∀ w', Ext X3 w' → w'.cell? ⟨w.heap.size, 0, none⟩ = some (.slice a m c) ∧ w'.cell? ⟨w.heap.size + 1, 0, none⟩ = some (.slice b n d)) := Lib.hid (fun w' h => by
    have c1 := box_cell (w := w) (w' := w') (v := .slice a m c) (T := 50) (by rw [hX1]; exact (E2.trans E3).trans h)
    have c2 := box_cell (w := X1) (w' := w') (v := .slice b n d) (T := 50) (by rw [hX2]; exact E3.trans h)
    rw [hsz1] at c2
    exact ⟨c1, c2⟩)
  have HCC : Hid (∀ w' u, Ext X3 w' → (w'.setCell ⟨w.heap.size + 2, 0, none⟩ u).cell? ⟨w.heap.size, 0, none⟩ = some (.slice a m c) ∧ (w'.setCell ⟨w.heap.size + 2, 0, none⟩ u).cell? ⟨w.heap.size + 1, 0, none⟩ = some (.slice b n d)) := Lib.hid (fun w' u h => by
    rw [World.cell?_setCell_other _ _ _ _ (by intro e; injection e with e1; omega), World.cell?_setCell_other _ _ _ _ (by intro e; injection e with e1; omega)]
    exact HC.out w' h)
  have R3 : X3.heap[w.heap.size + 2]? = some (.cells #[.slice none 0 0] 50 (0, 0)) := by rw [← hsz2]; exact box_row0 (w := X2) (by rw [hX3]; exact Ext.refl _)
  have HE := Lib.hid ((E1.trans E2).trans E3)
  have HA := Lib.hid (fun w' (h : Ext X3 w') => ha.old (HE.out.trans h)); have HB := Lib.hid (fun w' (h : Ext X3 w') => hb.old (HE.out.trans h))
  have HX1 := Lib.hid hX1; have HX2 := Lib.hid hX2; have HX3 := Lib.hid hX3; have HR3 := Lib.hid R3; have HSZ := Lib.hid hsz3
  obtain ⟨k1, k2⟩ := HC.out X3.drew (Ext.refl _).drew
  clear hX1 hX2 hX3 E1 E2 E3 R3 ha hb hsz3
  go_enter Tryz.func48, Tryz.ntmps48
  go_wp2_with (first | rw [HX1.out] | rw [HX2.out] | rw [HX3.out])
  clear k1 k2
  go_region_held3 (fun w' => w'.cell? ⟨w.heap.size, 0, none⟩ = some (.slice a m c) ∧ w'.cell? ⟨w.heap.size + 1, 0, none⟩ = some (.slice b n d))
    (first | exact HC.out _ (Ext.refl _).drew | exact HC.out _ (by assumption) | exact HCC.out _ _ (by assumption))
    (first
      | (go_at_call 78; refine (rounder_calls none 0 0 _).mono ?_; rintro e w5 ⟨rfl, rfl⟩; have EX5 : Ext X3 (X3.drew.alloc (.cells #[.slice none 0 0] 23)) := (((Ext.refl X3).drew).alloc _); have hp := (box_cell (w := X3.drew) (T := 23) (v := .slice none 0 0) (Ext.refl _)))
      | (go_at_call 79; refine (unit_calls _).mono ?_; rintro e w6 ⟨o6, n6, c6, rfl, hown6, hext6, hno6⟩; have EX6 : Ext X3 w6 := EX5.trans hext6)
      | (go_at_call 104; refine (rounder1_calls (up := false) (HA.out _ EX6) hown6.sl (HB.out _ EX6) (hext6.cell hp) (Sl.nil _) (by omega) (by omega) (by omega)).mono ?_; rintro e w7 ⟨o7, n7, c7, rfl, hown7, hext7, hno7⟩; rw [val_lim] at hown7; have EX7 : Ext X3 w7 := EX6.trans hext7; have hr7 := rowE EX7 HR3.out; have l1 : w7.cell? ⟨w.heap.size + 2, 0, none⟩ = some (.slice none 0 0) := (by rw [cell_of_row _ _ _ _ _ _ hr7]; rfl); have l2 : w7.frozen? ⟨w.heap.size + 2, 0, none⟩ = false := frozen_of_row _ _ _ _ _ hr7))
  have HR7 := Lib.hid (rowE EX7 HR3.out)
  have z1 := HSZ.out
  have z2 : X3.heap.size ≤ w6.heap.size := EX6.size
  have HO := Lib.hid hown7; have HE7 := Lib.hid (HE.out.trans EX7)
  go_wp2_with fail
  try simp only [Exit.inBlock, Exit.then]
  refine bodyPost_ret (results_box2 rfl _ _ _ _ rfl (load_dec (heap_setCell_same w7 _ 0 _ _ (.slice o7 n7 c7) HR7.out))) rfl ?_
  exact ⟨o7, n7, c7, rfl, (HO.out.box _ (by omega)).mono (by omega), box_store _ HE7.out (by omega), by omega⟩

set_option maxHeartbeats 1000000 in
set_option maxRecDepth 100000 in
theorem hdec_calls {a b : Option Addr} {m n c d : Nat} {xs ys : List Nat} {w : World} (ha : Sl w a m c xs) (hb : Sl w b n d ys) (hm : m ≤ 1000000) (hn : n ≤ 1000000) :
    Calls Tryz.prog 40 #[DecV a m c, DecV b n d] w (RetE (.bool (decide (xs = ys))) w) := by
  have E := ((Ext.refl w).alloc (.cells #[.slice a m c] 50)).alloc (.cells #[.slice b n d] 50)
  have CB := Lib.hid (hnat_calls (ha.old E) (hb.old E) (by omega) (by omega))
  go_enter Tryz.func40, Tryz.ntmps40
  go_wp2_with fail
  refine CB.out.mono ?_
  rintro e w' ⟨rfl, k, rfl⟩
  go_wp2_with fail
  go_ret
  exact ⟨rfl, E.drewN k⟩
theorem hdec_at {a b : Option Addr} {m n c d : Nat} {xs : List Nat} {w : World} (ha : Sl w a m c xs) (hb : Sl w b n d xs) (hm : m ≤ 1000000) (hn : n ≤ 1000000) :
    Calls Tryz.prog 40 #[DecV a m c, DecV b n d] w (RetE (.bool true) w) := by
  have := hdec_calls ha hb hm hn
  rwa [decide_eq_true rfl] at this

/-! RatDown's numbers. -/
theorem down_le {N D : Nat} : rN (N * U36 / D) U36 * D ≤ N * rD (N * U36 / D) U36 := by
  have c := r_cross (N * U36 / D) U36
  have p := rD_pos (X := N * U36 / D) (Y := U36) (by unfold U36; decide)
  have h := Nat.div_mul_le_self (N * U36) D
  have hU : 0 < U36 := by unfold U36; decide
  generalize rN (N * U36 / D) U36 = s at *
  generalize rD (N * U36 / D) U36 = t at *
  generalize N * U36 / D = d at *
  generalize U36 = U at *
  have e : s * D * U ≤ N * t * U := by
    calc s * D * U = d * D * t := by grind
      _ ≤ N * U * t := Nat.mul_le_mul_right _ h
      _ = N * t * U := by grind
  exact Nat.le_of_mul_le_mul_right e hU
theorem down_gt {N D : Nat} (hD : 0 < D) : N * rD (N * U36 / D + 1) U36 < rN (N * U36 / D + 1) U36 * D := by
  have c := r_cross (N * U36 / D + 1) U36
  have p := rD_pos (X := N * U36 / D + 1) (Y := U36) (by unfold U36; decide)
  have h : N * U36 < (N * U36 / D + 1) * D := by
    have := Nat.lt_mul_div_succ (N * U36) hD
    rw [Nat.mul_comm D] at this; exact this
  have hU : 0 < U36 := by unfold U36; decide
  generalize rN (N * U36 / D + 1) U36 = s at *
  generalize rD (N * U36 / D + 1) U36 = t at *
  generalize N * U36 / D + 1 = d at *
  generalize U36 = U at *
  have e : N * t * U < s * D * U := by
    calc N * t * U = N * U * t := by grind
      _ < d * D * t := Nat.mul_lt_mul_of_pos_right h p
      _ = s * D * U := by grind
  exact Nat.lt_of_mul_lt_mul_right e
theorem down_dec (X : Nat) : rN X U36 * U36 / rD X U36 = X := by
  rw [r_cross X U36, Nat.mul_div_cancel]
  exact rD_pos (by unfold U36; decide)
theorem div_cross {A r B y : Nat} (hr : 0 < r) (hy : 0 < y) (h : A * y = B * r) : A / r = B / y := by
  have := frac_div (x := A) (y := r) (X := B) (Y := y) (K := 1) hr hy h
  rwa [Nat.mul_one, Nat.mul_one] at this
/-- The exact quotient of two numbers with places. -/
theorem quo_exact {x y : Nat} (hy : 0 < y) : rN (rN x U36 * rD y U36) (rD x U36 * rN y U36) * y = x * rD (rN x U36 * rD y U36) (rD x U36 * rN y U36) ∧ 0 < rN y U36 := by
  have hU : 0 < U36 := by unfold U36; decide
  have c1 := r_cross x U36
  have c2 := r_cross y U36
  have p1 := rD_pos (X := x) hU
  have p2 := rD_pos (X := y) hU
  have ps : 0 < rN y U36 := by
    rcases Nat.eq_zero_or_pos (rN y U36) with h | h
    · rw [h, Nat.zero_mul] at c2
      have := Nat.mul_pos hy p2
      omega
    · exact h
  refine ⟨?_, ps⟩
  have c3 := r_cross (rN x U36 * rD y U36) (rD x U36 * rN y U36)
  generalize rN x U36 = s1 at *
  generalize rD x U36 = t1 at *
  generalize rN y U36 = s2 at *
  generalize rD y U36 = t2 at *
  generalize rN (s1 * t2) (t1 * s2) = u at *
  generalize rD (s1 * t2) (t1 * s2) = v at *
  generalize U36 = U at *
  have e : u * y * (t1 * t2) = x * v * (t1 * t2) := by
    calc u * y * (t1 * t2) = u * t1 * (y * t2) := by grind
      _ = u * t1 * (s2 * U) := by rw [c2]
      _ = u * (t1 * s2) * U := by grind
      _ = s1 * t2 * v * U := by rw [c3]
      _ = s1 * U * t2 * v := by grind
      _ = x * t1 * t2 * v := by rw [c1]
      _ = x * v * (t1 * t2) := by grind
  exact Nat.eq_of_mul_eq_mul_right (Nat.mul_pos p1 p2) e
theorem down_quo {x y u v : Nat} (hy : 0 < y) (hv : 0 < v) (h : u * y = x * v) : u * U36 / v = x * U36 / y := frac_div hv hy h
theorem down_mul {x y z u v : Nat} (hy : 0 < y) (hv : 0 < v) (h : u * y = x * v) :
    rN (u * rN z U36) (v * rD z U36) * U36 / rD (u * rN z U36) (v * rD z U36) = x * z / y := by
  have hU : 0 < U36 := by unfold U36; decide
  have c1 := r_cross z U36
  have p1 := rD_pos (X := z) hU
  have c3 := r_cross (u * rN z U36) (v * rD z U36)
  have p3 := rD_pos (X := u * rN z U36) (Y := v * rD z U36) (Nat.mul_pos hv p1)
  generalize rN z U36 = s at *
  generalize rD z U36 = t at *
  generalize rN (u * s) (v * t) = p at *
  generalize rD (u * s) (v * t) = r at *
  refine div_cross p3 hy ?_
  generalize U36 = U at *
  have e : p * U * y * (v * t) = x * z * r * (v * t) := by
    calc p * U * y * (v * t) = p * (v * t) * (U * y) := by grind
      _ = u * s * r * (U * y) := by rw [c3]
      _ = u * y * (s * U) * r := by grind
      _ = x * v * (z * t) * r := by rw [h, c1]
      _ = x * z * r * (v * t) := by grind
  exact Nat.eq_of_mul_eq_mul_right (Nat.mul_pos hv p1) e
end Go.Proofs.YtnfjfgfkeigkiaaGreatDoor
