
/- gleanref2.Of, Add; gleanref3.OfNat, OfDec, Of. -/
import Derived.Test.YtimcnhlcepemjaaGreatDoorRefE
import Derived.Test.YtimcnhlcepemjaaGreatDoorMI
namespace Go.Proofs.YtimcnhlcepemjaaGreatDoor
open Go.RowKit

set_option maxHeartbeats 2000000 in
set_option maxRecDepth 100000 in
theorem frofnat_calls {a : Option Addr} {m c : Nat} {xs : List Nat} {w : World} (ha : Sl w a m c xs) (hm : m ≤ 10000) :
    Calls Tryz.prog 95 #[.slice a m c] w (NewR w (8 * m + 16) (8 * m + 16) (lim (rN (val xs) 1)) (lim (rD (val xs) 1))) := by
  obtain ⟨X1, hX1⟩ : ∃ X, w.alloc (.cells #[.slice none 0 0, .slice none 0 0] 40) = X := ⟨_, rfl⟩
  have hsz1 : X1.heap.size = w.heap.size + 1 := by rw [← hX1, alloc_size]
  have E1 : Ext w X1 := by rw [← hX1]; exact (Ext.refl w).alloc _
  have R1 : X1.heap[w.heap.size]? = some (.cells #[.slice none 0 0, .slice none 0 0] 40 (0, 0)) := box2_row (w := w) (by rw [hX1]; exact Ext.refl _)
  have HX1 := Lib.hid hX1; have HR1 := Lib.hid R1; have HE1 := Lib.hid E1; have HA := Lib.hid (ha.old E1)
  clear hX1 E1 R1 ha
  go_enter Tryz.func95, Tryz.ntmps95
  go_wp2_with (rw [HX1.out])
  refine (fof_calls 1 (by decide) X1).mono ?_
  rintro e w1 ⟨o1, n1, c1, rfl, hown1, hext1, hno1⟩
  have CM := fmade_calls (HA.out.old hext1) hown1.sl (by omega) (by omega) (by rw [val_lim]; decide)
  rw [val_lim] at CM
  have HCM := Lib.hid CM; have HE := Lib.hid hext1
  clear CM hown1 hext1
  go_wp2_with fail
  refine HCM.out.mono ?_
  rintro e w2 ⟨p, l, c, q, r, d, rfl, h1, h2, h3, h4, h5⟩
  have HS := HE.out.size
  have HRZ := Lib.hid (rowE (HE.out.trans h3) HR1.out)
  obtain ⟨k1, k2, k3, k4⟩ := row2_cells HRZ.out
  have H1 := Lib.hid h1; have H2 := Lib.hid h2; have H3 := Lib.hid (HE1.out.trans (HE.out.trans h3))
  clear h1 h2 h3
  go_wp2_with fail
  try simp only [Exit.inBlock, Exit.then]
  refine bodyPost_ret (results_box1 rfl _ _ _ _ rfl (load_rat (set2_row HRZ.out _ _))) rfl ?_
  exact ⟨_, _, _, _, _, _, rfl, (H1.out.set2 _ _ (by omega)).mono (by omega), (H2.out.set2 _ _ (by omega)).mono (by omega), set2_ext H3.out (Nat.le_refl _) _ _, by omega, by omega⟩

set_option maxHeartbeats 2000000 in
set_option maxRecDepth 100000 in
theorem frofdec_calls {a : Option Addr} {m c : Nat} {xs : List Nat} {w : World} (ha : Sl w a m c xs) (hm : m ≤ 100000) :
    Calls Tryz.prog 57 #[DecV a m c] w (NewR w (8 * m + 16) (8 * m + 16) (lim (rN (val xs) U36)) (lim (rD (val xs) U36))) := by
  obtain ⟨X1, hX1⟩ : ∃ X, w.alloc (.cells #[.slice a m c] 35) = X := ⟨_, rfl⟩
  obtain ⟨X2, hX2⟩ : ∃ X, X1.alloc (.cells #[.slice none 0 0, .slice none 0 0] 40) = X := ⟨_, rfl⟩
  have hsz1 : X1.heap.size = w.heap.size + 1 := by rw [← hX1, alloc_size]
  have hsz2 : X2.heap.size = w.heap.size + 2 := by rw [← hX2, alloc_size, hsz1]
  have E1 : Ext w X1 := by rw [← hX1]; exact (Ext.refl w).alloc _
  have E2 : Ext X1 X2 := by rw [← hX2]; exact (Ext.refl X1).alloc _
  have HC : Hid (∀ w', Ext X2 w' → w'.cell? ⟨w.heap.size, 0, none⟩ = some (.slice a m c)) := Lib.hid (fun w' h => box_cell (by rw [hX1]; exact E2.trans h))
  have R2 : X2.heap[w.heap.size + 1]? = some (.cells #[.slice none 0 0, .slice none 0 0] 40 (0, 0)) := by rw [← hsz1]; exact box2_row (w := X1) (by rw [hX2]; exact Ext.refl _)
  have HA := Lib.hid (fun w' (h : Ext X2 w') => ha.old ((E1.trans E2).trans h))
  have HX1 := Lib.hid hX1; have HX2 := Lib.hid hX2; have HR2 := Lib.hid R2; have HE := Lib.hid (E1.trans E2); have HSZ := Lib.hid hsz2
  have HCC : Hid (∀ w' u v, Ext X2 w' → ((w'.setCell ⟨w.heap.size + 1, 0, none⟩ u).setCell ⟨w.heap.size + 1, 1, none⟩ v).cell? ⟨w.heap.size, 0, none⟩ = some (.slice a m c)) := Lib.hid (fun w' u v h => by
    rw [World.cell?_setCell_other _ _ _ _ (by intro e; injection e with e1; omega), World.cell?_setCell_other _ _ _ _ (by intro e; injection e with e1; omega)]; exact HC.out w' h)
  clear hX1 hX2 E1 E2 R2 ha
  go_enter Tryz.func57, Tryz.ntmps57
  go_wp2_with (first | rw [HX1.out] | rw [HX2.out])
  go_region_held3 (fun w' => w'.cell? ⟨w.heap.size, 0, none⟩ = some (.slice a m c))
    (first | exact HC.out _ (Ext.refl _).drew | exact HC.out _ (by assumption) | exact HCC.out _ _ _ (by assumption))
    (first
      | (go_at_call 93; refine (rone_calls _).mono ?_; rintro e w1 ⟨o1, n1, c1, rfl, hown1, hext1, hno1⟩; have EX1 : Ext X2 w1 := (Ext.refl X2).drew.trans hext1)
      | (go_at_call 92; refine (fmade_calls (HA.out _ EX1) hown1.sl (by omega) (by omega) (by rw [val_lim]; unfold U36; decide)).mono ?_; rintro e wG ⟨o7, n7, c7, o8, n8, c8, rfl, hown7, hown8, hext7, hno7, hno8⟩; rw [val_lim] at hown7 hown8; have EwG : Ext X2 wG := EX1.trans hext7; obtain ⟨l1, l2, l3, l4⟩ := row2_cells (rowE EwG HR2.out)))
  have HG7 := Lib.hid (rowE EwG HR2.out); have HO7 := Lib.hid hown7; have HO8 := Lib.hid hown8; have HEG := Lib.hid EwG
  have z3 := HSZ.out; have zz : X2.heap.size ≤ w1.heap.size := EX1.size
  go_wp2_with fail
  try simp only [Exit.inBlock, Exit.then]
  refine bodyPost_ret (results_box1 rfl _ _ _ _ rfl (load_rat (set2_row HG7.out _ _))) rfl ?_
  exact ⟨_, _, _, _, _, _, rfl, (HO7.out.set2 _ _ (by omega)).mono (by omega), (HO8.out.set2 _ _ (by omega)).mono (by omega), set2_ext (HE.out.trans HEG.out) (by omega) _ _, by omega, by omega⟩

set_option maxHeartbeats 2000000 in
set_option maxRecDepth 100000 in
theorem frof_zero {a b : Option Addr} {m n c d : Nat} {ys : List Nat} {w : World} (hb : Sl w b n d ys) (hn : n ≤ 1000000) (hy : val ys = 0) :
    Calls Tryz.prog 63 #[.slice a m c, .slice b n d] w (NewRE w 0 0 [] [] 30) := by
  obtain ⟨X, hX⟩ : ∃ X, w.alloc (.cells #[.slice none 0 0, .slice none 0 0] 40) = X := ⟨_, rfl⟩
  have E0 : Ext w X := by rw [← hX]; exact (Ext.refl w).alloc _
  have hr0 := fun w' (h : Ext X w') => box2_row (w := w) (w' := w') (u := .slice none 0 0) (v := .slice none 0 0) (T := 40) (by rw [hX]; exact h)
  have HX := Lib.hid hX; have HE0 := Lib.hid E0; have HR0 := Lib.hid hr0
  have CB := rnorm_calls (hb.old E0) (by omega)
  rw [hy] at CB
  have HCB := Lib.hid CB
  clear hX E0 hr0 CB hy
  go_enter Tryz.func63, Tryz.ntmps63
  go_wp2_with (rw [HX.out])
  refine HCB.out.mono ?_
  rintro e w1 ⟨o1, n1, c1, rfl, hown1, hext1, hno1⟩
  have h1 : n1 = 0 := hown1.sl.len.symm.trans (by rfl)
  subst h1
  obtain ⟨k1, k2, k3, k4⟩ := row2_cells (HR0.out _ hext1)
  have HX1 := Lib.hid hext1
  clear hown1 hext1
  go_wp2_with fail
  try simp only [Exit.inBlock, Exit.then]
  refine bodyPost_ret (results_box2 rfl _ _ _ _ rfl (load_rat (set2_row (HR0.out _ HX1.out) _ _))) rfl ?_
  exact ⟨none, 0, 0, none, 0, 0, rfl, Own.nil _ _, Own.nil _ _, set2_ext (HE0.out.trans HX1.out) (Nat.le_refl _) _ _, Nat.le_refl _, Nat.le_refl _⟩

set_option maxHeartbeats 2000000 in
set_option maxRecDepth 100000 in
theorem frof_pos {a b : Option Addr} {m n c d : Nat} {xs ys : List Nat} {w : World} (ha : Sl w a m c xs) (hb : Sl w b n d ys) (hm : m ≤ 1000000) (hn : n ≤ 1000000) (hy : val ys ≠ 0) :
    Calls Tryz.prog 63 #[.slice a m c, .slice b n d] w (NewRE w (8 * m + 8 * n) (8 * m + 8 * n) (lim (rN (val xs) (val ys))) (lim (rD (val xs) (val ys))) 0) := by
  obtain ⟨X, hX⟩ : ∃ X, w.alloc (.cells #[.slice none 0 0, .slice none 0 0] 40) = X := ⟨_, rfl⟩
  have E0 : Ext w X := by rw [← hX]; exact (Ext.refl w).alloc _
  have hr0 := fun w' (h : Ext X w') => box2_row (w := w) (w' := w') (u := .slice none 0 0) (v := .slice none 0 0) (T := 40) (by rw [hX]; exact h)
  have hsz : X.heap.size = w.heap.size + 1 := by rw [← hX, alloc_size]
  have HX := Lib.hid hX; have HE0 := Lib.hid E0; have HR0 := Lib.hid hr0; have HSZ := Lib.hid hsz; have HA := Lib.hid (ha.old E0); have HB := Lib.hid (hb.old E0); have HY := Lib.hid hy
  have HCB := Lib.hid (rnorm_calls (hb.old E0) (by omega))
  clear hX E0 hr0 hsz ha hb hy
  go_enter Tryz.func63, Tryz.ntmps63
  go_wp2_with (rw [HX.out])
  refine HCB.out.mono ?_
  rintro e w1 ⟨o1, n1, c1, rfl, hown1, hext1, hno1⟩
  have h1 : n1 ≠ 0 := fun h => HY.out ((digs_nil B64_two).1 (List.eq_nil_of_length_eq_zero (hown1.sl.len.trans h)))
  have h2 : ((n1 : Int) == 0) = false := by rw [beq_eq_false_iff_ne]; omega
  have CM := Lib.hid (fmade_calls (HA.out.old hext1) (HB.out.old hext1) (by omega) (by omega) HY.out)
  have HX1 := Lib.hid hext1
  clear hown1 hext1 h1
  go_wp2_with fail
  refine CM.out.mono ?_
  rintro e w2 ⟨p, l, c', q, r, d', rfl, h1, h2, h3, h4, h5⟩
  have HS := HX1.out.size
  have HRZ := Lib.hid (HR0.out _ (HX1.out.trans h3))
  obtain ⟨k1, k2, k3, k4⟩ := row2_cells HRZ.out
  have H1 := Lib.hid h1; have H2 := Lib.hid h2; have H3 := Lib.hid (HE0.out.trans (HX1.out.trans h3))
  clear h1 h2 h3
  go_wp2_with fail
  try simp only [Exit.inBlock, Exit.then]
  refine bodyPost_ret (results_box2 rfl _ _ _ _ rfl (load_rat (set2_row HRZ.out _ _))) rfl ?_
  have hsz := HSZ.out
  exact ⟨_, _, _, _, _, _, rfl, (H1.out.set2 _ _ (by omega)).mono (by omega), (H2.out.set2 _ _ (by omega)).mono (by omega), set2_ext H3.out (Nat.le_refl _) _ _, by omega, by omega⟩

end Go.Proofs.YtimcnhlcepemjaaGreatDoor
