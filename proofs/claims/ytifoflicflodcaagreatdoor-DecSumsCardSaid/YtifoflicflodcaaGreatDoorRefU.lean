/- gleanref2: One, Of, OfNat, Basis, Zero, Cmp, Add, Sub, Mul, Quo, MulDiv, MulDivUp, Times, Over, Trunc. -/
import Derived.Test.YtifoflicflodcaaGreatDoorRefN2
import Derived.Test.YtifoflicflodcaaGreatDoorDAt
namespace Go.Proofs.YtifoflicflodcaaGreatDoor
open Go.RowKit

set_option maxHeartbeats 4000000 in
set_option maxRecDepth 100000 in
theorem rone_calls (w : World) : Calls Tryz.prog 53 #[] w (New w 2 (lim U36)) := by
  go_enter Tryz.func53, Tryz.ntmps53
  go_wp2_with fail
  refine (rpow_calls 36 (by omega) _).mono ?_
  rintro e w1 ⟨o1, n1, c1, rfl, hown1, hext1, hno1⟩
  go_wp2_with fail
  go_ret
  have hl := hown1.sl.len
  rw [show lim (10 ^ 36) = lim U36 from rfl] at hown1 hl
  rw [lim_unit] at hl
  simp at hl
  exact ⟨o1, n1, c1, rfl, hown1, hext1, by omega⟩

set_option maxHeartbeats 4000000 in
set_option maxRecDepth 100000 in
theorem rdofnat_calls {a : Option Addr} {n c : Nat} {xs : List Nat} {w : World} (h : Sl w a n c xs) (hn : n ≤ 100000000) :
    Calls Tryz.prog 20 #[.slice a n c] w (NewD w (2 * n + 4) (lim (val xs * U36))) := by
  go_enter Tryz.func20, Tryz.ntmps20
  go_wp2_with fail
  refine (rone_calls _).mono ?_
  rintro e w1 ⟨o, no, co, rfl, hown, hext, hno⟩
  have E0 := (Ext.refl w).alloc (.cells #[.slice none 0 0] 25)
  go_wp2_with fail
  refine (fmul_calls ((h.old E0).old hext) hown.sl (by omega) (by omega)).mono ?_
  rintro e w2 ⟨o2, no2, co2, rfl, hown2, hext2, hno2⟩
  have E2 := hext.trans hext2
  have k1 := box_cell E2
  have k2 := box_free E2
  go_wp2_with fail
  try simp only [Exit.inBlock, Exit.then]
  refine bodyPost_ret (results_box1 rfl _ _ _ _ rfl (load_dec (box_row E2 _))) rfl ?_
  rw [val_lim] at hown2
  have hs := hext.size
  rw [alloc_size] at hs
  exact ⟨o2, no2, co2, rfl, (hown2.box _ (by omega)).mono (by omega), box_store _ (E0.trans E2) (Nat.le_refl _), by omega⟩

set_option maxHeartbeats 4000000 in
set_option maxRecDepth 100000 in
theorem rdof_calls (x : Nat) (hx : x < B64) (w : World) : Calls Tryz.prog 16 #[.int .u64 (x : Int)] w (NewD w 8 (lim (x * U36))) := by
  have HX := Lib.hid hx
  clear hx
  go_enter Tryz.func16, Tryz.ntmps16
  go_wp2_with fail
  refine (fof_calls x HX.out _).mono ?_
  rintro e w1 ⟨o, no, co, rfl, hown, hext, hno⟩
  have E0 := (Ext.refl w).alloc (.cells #[.slice none 0 0] 25)
  go_wp2_with fail
  refine (rdofnat_calls hown.sl (by omega)).mono ?_
  rintro e w2 ⟨o2, no2, co2, rfl, hown2, hext2, hno2⟩
  have E2 := hext.trans hext2
  have k1 := box_cell E2
  have k2 := box_free E2
  go_wp2_with fail
  try simp only [Exit.inBlock, Exit.then]
  refine bodyPost_ret (results_box1 rfl _ _ _ _ rfl (load_dec (box_row E2 _))) rfl ?_
  rw [val_lim] at hown2
  have hs := hext.size
  rw [alloc_size] at hs
  exact ⟨o2, no2, co2, rfl, (hown2.box _ (by omega)).mono (by omega), box_store _ (E0.trans E2) (Nat.le_refl _), by omega⟩

set_option maxHeartbeats 4000000 in
set_option maxRecDepth 100000 in
theorem rdzero_calls {a : Option Addr} {n c : Nat} {xs : List Nat} {w : World} (h : Sl w a n c xs) (hn : n ≤ 1000000000) :
    Calls Tryz.prog 22 #[DecV a n c] w (RetE (.bool (decide (val xs = 0))) w) := by
  have E := (Ext.refl w).alloc (.cells #[.slice a n c] 25)
  have CN := Lib.hid (rnorm_calls (h.old E) hn)
  go_enter Tryz.func22, Tryz.ntmps22
  go_wp2_with fail
  refine CN.out.mono ?_
  rintro e w1 ⟨o, no, co, rfl, hown, hext, hno⟩
  have hl := hown.sl.len
  obtain ⟨q, hq⟩ : ∃ q, ((no : Int) == 0) = q := ⟨_, rfl⟩
  have hz : decide (val xs = 0) = q := by
    rw [← hq]
    by_cases h0 : val xs = 0
    · rw [decide_eq_true h0]
      have : no = 0 := by rw [← hl, h0]; rfl
      rw [this]; rfl
    · rw [decide_eq_false h0]
      have : no ≠ 0 := fun h1 => h0 ((digs_nil B64_two).1 (List.eq_nil_of_length_eq_zero (hl.trans h1)))
      symm
      rw [beq_eq_false_iff_ne]; omega
  go_wp2_with fail
  go_ret
  exact ⟨by rw [hz]; rfl, E.trans hext⟩

set_option maxHeartbeats 4000000 in
set_option maxRecDepth 100000 in
theorem rddcmp_calls {a b : Option Addr} {m n c d : Nat} {xs ys : List Nat} {w : World} (ha : Sl w a m c xs) (hb : Sl w b n d ys) (hm : m ≤ 400000000) (hn : n ≤ 400000000) :
    Calls Tryz.prog 24 #[DecV a m c, DecV b n d] w (RetE (.int .i64 (cmpN (val xs) (val ys))) w) := by
  have E := ((Ext.refl w).alloc (.cells #[.slice a m c] 25)).alloc (.cells #[.slice b n d] 25)
  have CB := Lib.hid (rCmp_calls (ha.old E) (hb.old E) (by omega) (by omega))
  go_enter Tryz.func24, Tryz.ntmps24
  go_wp2_with fail
  refine CB.out.mono ?_
  rintro e w' ⟨rfl, hext⟩
  go_wp2_with fail
  go_ret
  exact ⟨rfl, E.trans hext⟩

set_option maxHeartbeats 4000000 in
set_option maxRecDepth 100000 in
theorem rdadd_calls {a b : Option Addr} {m n c d : Nat} {xs ys : List Nat} {w : World} (ha : Sl w a m c xs) (hb : Sl w b n d ys) (hm : m ≤ 1000000) (hn : n ≤ 1000000) :
    Calls Tryz.prog 13 #[DecV a m c, DecV b n d] w (NewD w (2 * m + 2 * n + 1) (lim (val xs + val ys))) := by
  have E2 := W2_ext w (.slice a m c) (.slice b n d)
  have E3 := E2.alloc (.cells #[.slice none 0 0] 25)
  have CA := Lib.hid (fadd_calls (ha.old E3) (hb.old E3) (by omega) (by omega))
  go_enter Tryz.func13, Tryz.ntmps13
  go_wp2_with fail
  refine CA.out.mono ?_
  rintro e w2 ⟨o2, no2, co2, rfl, hown2, hext2, hno2⟩
  have hz := W2_size w (.slice a m c) (.slice b n d)
  obtain ⟨k1, k2⟩ := box_at hz hext2
  obtain ⟨f1, f2, f3⟩ := box_fin E2 hz hext2 (.slice o2 no2 co2)
  go_wp2_with fail
  try simp only [Exit.inBlock, Exit.then]
  refine bodyPost_ret (results_box1 rfl _ _ _ _ rfl (load_dec f2)) rfl ?_
  exact ⟨o2, no2, co2, rfl, f3 hown2, f1, by omega⟩

set_option maxHeartbeats 4000000 in
set_option maxRecDepth 100000 in
theorem rdsub_calls {a b : Option Addr} {m n c d : Nat} {xs ys : List Nat} {w : World} (ha : Sl w a m c xs) (hb : Sl w b n d ys) (hm : m ≤ 1000000) (hn : n ≤ 1000000) :
    Calls Tryz.prog 11 #[DecV a m c, DecV b n d] w (NewDE w (2 * m) (dsubL (val xs) (val ys)) (dsubE (val xs) (val ys))) := by
  have E2 := W2_ext w (.slice a m c) (.slice b n d)
  have E3 := E2.alloc (.cells #[.slice none 0 0] 25)
  have hz := W2_size w (.slice a m c) (.slice b n d)
  unfold dsubL dsubE
  by_cases hlt : val xs < val ys
  · rw [if_pos hlt, if_pos hlt]
    have CA := Lib.hid (fsub_below (val xs) (val ys) (ha.old E3) (hb.old E3) rfl rfl (by omega) (by omega) hlt)
    clear hlt
    go_enter Tryz.func11, Tryz.ntmps11
    go_wp2_with fail
    refine CA.out.mono ?_
    rintro e w2 ⟨o2, no2, co2, rfl, hown2, hext2, hno2⟩
    obtain ⟨k1, k2⟩ := box_at hz hext2
    obtain ⟨f1, f2, f3⟩ := box_fin E2 hz hext2 (.slice none 0 0)
    go_wp2_with fail
    try simp only [Exit.inBlock, Exit.then]
    refine bodyPost_ret (results_box2 rfl _ _ _ _ rfl (load_dec f2)) rfl ?_
    exact ⟨none, 0, 0, rfl, Own.nil _ _, f1, by omega⟩
  · rw [if_neg hlt, if_neg hlt]
    have CA := Lib.hid (fsub_ok (val xs) (val ys) (ha.old E3) (hb.old E3) rfl rfl (by omega) (by omega) (by omega))
    clear hlt
    go_enter Tryz.func11, Tryz.ntmps11
    go_wp2_with fail
    refine CA.out.mono ?_
    rintro e w2 ⟨o2, no2, co2, rfl, hown2, hext2, hno2⟩
    obtain ⟨k1, k2⟩ := box_at hz hext2
    obtain ⟨f1, f2, f3⟩ := box_fin E2 hz hext2 (.slice o2 no2 co2)
    go_wp2_with fail
    try simp only [Exit.inBlock, Exit.then]
    refine bodyPost_ret (results_box2 rfl _ _ _ _ rfl (load_dec f2)) rfl ?_
    exact ⟨o2, no2, co2, rfl, f3 hown2, f1, by omega⟩

set_option maxHeartbeats 4000000 in
set_option maxRecDepth 100000 in
theorem rdtimes_calls {a1 : Option Addr} {m1 c1 : Nat} {xs1 : List Nat} {w : World} (ha1 : Sl w a1 m1 c1 xs1) (hm1 : m1 ≤ 1000000) {x : Nat} (hx : x < B64) :
    Calls Tryz.prog 14 #[DecV a1 m1 c1, .int .u64 (x : Int)] w (NewD w (2 * m1 + 4) (lim (val xs1 * x))) := by
  obtain ⟨X1, hX1⟩ : ∃ X, w.alloc (.cells #[.slice a1 m1 c1] 25) = X := ⟨_, rfl⟩
  obtain ⟨X2, hX2⟩ : ∃ X, X1.alloc (.cells #[.slice none 0 0] 25) = X := ⟨_, rfl⟩
  have hsz1 : X1.heap.size = w.heap.size + 1 := by rw [← hX1, alloc_size]
  have hsz2 : X2.heap.size = w.heap.size + 2 := by rw [← hX2, alloc_size, hsz1]
  have E1 : Ext w X1 := by rw [← hX1]; exact (Ext.refl w).alloc _
  have E2 : Ext X1 X2 := by rw [← hX2]; exact (Ext.refl X1).alloc _
  have HC : Hid (∀ w', Ext X2 w' → w'.cell? ⟨w.heap.size, 0, none⟩ = some (.slice a1 m1 c1)) := Lib.hid (fun w' h => by
    have c1' := box_cell (w := w) (w' := w') (v := .slice a1 m1 c1) (T := 25) (by rw [hX1]; exact (E2).trans h)
    exact c1')
  have HCC : Hid (∀ w' u, Ext X2 w' → (w'.setCell ⟨w.heap.size + 1, 0, none⟩ u).cell? ⟨w.heap.size, 0, none⟩ = some (.slice a1 m1 c1)) := Lib.hid (fun w' u h => by
    rw [World.cell?_setCell_other _ _ _ _ (by intro e; injection e with e1; omega)]
    exact HC.out w' h)
  have R : X2.heap[w.heap.size + 1]? = some (.cells #[.slice none 0 0] 25 (0, 0)) := by rw [← hsz1]; exact box_row0 (w := X1) (by rw [hX2]; exact Ext.refl _)
  have HE := Lib.hid ((E1).trans E2)
  have HA1 := Lib.hid (fun w' (h : Ext X2 w') => ha1.old (HE.out.trans h))
  have HX1 := Lib.hid hX1; have HX2 := Lib.hid hX2; have HR := Lib.hid R; have HSZ := Lib.hid hsz2
  have k0 := HC.out X2.drew (Ext.refl _).drew
  clear hX1 E1 hX2 E2 R ha1 hsz2
  have HXB := Lib.hid hx; clear hx
  go_enter Tryz.func14, Tryz.ntmps14
  go_wp2_with (first | rw [HX1.out] | rw [HX2.out])
  clear k0
  go_region_held3 (fun w' => w'.cell? ⟨w.heap.size, 0, none⟩ = some (.slice a1 m1 c1))
    (first | exact HC.out _ (Ext.refl _).drew | exact HC.out _ (by assumption) | exact HCC.out _ _ (by assumption))
    (first
      | (go_at_call 49; refine (fof_calls x HXB.out _).mono ?_; rintro e w5 ⟨o5, n5, c5, rfl, hown5, hext5, hno5⟩; have EX5 : Ext X2 w5 := (Ext.refl X2).drew.trans hext5)
      | (go_at_call 48; refine (fmul_calls (HA1.out _ EX5) hown5.sl (by omega) (by omega)).mono ?_; rintro e w7 ⟨o7, n7, c7, rfl, hown7, hext7, hno7⟩; rw [val_lim] at hown7; have EX7 : Ext X2 w7 := EX5.trans hext7; have hr9 := rowE EX7 HR.out; have l1 : w7.cell? ⟨w.heap.size + 1, 0, none⟩ = some (.slice none 0 0) := (by rw [cell_of_row _ _ _ _ _ _ hr9]; rfl); have l2 : w7.frozen? ⟨w.heap.size + 1, 0, none⟩ = false := frozen_of_row _ _ _ _ _ hr9))
  have HR7 := Lib.hid (rowE EX7 HR.out)
  have z1 := HSZ.out
  have z2 : w5.heap.size ≥ X2.heap.size := by first | exact Nat.le_refl _ | exact (by assumption : Ext X2 w5).size
  have HO := Lib.hid hown7; have HE7 := Lib.hid (HE.out.trans EX7)
  go_wp2_with fail
  try simp only [Exit.inBlock, Exit.then]
  refine bodyPost_ret (results_box1 rfl _ _ _ _ rfl (load_dec (heap_setCell_same w7 _ 0 _ _ (.slice o7 n7 c7) HR7.out))) rfl ?_
  exact ⟨o7, n7, c7, rfl, (HO.out.box _ (by omega)).mono (by omega), box_store _ HE7.out (by omega), by omega⟩

set_option maxHeartbeats 4000000 in
set_option maxRecDepth 100000 in
theorem rdmul_calls {a1 a2 : Option Addr} {m1 c1 m2 c2 : Nat} {xs1 xs2 : List Nat} {w : World} (ha1 : Sl w a1 m1 c1 xs1) (ha2 : Sl w a2 m2 c2 xs2) (hm1 : m1 ≤ 1000000) (hm2 : m2 ≤ 1000000) :
    Calls Tryz.prog 37 #[DecV a1 m1 c1, DecV a2 m2 c2] w (NewD w (4 * m1 + 4 * m2 + 4) (lim (val xs1 * val xs2 / U36))) := by
  obtain ⟨X1, hX1⟩ : ∃ X, w.alloc (.cells #[.slice a1 m1 c1] 25) = X := ⟨_, rfl⟩
  obtain ⟨X2, hX2⟩ : ∃ X, X1.alloc (.cells #[.slice a2 m2 c2] 25) = X := ⟨_, rfl⟩
  obtain ⟨X3, hX3⟩ : ∃ X, X2.alloc (.cells #[.slice none 0 0] 25) = X := ⟨_, rfl⟩
  have hsz1 : X1.heap.size = w.heap.size + 1 := by rw [← hX1, alloc_size]
  have hsz2 : X2.heap.size = w.heap.size + 2 := by rw [← hX2, alloc_size, hsz1]
  have hsz3 : X3.heap.size = w.heap.size + 3 := by rw [← hX3, alloc_size, hsz2]
  have E1 : Ext w X1 := by rw [← hX1]; exact (Ext.refl w).alloc _
  have E2 : Ext X1 X2 := by rw [← hX2]; exact (Ext.refl X1).alloc _
  have E3 : Ext X2 X3 := by rw [← hX3]; exact (Ext.refl X2).alloc _
  have HC : Hid (∀ w', Ext X3 w' → w'.cell? ⟨w.heap.size, 0, none⟩ = some (.slice a1 m1 c1) ∧ w'.cell? ⟨w.heap.size + 1, 0, none⟩ = some (.slice a2 m2 c2)) := Lib.hid (fun w' h => by
    have c1' := box_cell (w := w) (w' := w') (v := .slice a1 m1 c1) (T := 25) (by rw [hX1]; exact ((E2).trans E3).trans h)
    have c2' := box_cell (w := X1) (w' := w') (v := .slice a2 m2 c2) (T := 25) (by rw [hX2]; exact (E3).trans h)
    rw [hsz1] at c2'
    exact ⟨c1', c2'⟩)
  have HCC : Hid (∀ w' u, Ext X3 w' → (w'.setCell ⟨w.heap.size + 2, 0, none⟩ u).cell? ⟨w.heap.size, 0, none⟩ = some (.slice a1 m1 c1) ∧ (w'.setCell ⟨w.heap.size + 2, 0, none⟩ u).cell? ⟨w.heap.size + 1, 0, none⟩ = some (.slice a2 m2 c2)) := Lib.hid (fun w' u h => by
    rw [World.cell?_setCell_other _ _ _ _ (by intro e; injection e with e1; omega), World.cell?_setCell_other _ _ _ _ (by intro e; injection e with e1; omega)]
    exact HC.out w' h)
  have R : X3.heap[w.heap.size + 2]? = some (.cells #[.slice none 0 0] 25 (0, 0)) := by rw [← hsz2]; exact box_row0 (w := X2) (by rw [hX3]; exact Ext.refl _)
  have HE := Lib.hid (((E1).trans E2).trans E3)
  have HA1 := Lib.hid (fun w' (h : Ext X3 w') => ha1.old (HE.out.trans h))
  have HA2 := Lib.hid (fun w' (h : Ext X3 w') => ha2.old (HE.out.trans h))
  have HX1 := Lib.hid hX1; have HX2 := Lib.hid hX2; have HX3 := Lib.hid hX3; have HR := Lib.hid R; have HSZ := Lib.hid hsz3
  obtain ⟨k1, k2⟩ := HC.out X3.drew (Ext.refl _).drew
  clear hX1 E1 hX2 E2 hX3 E3 R ha1 ha2 hsz3
  go_enter Tryz.func37, Tryz.ntmps37
  go_wp2_with (first | rw [HX1.out] | rw [HX2.out] | rw [HX3.out])
  clear k1 k2
  go_region_held3 (fun w' => w'.cell? ⟨w.heap.size, 0, none⟩ = some (.slice a1 m1 c1) ∧ w'.cell? ⟨w.heap.size + 1, 0, none⟩ = some (.slice a2 m2 c2))
    (first | exact HC.out _ (Ext.refl _).drew | exact HC.out _ (by assumption) | exact HCC.out _ _ (by assumption))
    (first
      | (go_at_call 53; refine (rone_calls _).mono ?_; rintro e w6 ⟨o6, n6, c6, rfl, hown6, hext6, hno6⟩; have EX6 : Ext X3 w6 := (Ext.refl X3).drew.trans hext6)
      | (go_at_call 59; refine (rmuldiv_at (val xs1) (val xs2) U36 (HA1.out _ EX6) (HA2.out _ EX6) hown6.sl rfl rfl (val_lim _) U36_ne (by omega) (by omega) (by omega)).mono ?_; rintro e w7 ⟨o7, c7, n7, o8, c8, n8, rfl, hown7, hown8, hext7, hl7, hl8, -⟩; have EX7 : Ext X3 w7 := EX6.trans hext7; have hr9 := rowE EX7 HR.out; have l1 : w7.cell? ⟨w.heap.size + 2, 0, none⟩ = some (.slice none 0 0) := (by rw [cell_of_row _ _ _ _ _ _ hr9]; rfl); have l2 : w7.frozen? ⟨w.heap.size + 2, 0, none⟩ = false := frozen_of_row _ _ _ _ _ hr9))
  have HR7 := Lib.hid (rowE EX7 HR.out)
  have z1 := HSZ.out
  have z2 : w6.heap.size ≥ X3.heap.size := by first | exact Nat.le_refl _ | exact (by assumption : Ext X3 w6).size
  have HO := Lib.hid hown7; have HE7 := Lib.hid (HE.out.trans EX7)
  go_wp2_with fail
  try simp only [Exit.inBlock, Exit.then]
  refine bodyPost_ret (results_box1 rfl _ _ _ _ rfl (load_dec (heap_setCell_same w7 _ 0 _ _ (.slice o7 n7 c7) HR7.out))) rfl ?_
  exact ⟨o7, n7, c7, rfl, (HO.out.box _ (by omega)).mono (by omega), box_store _ HE7.out (by omega), by omega⟩

set_option maxHeartbeats 4000000 in
set_option maxRecDepth 100000 in
theorem rdquo_zero {a1 a2 : Option Addr} {m1 c1 m2 c2 : Nat} {xs1 xs2 : List Nat} {w : World} (ha1 : Sl w a1 m1 c1 xs1) (ha2 : Sl w a2 m2 c2 xs2) (hm1 : m1 ≤ 1000000) (hm2 : m2 ≤ 1000000) (h0 : val xs2 = 0) :
    Calls Tryz.prog 27 #[DecV a1 m1 c1, DecV a2 m2 c2] w (NewDE w 0 [] 21) := by
  obtain ⟨X1, hX1⟩ : ∃ X, w.alloc (.cells #[.slice a1 m1 c1] 25) = X := ⟨_, rfl⟩
  obtain ⟨X2, hX2⟩ : ∃ X, X1.alloc (.cells #[.slice a2 m2 c2] 25) = X := ⟨_, rfl⟩
  obtain ⟨X3, hX3⟩ : ∃ X, X2.alloc (.cells #[.slice none 0 0] 25) = X := ⟨_, rfl⟩
  have hsz1 : X1.heap.size = w.heap.size + 1 := by rw [← hX1, alloc_size]
  have hsz2 : X2.heap.size = w.heap.size + 2 := by rw [← hX2, alloc_size, hsz1]
  have hsz3 : X3.heap.size = w.heap.size + 3 := by rw [← hX3, alloc_size, hsz2]
  have E1 : Ext w X1 := by rw [← hX1]; exact (Ext.refl w).alloc _
  have E2 : Ext X1 X2 := by rw [← hX2]; exact (Ext.refl X1).alloc _
  have E3 : Ext X2 X3 := by rw [← hX3]; exact (Ext.refl X2).alloc _
  have HC : Hid (∀ w', Ext X3 w' → w'.cell? ⟨w.heap.size, 0, none⟩ = some (.slice a1 m1 c1) ∧ w'.cell? ⟨w.heap.size + 1, 0, none⟩ = some (.slice a2 m2 c2)) := Lib.hid (fun w' h => by
    have c1' := box_cell (w := w) (w' := w') (v := .slice a1 m1 c1) (T := 25) (by rw [hX1]; exact ((E2).trans E3).trans h)
    have c2' := box_cell (w := X1) (w' := w') (v := .slice a2 m2 c2) (T := 25) (by rw [hX2]; exact (E3).trans h)
    rw [hsz1] at c2'
    exact ⟨c1', c2'⟩)
  have HCC : Hid (∀ w' u, Ext X3 w' → (w'.setCell ⟨w.heap.size + 2, 0, none⟩ u).cell? ⟨w.heap.size, 0, none⟩ = some (.slice a1 m1 c1) ∧ (w'.setCell ⟨w.heap.size + 2, 0, none⟩ u).cell? ⟨w.heap.size + 1, 0, none⟩ = some (.slice a2 m2 c2)) := Lib.hid (fun w' u h => by
    rw [World.cell?_setCell_other _ _ _ _ (by intro e; injection e with e1; omega), World.cell?_setCell_other _ _ _ _ (by intro e; injection e with e1; omega)]
    exact HC.out w' h)
  have R : X3.heap[w.heap.size + 2]? = some (.cells #[.slice none 0 0] 25 (0, 0)) := by rw [← hsz2]; exact box_row0 (w := X2) (by rw [hX3]; exact Ext.refl _)
  have HE := Lib.hid (((E1).trans E2).trans E3)
  have HA1 := Lib.hid (fun w' (h : Ext X3 w') => ha1.old (HE.out.trans h))
  have HA2 := Lib.hid (fun w' (h : Ext X3 w') => ha2.old (HE.out.trans h))
  have HX1 := Lib.hid hX1; have HX2 := Lib.hid hX2; have HX3 := Lib.hid hX3; have HR := Lib.hid R; have HSZ := Lib.hid hsz3
  obtain ⟨k1, k2⟩ := HC.out X3.drew (Ext.refl _).drew
  clear hX1 E1 hX2 E2 hX3 E3 R ha1 ha2 hsz3
  have H0 := Lib.hid h0; clear h0
  go_enter Tryz.func27, Tryz.ntmps27
  go_wp2_with (first | rw [HX1.out] | rw [HX2.out] | rw [HX3.out])
  clear k1 k2
  go_region_held3 (fun w' => w'.cell? ⟨w.heap.size, 0, none⟩ = some (.slice a1 m1 c1) ∧ w'.cell? ⟨w.heap.size + 1, 0, none⟩ = some (.slice a2 m2 c2))
    (first | exact HC.out _ (Ext.refl _).drew | exact HC.out _ (by assumption) | exact HCC.out _ _ (by assumption))
    (first
      | (go_at_call 53; refine (rone_calls _).mono ?_; rintro e w6 ⟨o6, n6, c6, rfl, hown6, hext6, hno6⟩; have EX6 : Ext X3 w6 := (Ext.refl X3).drew.trans hext6)
      | (go_at_call 59; have CQ := rmuldiv_calls (HA1.out _ EX6) hown6.sl (HA2.out _ EX6) (by omega) (by omega) (by omega); rw [val_lim] at CQ; unfold quoL remL divE at CQ; rw [if_pos H0.out, if_pos H0.out, if_pos H0.out] at CQ; refine CQ.mono ?_; rintro e w7 ⟨o7, c7, n7, o8, c8, n8, rfl, hown7, hown8, hext7, hl7, hl8, -⟩; have EX7 : Ext X3 w7 := EX6.trans hext7; have hr9 := rowE EX7 HR.out; have l1 : w7.cell? ⟨w.heap.size + 2, 0, none⟩ = some (.slice none 0 0) := (by rw [cell_of_row _ _ _ _ _ _ hr9]; rfl); have l2 : w7.frozen? ⟨w.heap.size + 2, 0, none⟩ = false := frozen_of_row _ _ _ _ _ hr9))
  have HR7 := Lib.hid (rowE EX7 HR.out)
  have z1 := HSZ.out
  have z2 : w6.heap.size ≥ X3.heap.size := by first | exact Nat.le_refl _ | exact (by assumption : Ext X3 w6).size
  have HO := Lib.hid hown7; have HE7 := Lib.hid (HE.out.trans EX7)
  go_wp2_with fail
  try simp only [Exit.inBlock, Exit.then]
  refine bodyPost_ret (results_box2 rfl _ _ _ _ rfl (load_dec (heap_setCell_same w7 _ 0 _ _ (.slice none 0 0) HR7.out))) rfl ?_
  exact ⟨none, 0, 0, rfl, Own.nil _ _, box_store _ HE7.out (by omega), by omega⟩

set_option maxHeartbeats 4000000 in
set_option maxRecDepth 100000 in
theorem rdquo_pos {a1 a2 : Option Addr} {m1 c1 m2 c2 : Nat} {xs1 xs2 : List Nat} {w : World} (ha1 : Sl w a1 m1 c1 xs1) (ha2 : Sl w a2 m2 c2 xs2) (hm1 : m1 ≤ 1000000) (hm2 : m2 ≤ 1000000) (h0 : val xs2 ≠ 0) :
    Calls Tryz.prog 27 #[DecV a1 m1 c1, DecV a2 m2 c2] w (NewDE w (4 * m1 + 8 + 2 * m2) (lim (val xs1 * U36 / val xs2)) 0) := by
  obtain ⟨X1, hX1⟩ : ∃ X, w.alloc (.cells #[.slice a1 m1 c1] 25) = X := ⟨_, rfl⟩
  obtain ⟨X2, hX2⟩ : ∃ X, X1.alloc (.cells #[.slice a2 m2 c2] 25) = X := ⟨_, rfl⟩
  obtain ⟨X3, hX3⟩ : ∃ X, X2.alloc (.cells #[.slice none 0 0] 25) = X := ⟨_, rfl⟩
  have hsz1 : X1.heap.size = w.heap.size + 1 := by rw [← hX1, alloc_size]
  have hsz2 : X2.heap.size = w.heap.size + 2 := by rw [← hX2, alloc_size, hsz1]
  have hsz3 : X3.heap.size = w.heap.size + 3 := by rw [← hX3, alloc_size, hsz2]
  have E1 : Ext w X1 := by rw [← hX1]; exact (Ext.refl w).alloc _
  have E2 : Ext X1 X2 := by rw [← hX2]; exact (Ext.refl X1).alloc _
  have E3 : Ext X2 X3 := by rw [← hX3]; exact (Ext.refl X2).alloc _
  have HC : Hid (∀ w', Ext X3 w' → w'.cell? ⟨w.heap.size, 0, none⟩ = some (.slice a1 m1 c1) ∧ w'.cell? ⟨w.heap.size + 1, 0, none⟩ = some (.slice a2 m2 c2)) := Lib.hid (fun w' h => by
    have c1' := box_cell (w := w) (w' := w') (v := .slice a1 m1 c1) (T := 25) (by rw [hX1]; exact ((E2).trans E3).trans h)
    have c2' := box_cell (w := X1) (w' := w') (v := .slice a2 m2 c2) (T := 25) (by rw [hX2]; exact (E3).trans h)
    rw [hsz1] at c2'
    exact ⟨c1', c2'⟩)
  have HCC : Hid (∀ w' u, Ext X3 w' → (w'.setCell ⟨w.heap.size + 2, 0, none⟩ u).cell? ⟨w.heap.size, 0, none⟩ = some (.slice a1 m1 c1) ∧ (w'.setCell ⟨w.heap.size + 2, 0, none⟩ u).cell? ⟨w.heap.size + 1, 0, none⟩ = some (.slice a2 m2 c2)) := Lib.hid (fun w' u h => by
    rw [World.cell?_setCell_other _ _ _ _ (by intro e; injection e with e1; omega), World.cell?_setCell_other _ _ _ _ (by intro e; injection e with e1; omega)]
    exact HC.out w' h)
  have R : X3.heap[w.heap.size + 2]? = some (.cells #[.slice none 0 0] 25 (0, 0)) := by rw [← hsz2]; exact box_row0 (w := X2) (by rw [hX3]; exact Ext.refl _)
  have HE := Lib.hid (((E1).trans E2).trans E3)
  have HA1 := Lib.hid (fun w' (h : Ext X3 w') => ha1.old (HE.out.trans h))
  have HA2 := Lib.hid (fun w' (h : Ext X3 w') => ha2.old (HE.out.trans h))
  have HX1 := Lib.hid hX1; have HX2 := Lib.hid hX2; have HX3 := Lib.hid hX3; have HR := Lib.hid R; have HSZ := Lib.hid hsz3
  obtain ⟨k1, k2⟩ := HC.out X3.drew (Ext.refl _).drew
  clear hX1 E1 hX2 E2 hX3 E3 R ha1 ha2 hsz3
  have H0 := Lib.hid h0; clear h0
  go_enter Tryz.func27, Tryz.ntmps27
  go_wp2_with (first | rw [HX1.out] | rw [HX2.out] | rw [HX3.out])
  clear k1 k2
  go_region_held3 (fun w' => w'.cell? ⟨w.heap.size, 0, none⟩ = some (.slice a1 m1 c1) ∧ w'.cell? ⟨w.heap.size + 1, 0, none⟩ = some (.slice a2 m2 c2))
    (first | exact HC.out _ (Ext.refl _).drew | exact HC.out _ (by assumption) | exact HCC.out _ _ (by assumption))
    (first
      | (go_at_call 53; refine (rone_calls _).mono ?_; rintro e w6 ⟨o6, n6, c6, rfl, hown6, hext6, hno6⟩; have EX6 : Ext X3 w6 := (Ext.refl X3).drew.trans hext6)
      | (go_at_call 59; have CQ := rmuldiv_calls (HA1.out _ EX6) hown6.sl (HA2.out _ EX6) (by omega) (by omega) (by omega); rw [val_lim] at CQ; unfold quoL remL divE at CQ; rw [if_neg H0.out, if_neg H0.out, if_neg H0.out] at CQ; refine CQ.mono ?_; rintro e w7 ⟨o7, c7, n7, o8, c8, n8, rfl, hown7, hown8, hext7, hl7, hl8, -⟩; have EX7 : Ext X3 w7 := EX6.trans hext7; have hr9 := rowE EX7 HR.out; have l1 : w7.cell? ⟨w.heap.size + 2, 0, none⟩ = some (.slice none 0 0) := (by rw [cell_of_row _ _ _ _ _ _ hr9]; rfl); have l2 : w7.frozen? ⟨w.heap.size + 2, 0, none⟩ = false := frozen_of_row _ _ _ _ _ hr9))
  have HR7 := Lib.hid (rowE EX7 HR.out)
  have z1 := HSZ.out
  have z2 : w6.heap.size ≥ X3.heap.size := by first | exact Nat.le_refl _ | exact (by assumption : Ext X3 w6).size
  have HO := Lib.hid hown7; have HE7 := Lib.hid (HE.out.trans EX7)
  go_wp2_with fail
  try simp only [Exit.inBlock, Exit.then]
  refine bodyPost_ret (results_box2 rfl _ _ _ _ rfl (load_dec (heap_setCell_same w7 _ 0 _ _ (.slice o7 n7 c7) HR7.out))) rfl ?_
  exact ⟨o7, n7, c7, rfl, (HO.out.box _ (by omega)).mono (by omega), box_store _ HE7.out (by omega), by omega⟩

set_option maxHeartbeats 4000000 in
set_option maxRecDepth 100000 in
theorem rdover_zero {a1 : Option Addr} {m1 c1 : Nat} {xs1 : List Nat} {w : World} (ha1 : Sl w a1 m1 c1 xs1) (hm1 : m1 ≤ 1000000) {x : Nat} (hx : x < B64) (h0 : x = 0) :
    Calls Tryz.prog 33 #[DecV a1 m1 c1, .int .u64 (x : Int)] w (NewDE w 0 [] 21) := by
  obtain ⟨X1, hX1⟩ : ∃ X, w.alloc (.cells #[.slice a1 m1 c1] 25) = X := ⟨_, rfl⟩
  obtain ⟨X2, hX2⟩ : ∃ X, X1.alloc (.cells #[.slice none 0 0] 25) = X := ⟨_, rfl⟩
  have hsz1 : X1.heap.size = w.heap.size + 1 := by rw [← hX1, alloc_size]
  have hsz2 : X2.heap.size = w.heap.size + 2 := by rw [← hX2, alloc_size, hsz1]
  have E1 : Ext w X1 := by rw [← hX1]; exact (Ext.refl w).alloc _
  have E2 : Ext X1 X2 := by rw [← hX2]; exact (Ext.refl X1).alloc _
  have HC : Hid (∀ w', Ext X2 w' → w'.cell? ⟨w.heap.size, 0, none⟩ = some (.slice a1 m1 c1)) := Lib.hid (fun w' h => by
    have c1' := box_cell (w := w) (w' := w') (v := .slice a1 m1 c1) (T := 25) (by rw [hX1]; exact (E2).trans h)
    exact c1')
  have HCC : Hid (∀ w' u, Ext X2 w' → (w'.setCell ⟨w.heap.size + 1, 0, none⟩ u).cell? ⟨w.heap.size, 0, none⟩ = some (.slice a1 m1 c1)) := Lib.hid (fun w' u h => by
    rw [World.cell?_setCell_other _ _ _ _ (by intro e; injection e with e1; omega)]
    exact HC.out w' h)
  have R : X2.heap[w.heap.size + 1]? = some (.cells #[.slice none 0 0] 25 (0, 0)) := by rw [← hsz1]; exact box_row0 (w := X1) (by rw [hX2]; exact Ext.refl _)
  have HE := Lib.hid ((E1).trans E2)
  have HA1 := Lib.hid (fun w' (h : Ext X2 w') => ha1.old (HE.out.trans h))
  have HX1 := Lib.hid hX1; have HX2 := Lib.hid hX2; have HR := Lib.hid R; have HSZ := Lib.hid hsz2
  have k0 := HC.out X2.drew (Ext.refl _).drew
  clear hX1 E1 hX2 E2 R ha1 hsz2
  have H0 := Lib.hid h0; have HXB := Lib.hid hx; clear h0 hx
  go_enter Tryz.func33, Tryz.ntmps33
  go_wp2_with (first | rw [HX1.out] | rw [HX2.out])
  clear k0
  go_region_held3 (fun w' => w'.cell? ⟨w.heap.size, 0, none⟩ = some (.slice a1 m1 c1))
    (first | exact HC.out _ (Ext.refl _).drew | exact HC.out _ (by assumption) | exact HCC.out _ _ (by assumption))
    (first
      | (go_at_call 49; refine (fof_calls x HXB.out _).mono ?_; rintro e w6 ⟨o6, n6, c6, rfl, hown6, hext6, hno6⟩; have EX6 : Ext X2 w6 := (Ext.refl X2).drew.trans hext6)
      | (go_at_call 60; have CQ := rdivmod_calls (HA1.out _ EX6) hown6.sl (by omega) (by omega); rw [val_lim] at CQ; unfold quoL remL divE at CQ; rw [if_pos H0.out, if_pos H0.out, if_pos H0.out] at CQ; refine CQ.mono ?_; rintro e w7 ⟨o7, c7, n7, o8, c8, n8, rfl, hown7, hown8, hext7, hl7, hl8, -⟩; have EX7 : Ext X2 w7 := EX6.trans hext7; have hr9 := rowE EX7 HR.out; have l1 : w7.cell? ⟨w.heap.size + 1, 0, none⟩ = some (.slice none 0 0) := (by rw [cell_of_row _ _ _ _ _ _ hr9]; rfl); have l2 : w7.frozen? ⟨w.heap.size + 1, 0, none⟩ = false := frozen_of_row _ _ _ _ _ hr9))
  have HR7 := Lib.hid (rowE EX7 HR.out)
  have z1 := HSZ.out
  have z2 : w6.heap.size ≥ X2.heap.size := by first | exact Nat.le_refl _ | exact (by assumption : Ext X2 w6).size
  have HO := Lib.hid hown7; have HE7 := Lib.hid (HE.out.trans EX7)
  go_wp2_with fail
  try simp only [Exit.inBlock, Exit.then]
  refine bodyPost_ret (results_box2 rfl _ _ _ _ rfl (load_dec (heap_setCell_same w7 _ 0 _ _ (.slice none 0 0) HR7.out))) rfl ?_
  exact ⟨none, 0, 0, rfl, Own.nil _ _, box_store _ HE7.out (by omega), by omega⟩

set_option maxHeartbeats 4000000 in
set_option maxRecDepth 100000 in
theorem rdover_pos {a1 : Option Addr} {m1 c1 : Nat} {xs1 : List Nat} {w : World} (ha1 : Sl w a1 m1 c1 xs1) (hm1 : m1 ≤ 1000000) {x : Nat} (hx : x < B64) (h0 : x ≠ 0) :
    Calls Tryz.prog 33 #[DecV a1 m1 c1, .int .u64 (x : Int)] w (NewDE w (2 * m1 + 4) (lim (val xs1 / x)) 0) := by
  obtain ⟨X1, hX1⟩ : ∃ X, w.alloc (.cells #[.slice a1 m1 c1] 25) = X := ⟨_, rfl⟩
  obtain ⟨X2, hX2⟩ : ∃ X, X1.alloc (.cells #[.slice none 0 0] 25) = X := ⟨_, rfl⟩
  have hsz1 : X1.heap.size = w.heap.size + 1 := by rw [← hX1, alloc_size]
  have hsz2 : X2.heap.size = w.heap.size + 2 := by rw [← hX2, alloc_size, hsz1]
  have E1 : Ext w X1 := by rw [← hX1]; exact (Ext.refl w).alloc _
  have E2 : Ext X1 X2 := by rw [← hX2]; exact (Ext.refl X1).alloc _
  have HC : Hid (∀ w', Ext X2 w' → w'.cell? ⟨w.heap.size, 0, none⟩ = some (.slice a1 m1 c1)) := Lib.hid (fun w' h => by
    have c1' := box_cell (w := w) (w' := w') (v := .slice a1 m1 c1) (T := 25) (by rw [hX1]; exact (E2).trans h)
    exact c1')
  have HCC : Hid (∀ w' u, Ext X2 w' → (w'.setCell ⟨w.heap.size + 1, 0, none⟩ u).cell? ⟨w.heap.size, 0, none⟩ = some (.slice a1 m1 c1)) := Lib.hid (fun w' u h => by
    rw [World.cell?_setCell_other _ _ _ _ (by intro e; injection e with e1; omega)]
    exact HC.out w' h)
  have R : X2.heap[w.heap.size + 1]? = some (.cells #[.slice none 0 0] 25 (0, 0)) := by rw [← hsz1]; exact box_row0 (w := X1) (by rw [hX2]; exact Ext.refl _)
  have HE := Lib.hid ((E1).trans E2)
  have HA1 := Lib.hid (fun w' (h : Ext X2 w') => ha1.old (HE.out.trans h))
  have HX1 := Lib.hid hX1; have HX2 := Lib.hid hX2; have HR := Lib.hid R; have HSZ := Lib.hid hsz2
  have k0 := HC.out X2.drew (Ext.refl _).drew
  clear hX1 E1 hX2 E2 R ha1 hsz2
  have H0 := Lib.hid h0; have HXB := Lib.hid hx; clear h0 hx
  go_enter Tryz.func33, Tryz.ntmps33
  go_wp2_with (first | rw [HX1.out] | rw [HX2.out])
  clear k0
  go_region_held3 (fun w' => w'.cell? ⟨w.heap.size, 0, none⟩ = some (.slice a1 m1 c1))
    (first | exact HC.out _ (Ext.refl _).drew | exact HC.out _ (by assumption) | exact HCC.out _ _ (by assumption))
    (first
      | (go_at_call 49; refine (fof_calls x HXB.out _).mono ?_; rintro e w6 ⟨o6, n6, c6, rfl, hown6, hext6, hno6⟩; have EX6 : Ext X2 w6 := (Ext.refl X2).drew.trans hext6)
      | (go_at_call 60; have CQ := rdivmod_calls (HA1.out _ EX6) hown6.sl (by omega) (by omega); rw [val_lim] at CQ; unfold quoL remL divE at CQ; rw [if_neg H0.out, if_neg H0.out, if_neg H0.out] at CQ; refine CQ.mono ?_; rintro e w7 ⟨o7, c7, n7, o8, c8, n8, rfl, hown7, hown8, hext7, hl7, hl8, -⟩; have EX7 : Ext X2 w7 := EX6.trans hext7; have hr9 := rowE EX7 HR.out; have l1 : w7.cell? ⟨w.heap.size + 1, 0, none⟩ = some (.slice none 0 0) := (by rw [cell_of_row _ _ _ _ _ _ hr9]; rfl); have l2 : w7.frozen? ⟨w.heap.size + 1, 0, none⟩ = false := frozen_of_row _ _ _ _ _ hr9))
  have HR7 := Lib.hid (rowE EX7 HR.out)
  have z1 := HSZ.out
  have z2 : w6.heap.size ≥ X2.heap.size := by first | exact Nat.le_refl _ | exact (by assumption : Ext X2 w6).size
  have HO := Lib.hid hown7; have HE7 := Lib.hid (HE.out.trans EX7)
  go_wp2_with fail
  try simp only [Exit.inBlock, Exit.then]
  refine bodyPost_ret (results_box2 rfl _ _ _ _ rfl (load_dec (heap_setCell_same w7 _ 0 _ _ (.slice o7 n7 c7) HR7.out))) rfl ?_
  exact ⟨o7, n7, c7, rfl, (HO.out.box _ (by omega)).mono (by omega), box_store _ HE7.out (by omega), by omega⟩

set_option maxHeartbeats 4000000 in
set_option maxRecDepth 100000 in
theorem rdtrunc_calls {a1 : Option Addr} {m1 c1 : Nat} {xs1 : List Nat} {w : World} (ha1 : Sl w a1 m1 c1 xs1) (hm1 : m1 ≤ 1000000) :
    Calls Tryz.prog 35 #[DecV a1 m1 c1] w (TruncRes w (2 * m1 + 4) (lim (val xs1 / U36)) (lim (val xs1 % U36))) := by
  obtain ⟨X1, hX1⟩ : ∃ X, w.alloc (.cells #[.slice a1 m1 c1] 25) = X := ⟨_, rfl⟩
  obtain ⟨X2, hX2⟩ : ∃ X, X1.alloc (.cells #[.slice none 0 0] 25) = X := ⟨_, rfl⟩
  have hsz1 : X1.heap.size = w.heap.size + 1 := by rw [← hX1, alloc_size]
  have hsz2 : X2.heap.size = w.heap.size + 2 := by rw [← hX2, alloc_size, hsz1]
  have E1 : Ext w X1 := by rw [← hX1]; exact (Ext.refl w).alloc _
  have E2 : Ext X1 X2 := by rw [← hX2]; exact (Ext.refl X1).alloc _
  have HC : Hid (∀ w', Ext X2 w' → w'.cell? ⟨w.heap.size, 0, none⟩ = some (.slice a1 m1 c1)) := Lib.hid (fun w' h => by
    have c1' := box_cell (w := w) (w' := w') (v := .slice a1 m1 c1) (T := 25) (by rw [hX1]; exact (E2).trans h)
    exact c1')
  have HCC : Hid (∀ w' u, Ext X2 w' → (w'.setCell ⟨w.heap.size + 1, 0, none⟩ u).cell? ⟨w.heap.size, 0, none⟩ = some (.slice a1 m1 c1)) := Lib.hid (fun w' u h => by
    rw [World.cell?_setCell_other _ _ _ _ (by intro e; injection e with e1; omega)]
    exact HC.out w' h)
  have R : X2.heap[w.heap.size + 1]? = some (.cells #[.slice none 0 0] 25 (0, 0)) := by rw [← hsz1]; exact box_row0 (w := X1) (by rw [hX2]; exact Ext.refl _)
  have HE := Lib.hid ((E1).trans E2)
  have HA1 := Lib.hid (fun w' (h : Ext X2 w') => ha1.old (HE.out.trans h))
  have HX1 := Lib.hid hX1; have HX2 := Lib.hid hX2; have HR := Lib.hid R; have HSZ := Lib.hid hsz2
  have k0 := HC.out X2.drew (Ext.refl _).drew
  clear hX1 E1 hX2 E2 R ha1 hsz2
  go_enter Tryz.func35, Tryz.ntmps35
  go_wp2_with (first | rw [HX1.out] | rw [HX2.out])
  clear k0
  go_region_held3 (fun w' => w'.cell? ⟨w.heap.size, 0, none⟩ = some (.slice a1 m1 c1))
    (first | exact HC.out _ (Ext.refl _).drew | exact HC.out _ (by assumption) | exact HCC.out _ _ (by assumption))
    (first
      | (go_at_call 53; refine (rone_calls _).mono ?_; rintro e w6 ⟨o6, n6, c6, rfl, hown6, hext6, hno6⟩; have EX6 : Ext X2 w6 := (Ext.refl X2).drew.trans hext6)
      | (go_at_call 60; have CQ := rdivmod_calls (HA1.out _ EX6) hown6.sl (by omega) (by omega); rw [val_lim] at CQ; unfold quoL remL divE at CQ; rw [if_neg U36_ne, if_neg U36_ne, if_neg U36_ne] at CQ; refine CQ.mono ?_; rintro e w7 ⟨o7, c7, n7, o8, c8, n8, rfl, hown7, hown8, hext7, hl7, hl8, -⟩; have EX7 : Ext X2 w7 := EX6.trans hext7; have hr9 := rowE EX7 HR.out; have l1 : w7.cell? ⟨w.heap.size + 1, 0, none⟩ = some (.slice none 0 0) := (by rw [cell_of_row _ _ _ _ _ _ hr9]; rfl); have l2 : w7.frozen? ⟨w.heap.size + 1, 0, none⟩ = false := frozen_of_row _ _ _ _ _ hr9))
  have HR7 := Lib.hid (rowE EX7 HR.out)
  have z1 := HSZ.out
  have z2 : w6.heap.size ≥ X2.heap.size := by first | exact Nat.le_refl _ | exact (by assumption : Ext X2 w6).size
  have HO := Lib.hid hown7; have HO2 := Lib.hid hown8; have HE7 := Lib.hid (HE.out.trans EX7)
  go_wp2_with fail
  try simp only [Exit.inBlock, Exit.then]
  refine bodyPost_ret (results_box3 rfl _ _ _ _ rfl (load_dec (heap_setCell_same w7 _ 0 _ _ (.slice o8 n8 c8) HR7.out))) rfl ?_
  exact ⟨o7, c7, n7, o8, c8, n8, rfl, (HO.out.box _ (by omega)).mono (by omega), (HO2.out.box _ (by omega)).mono (by omega), box_store _ HE7.out (by omega), by omega, by omega⟩

set_option maxHeartbeats 4000000 in
set_option maxRecDepth 100000 in
theorem rdbasis_calls (x : Nat) (hx : x < B64) (w : World) : Calls Tryz.prog 18 #[.int .u64 (x : Int)] w (NewD w 1000 (lim (U36 / 10000 * x))) := by
  have HX := Lib.hid hx
  clear hx
  go_enter Tryz.func18, Tryz.ntmps18
  go_wp2_with fail
  refine (rpow_calls 32 (by omega) _).mono ?_
  rintro e w1 ⟨o1, n1, c1, rfl, hown1, hext1, hno1⟩
  have E0 := (Ext.refl w).alloc (.cells #[.slice none 0 0] 25)
  have hl1 : n1 ≤ 5 := by
    have h := hown1.sl.len
    rw [show lim (10 ^ 32) = [9632337040368467968, 5421010862427] by decide +kernel] at h
    simp only [List.length_cons, List.length_nil] at h
    omega
  have HO1 := Lib.hid hown1.sl; have HE1 := Lib.hid hext1
  clear hown1 hext1
  go_wp2_with fail
  refine (fof_calls x HX.out _).mono ?_
  rintro e w5 ⟨o5, n5, c5, rfl, hown5, hext5, hno5⟩
  have CM := fmul_calls hown5.sl (HO1.out.old hext5) (by omega) (by omega)
  rw [val_lim, val_lim, show x * 10 ^ 32 = U36 / 10000 * x by rw [show U36 / 10000 = 10 ^ 32 by decide +kernel, Nat.mul_comm]] at CM
  have HCM := Lib.hid CM; have HE5 := Lib.hid (HE1.out.trans hext5)
  clear CM hown5 hext5
  go_wp2_with fail
  refine HCM.out.mono ?_
  rintro e w6 ⟨o6, n6, c6, rfl, hown6, hext6, hno6⟩
  have E6 := HE5.out.trans hext6
  have k1 := box_cell E6
  have k2 := box_free E6
  have hs := HE5.out.size
  rw [alloc_size] at hs
  go_wp2_with fail
  try simp only [Exit.inBlock, Exit.then]
  refine bodyPost_ret (results_box1 rfl _ _ _ _ rfl (load_dec (box_row E6 _))) rfl ?_
  exact ⟨o6, n6, c6, rfl, (hown6.box _ (by omega)).mono (by omega), box_store _ (E0.trans E6) (Nat.le_refl _), by omega⟩

set_option maxHeartbeats 4000000 in
set_option maxRecDepth 100000 in
theorem rdmuldiv_zero {a b e : Option Addr} {m n l c d f : Nat} {xs ys zs : List Nat} {w : World} (ha : Sl w a m c xs) (hb : Sl w b n d ys) (he : Sl w e l f zs) (hm : m ≤ 1000000) (hn : n ≤ 1000000) (hl : l ≤ 1000000) (h0 : val zs = 0) :
    Calls Tryz.prog 29 #[DecV a m c, DecV b n d, DecV e l f] w (NewDE w (8 * m + 8 * n + 4 * l + 8) [] 21) := by
  have E3 := W3_ext w (.slice a m c) (.slice b n d) (.slice e l f)
  have E4 := E3.alloc (.cells #[.slice none 0 0] 25)
  have hz := W3_size w (.slice a m c) (.slice b n d) (.slice e l f)
  have CQ := rmuldiv_calls (ha.old E4) (hb.old E4) (he.old E4) (by omega) (by omega) (by omega)
  unfold quoL remL divE at CQ
  rw [if_pos h0, if_pos h0, if_pos h0] at CQ
  generalize val xs * val ys = P at *
  generalize val zs = Z at *
  have CM := Lib.hid CQ
  clear CQ h0 ha hb he
  go_enter Tryz.func29, Tryz.ntmps29
  go_wp2_with fail
  refine CM.out.mono ?_
  rintro e w2 ⟨a1, d1, l1, a2, d2, l2, rfl, hown1, hown2, hext, hl1, hl2, -⟩
  obtain ⟨k1, k2⟩ := box_at hz hext
  obtain ⟨f1, f2, f3⟩ := box_fin E3 hz hext (.slice none 0 0)
  go_wp2_with fail
  try simp only [Exit.inBlock, Exit.then]
  refine bodyPost_ret (results_box2 rfl _ _ _ _ rfl (load_dec f2)) rfl ?_
  exact ⟨none, 0, 0, rfl, Own.nil _ _, f1, by omega⟩

set_option maxHeartbeats 4000000 in
set_option maxRecDepth 100000 in
theorem rdmuldiv_pos {a b e : Option Addr} {m n l c d f : Nat} {xs ys zs : List Nat} {w : World} (ha : Sl w a m c xs) (hb : Sl w b n d ys) (he : Sl w e l f zs) (hm : m ≤ 1000000) (hn : n ≤ 1000000) (hl : l ≤ 1000000) (h0 : val zs ≠ 0) :
    Calls Tryz.prog 29 #[DecV a m c, DecV b n d, DecV e l f] w (NewDE w (8 * m + 8 * n + 4 * l + 8) (lim (val xs * val ys / val zs)) 0) := by
  have E3 := W3_ext w (.slice a m c) (.slice b n d) (.slice e l f)
  have E4 := E3.alloc (.cells #[.slice none 0 0] 25)
  have hz := W3_size w (.slice a m c) (.slice b n d) (.slice e l f)
  have CQ := rmuldiv_calls (ha.old E4) (hb.old E4) (he.old E4) (by omega) (by omega) (by omega)
  unfold quoL remL divE at CQ
  rw [if_neg h0, if_neg h0, if_neg h0] at CQ
  generalize val xs * val ys = P at *
  generalize val zs = Z at *
  have CM := Lib.hid CQ
  clear CQ h0 ha hb he
  go_enter Tryz.func29, Tryz.ntmps29
  go_wp2_with fail
  refine CM.out.mono ?_
  rintro e w2 ⟨a1, d1, l1, a2, d2, l2, rfl, hown1, hown2, hext, hl1, hl2, -⟩
  obtain ⟨k1, k2⟩ := box_at hz hext
  obtain ⟨f1, f2, f3⟩ := box_fin E3 hz hext (.slice a1 l1 d1)
  go_wp2_with fail
  try simp only [Exit.inBlock, Exit.then]
  refine bodyPost_ret (results_box2 rfl _ _ _ _ rfl (load_dec f2)) rfl ?_
  exact ⟨a1, l1, d1, rfl, f3 hown1, f1, by omega⟩

set_option maxHeartbeats 4000000 in
set_option maxRecDepth 100000 in
theorem rdmuldivup_zero {a b e : Option Addr} {m n l c d f : Nat} {xs ys zs : List Nat} {w : World} (ha : Sl w a m c xs) (hb : Sl w b n d ys) (he : Sl w e l f zs) (hm : m ≤ 1000000) (hn : n ≤ 1000000) (hl : l ≤ 1000000) (h0 : val zs = 0) :
    Calls Tryz.prog 31 #[DecV a m c, DecV b n d, DecV e l f] w (NewDE w (8 * m + 8 * n + 4 * l + 8) [] 21) := by
  have E3 := W3_ext w (.slice a m c) (.slice b n d) (.slice e l f)
  have E4 := E3.alloc (.cells #[.slice none 0 0] 25)
  have hz := W3_size w (.slice a m c) (.slice b n d) (.slice e l f)
  have CQ := rmuldiv_calls (ha.old E4) (hb.old E4) (he.old E4) (by omega) (by omega) (by omega)
  unfold quoL remL divE at CQ
  rw [if_pos h0, if_pos h0, if_pos h0] at CQ
  generalize val xs * val ys = P at *
  generalize val zs = Z at *
  have CM := Lib.hid CQ
  clear CQ h0 ha hb he
  go_enter Tryz.func31, Tryz.ntmps31
  go_wp2_with fail
  refine CM.out.mono ?_
  rintro e w2 ⟨a1, d1, l1, a2, d2, l2, rfl, hown1, hown2, hext, hl1, hl2, -⟩
  obtain ⟨k1, k2⟩ := box_at hz hext
  obtain ⟨f1, f2, f3⟩ := box_fin E3 hz hext (.slice none 0 0)
  go_wp2_with fail
  try simp only [Exit.inBlock, Exit.then]
  refine bodyPost_ret (results_box2 rfl _ _ _ _ rfl (load_dec f2)) rfl ?_
  exact ⟨none, 0, 0, rfl, Own.nil _ _, f1, by omega⟩

set_option maxHeartbeats 4000000 in
set_option maxRecDepth 100000 in
theorem rdmuldivup_even {a b e : Option Addr} {m n l c d f : Nat} {xs ys zs : List Nat} {w : World} (ha : Sl w a m c xs) (hb : Sl w b n d ys) (he : Sl w e l f zs) (hm : m ≤ 1000000) (hn : n ≤ 1000000) (hl : l ≤ 1000000) (h0 : val zs ≠ 0) (h1 : val xs * val ys % val zs = 0) :
    Calls Tryz.prog 31 #[DecV a m c, DecV b n d, DecV e l f] w (NewDE w (8 * m + 8 * n + 4 * l + 8) (lim (val xs * val ys / val zs)) 0) := by
  have E3 := W3_ext w (.slice a m c) (.slice b n d) (.slice e l f)
  have E4 := E3.alloc (.cells #[.slice none 0 0] 25)
  have hz := W3_size w (.slice a m c) (.slice b n d) (.slice e l f)
  have CQ := rmuldiv_calls (ha.old E4) (hb.old E4) (he.old E4) (by omega) (by omega) (by omega)
  unfold quoL remL divE at CQ
  rw [if_neg h0, if_neg h0, if_neg h0] at CQ
  generalize val xs * val ys = P at *
  generalize val zs = Z at *
  have CM := Lib.hid CQ
  clear CQ h0 ha hb he
  go_enter Tryz.func31, Tryz.ntmps31
  go_wp2_with fail
  refine CM.out.mono ?_
  rintro e w2 ⟨a1, d1, l1, a2, d2, l2, rfl, hown1, hown2, hext, hl1, hl2, -⟩
  have hl0 : l2 = 0 := by rw [← hown2.sl.len, lim_zero_iff]; exact h1
  subst hl0
  clear h1
  obtain ⟨k1, k2⟩ := box_at hz hext
  obtain ⟨f1, f2, f3⟩ := box_fin E3 hz hext (.slice a1 l1 d1)
  go_wp2_with fail
  try simp only [Exit.inBlock, Exit.then]
  refine bodyPost_ret (results_box2 rfl _ _ _ _ rfl (load_dec f2)) rfl ?_
  exact ⟨a1, l1, d1, rfl, f3 hown1, f1, by omega⟩

set_option maxHeartbeats 4000000 in
set_option maxRecDepth 100000 in
theorem rdmuldivup_odd {a b e : Option Addr} {m n l c d f : Nat} {xs ys zs : List Nat} {w : World} (ha : Sl w a m c xs) (hb : Sl w b n d ys) (he : Sl w e l f zs) (hm : m ≤ 1000000) (hn : n ≤ 1000000) (hl : l ≤ 1000000) (h0 : val zs ≠ 0) (h1 : val xs * val ys % val zs ≠ 0) :
    Calls Tryz.prog 31 #[DecV a m c, DecV b n d, DecV e l f] w (NewDE w (8 * m + 8 * n + 4 * l + 8) (lim (val xs * val ys / val zs + 1)) 0) := by
  have E3 := W3_ext w (.slice a m c) (.slice b n d) (.slice e l f)
  have E4 := E3.alloc (.cells #[.slice none 0 0] 25)
  have hz := W3_size w (.slice a m c) (.slice b n d) (.slice e l f)
  have CQ := rmuldiv_calls (ha.old E4) (hb.old E4) (he.old E4) (by omega) (by omega) (by omega)
  unfold quoL remL divE at CQ
  rw [if_neg h0, if_neg h0, if_neg h0] at CQ
  generalize val xs * val ys = P at *
  generalize val zs = Z at *
  have CM := Lib.hid CQ
  clear CQ h0 ha hb he
  go_enter Tryz.func31, Tryz.ntmps31
  go_wp2_with fail
  refine CM.out.mono ?_
  rintro e w2 ⟨a1, d1, l1, a2, d2, l2, rfl, hown1, hown2, hext, hl1, hl2, -⟩
  have hl0 : 0 < l2 := Nat.pos_of_ne_zero fun h => h1 (lim_zero_iff.1 (by rw [hown2.sl.len]; exact h))
  have g1 : (0 : Int) < (l2 : Int) := by omega
  have HO1 := Lib.hid hown1.sl; have HE2 := Lib.hid hext
  clear hown1 hown2 hext h1 hl0
  go_wp2_with fail
  refine (fof_calls 1 (by decide) _).mono ?_
  rintro e w3 ⟨o3, n3, c3, rfl, hown3, hext3, hno3⟩
  have CA := fadd_calls (HO1.out.old hext3) hown3.sl (by omega) (by omega)
  rw [val_lim, val_lim] at CA
  have HCA := Lib.hid CA; have HE3 := Lib.hid (HE2.out.trans hext3)
  clear CA hown3 hext3
  go_wp2_with fail
  refine HCA.out.mono ?_
  rintro e w4 ⟨o4, n4, c4, rfl, hown4, hext4, hno4⟩
  have hs4 := HE3.out.size
  obtain ⟨k1, k2⟩ := box_at hz (HE3.out.trans hext4)
  obtain ⟨f1, f2, f3⟩ := box_fin E3 hz (HE3.out.trans hext4) (.slice o4 n4 c4)
  go_wp2_with fail
  try simp only [Exit.inBlock, Exit.then]
  refine bodyPost_ret (results_box2 rfl _ _ _ _ rfl (load_dec f2)) rfl ?_
  exact ⟨o4, n4, c4, rfl, f3 (hown4.mono hs4), f1, by omega⟩

end Go.Proofs.YtifoflicflodcaaGreatDoor
