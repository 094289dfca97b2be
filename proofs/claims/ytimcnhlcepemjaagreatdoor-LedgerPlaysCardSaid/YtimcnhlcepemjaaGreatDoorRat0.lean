
/- rat.Of, made, read, OfNat. -/
import Derived.Test.YtimcnhlcepemjaaGreatDoorMC
import Derived.Test.YtimcnhlcepemjaaGreatDoorMD
namespace Go.Proofs.YtimcnhlcepemjaaGreatDoor
open Go.RowKit

/-- A fraction as a value. -/
abbrev RatV (a : Option Addr) (n c : Nat) (b : Option Addr) (m d : Nat) : Value := .agg #[.slice a n c, .slice b m d]
/-- A new fraction. -/
def NewR (w : World) (L M : Nat) (xs ys : List Nat) (e : Ending) (w' : World) : Prop :=
  ∃ a n c b m d, e = .returned (RatV a n c b m d) ∧ Own w.heap.size w' a n c xs ∧ Own w.heap.size w' b m d ys ∧ Ext w w' ∧ n ≤ L ∧ m ≤ M
/-- .. and an error that is a number. -/
def NewRE (w : World) (L M : Nat) (xs ys : List Nat) (er : Int) (e : Ending) (w' : World) : Prop :=
  ∃ a n c b m d, e = .returned (.tuple #[RatV a n c b m d, .int .i64 er]) ∧ Own w.heap.size w' a n c xs ∧ Own w.heap.size w' b m d ys ∧ Ext w w' ∧ n ≤ L ∧ m ≤ M

/-! A variable of two cells. -/
theorem box2_row {w w' : World} {u v : Value} {T : TypeId} (E : Ext (w.alloc (.cells #[u, v] T (0, 0))) w') : w'.heap[w.heap.size]? = some (.cells #[u, v] T (0, 0)) := by
  rw [E.block _ (by rw [World.size_alloc]; exact Nat.lt_succ_self _)]; exact heap_alloc_new w _
theorem rowE {w w' : World} {B : Nat} {o : Obj} (h : Ext w w') (r : w.heap[B]? = some o) : w'.heap[B]? = some o := by
  rw [h.block B (Array.getElem?_eq_some_iff.1 r).1]; exact r
theorem row2_cells {w : World} {B : Nat} {u v : Value} {T : TypeId} (h : w.heap[B]? = some (.cells #[u, v] T (0, 0))) :
    w.cell? ⟨B, 0, none⟩ = some u ∧ w.cell? ⟨B, 1, none⟩ = some v ∧ w.frozen? ⟨B, 0, none⟩ = false ∧ w.frozen? ⟨B, 1, none⟩ = false :=
  ⟨by rw [cell_of_row _ _ _ _ _ _ h]; rfl, by rw [cell_of_row _ _ _ _ _ _ h]; rfl, frozen_of_row _ _ _ _ _ h, frozen_of_row _ _ _ _ _ h⟩
theorem setCell_by' (w : World) (b k : Nat) (u : Value) : w.grownBy (w.setCell ⟨b, k, none⟩ u) (some b) :=
  ⟨rfl, rfl, rfl, by simp, fun j _ hj => heap_setCell_other w _ j _ (fun e => hj (by simp [e]))⟩
theorem set2_by (w : World) (b : Nat) (u v : Value) : w.grownBy ((w.setCell ⟨b, 0, none⟩ u).setCell ⟨b, 1, none⟩ v) (some b) :=
  grownBy_trans (setCell_by' w b 0 u) (setCell_by' _ b 1 v)
theorem set2_row {w : World} {B : Nat} {p q : Value} {T : TypeId} (h : w.heap[B]? = some (.cells #[p, q] T (0, 0))) (u v : Value) :
    ((w.setCell ⟨B, 0, none⟩ u).setCell ⟨B, 1, none⟩ v).heap[B]? = some (.cells #[u, v] T (0, 0)) :=
  heap_setCell_same _ B 1 _ T v (heap_setCell_same w B 0 _ T u h)
theorem set2_other {w : World} {B C : Nat} {o : Obj} (h : w.heap[C]? = some o) (hne : C ≠ B) (u v : Value) :
    ((w.setCell ⟨B, 0, none⟩ u).setCell ⟨B, 1, none⟩ v).heap[C]? = some o := by
  rw [heap_setCell_other _ _ _ _ (by simpa using hne), heap_setCell_other _ _ _ _ (by simpa using hne)]; exact h
theorem set2_ext {w w' : World} {B : Nat} (E : Ext w w') (hB : w.heap.size ≤ B) (u v : Value) : Ext w ((w'.setCell ⟨B, 0, none⟩ u).setCell ⟨B, 1, none⟩ v) :=
  Below.grown E (set2_by w' B u v) E.size (fun k hk => by cases hk; exact hB)
theorem Own.set2 {C B : Nat} {w' : World} {a : Option Addr} {n c : Nat} {xs : List Nat} (h : Own C w' a n c xs) (u v : Value) (hB : B < C) : Own C ((w'.setCell ⟨B, 0, none⟩ u).setCell ⟨B, 1, none⟩ v) a n c xs :=
  h.grown (set2_by w' B u v) (.inr (fun e => by have := (h.ge B e).1; omega))
theorem set2_size (w : World) (B : Nat) (u v : Value) : ((w.setCell ⟨B, 0, none⟩ u).setCell ⟨B, 1, none⟩ v).heap.size = w.heap.size := by simp
theorem ratSize : (Tryz.prog.info? 40).map (·.size) = some 2 := by kernel_rfl
theorem load_rat {w : World} {g : Nat} {t : TypeId} {u v : Value} (hg : w.heap[g]? = some (.cells #[u, v] t (0, 0))) : (loadVar 40 ⟨g, 0, none⟩).run Tryz.prog w = .ok (.agg #[u, v]) w :=
  run_loadVar_row w g t 40 #[u, v] (0, 0) _ hg Tryz.underlying40 rfl ratSize

set_option maxHeartbeats 2000000 in
set_option maxRecDepth 100000 in
theorem rof_calls {a b : Option Addr} {m n c d : Nat} {xs ys : List Nat} {w : World} (ha : Sl w a m c xs) (hb : Sl w b n d ys) (hm : m ≤ 1000000) (hn : n ≤ 1000000) (htz : TzTab w) (hy : val ys ≠ 0) :
    Calls Tryz.prog 46 #[.slice a m c, .slice b n d] w (NewRE w m n (lim (rN (val xs) (val ys))) (lim (rD (val xs) (val ys))) 0) := by
  obtain ⟨X, hX⟩ : ∃ X, w.alloc (.cells #[.slice none 0 0, .slice none 0 0] 40) = X := ⟨_, rfl⟩
  have E0 : Ext w X := by rw [← hX]; exact (Ext.refl w).alloc _
  have hr0 := fun w' (h : Ext X w') => box2_row (w := w) (w' := w') (u := .slice none 0 0) (v := .slice none 0 0) (T := 40) (by rw [hX]; exact h)
  have hsz : X.heap.size = w.heap.size + 1 := by rw [← hX, alloc_size]
  have HX := Lib.hid hX; have HE0 := Lib.hid E0; have HR0 := Lib.hid hr0; have HSZ := Lib.hid hsz; have HA := Lib.hid ha; have HTZ := Lib.hid htz; have HB := Lib.hid hb; have HY := Lib.hid hy
  have CB := Lib.hid (bits_calls (hb.old E0) (by omega))
  have CG := gcd_calls (ha.old E0) (hb.old E0) (by omega) (by omega) (htz.old E0)
  obtain ⟨x, hx⟩ : ∃ x, val xs = x := ⟨_, rfl⟩
  obtain ⟨y, hyv⟩ : ∃ y, val ys = y := ⟨_, rfl⟩
  rw [hx, hyv] at CG ⊢
  obtain ⟨g, hg⟩ : ∃ g, Nat.gcd x y = g := ⟨_, rfl⟩
  rw [hg] at CG
  have HCG := Lib.hid CG; have HG := Lib.hid hg; have HXV := Lib.hid hx; have HYV := Lib.hid hyv
  have hb0 : ((bitLen (val ys) : Int) == 0) = false := by
    rw [beq_eq_false_iff_ne]; have := bitLen_pos hy; omega
  clear hX E0 hr0 hsz ha hb htz hy CG hg hx hyv
  go_enter Tryz.func46, Tryz.ntmps46
  go_wp2_with (rw [HX.out])
  refine CB.out.mono ?_
  rintro e w' ⟨rfl, rfl⟩
  go_wp2_with fail
  refine HCG.out.mono ?_
  rintro e w1 ⟨o1, n1, c1, rfl, hown1, hext1, hno1⟩
  have hgp : 0 < g := by rw [← HG.out]; exact gcd_posR (Nat.pos_of_ne_zero (by rw [← HYV.out]; exact HY.out))
  have CD := divmod_pos (HA.out.old (HE0.out.trans hext1)) hown1.sl (by omega) (by omega) (by rw [val_lim]; omega)
  rw [val_lim, HXV.out] at CD
  have HCD := Lib.hid CD; have HO1 := Lib.hid hown1; have HE1 := Lib.hid hext1; have HGP := Lib.hid hgp
  clear CD hown1 hext1 hgp
  go_wp2_with fail
  refine HCD.out.mono ?_
  rintro e w2 ⟨a2, d2, l2, a3, d3, l3, rfl, hown2, hown3, hext2, hl2, hl3, hap2⟩
  have CD := divmod_pos (HB.out.old (HE0.out.trans (HE1.out.trans hext2))) (HO1.out.sl.old hext2) (by omega) (by omega) (by rw [val_lim]; have := HGP.out; omega)
  rw [val_lim, HYV.out] at CD
  have HCD2 := Lib.hid CD; have HO2 := Lib.hid hown2; have HE2 := Lib.hid hext2
  clear CD hown2 hown3 hap2 hext2
  go_wp2_with fail
  refine HCD2.out.mono ?_
  rintro e w3 ⟨a4, d4, l4, a5, d5, l5, rfl, hown4, hown5, hext3, hl4, hl5, hap4⟩
  have EX := HE1.out.trans (HE2.out.trans hext3)
  obtain ⟨k1, k2, k3, k4⟩ := row2_cells (HR0.out w3 EX)
  go_wp2_with fail
  have HX3 := Lib.hid EX
  have HRW := Lib.hid (HR0.out w3 EX)
  clear EX
  try simp only [Exit.inBlock, Exit.then]
  refine bodyPost_ret (results_box2 rfl _ _ _ _ rfl (load_rat (set2_row HRW.out _ _))) rfl ?_
  have e1 : x / g = rN x y := by rw [← HG.out]; rfl
  have e2 : y / g = rD x y := by rw [← HG.out]; rfl
  have hs := HSZ.out
  have hs1 := HE1.out.size
  have hs2 := HE2.out.size
  have hO2 := (HO2.out.old hext3).set2 (.slice a2 l2 d2) (.slice a4 l4 d4) (by omega : w.heap.size < w1.heap.size)
  have hO4 := hown4.set2 (.slice a2 l2 d2) (.slice a4 l4 d4) (by omega : w.heap.size < w2.heap.size)
  rw [e1] at hO2
  rw [e2] at hO4
  exact ⟨a2, l2, d2, a4, l4, d4, rfl, hO2.mono (by omega), hO4.mono (by omega), set2_ext (HE0.out.trans HX3.out) (Nat.le_refl _) _ _, by omega, by omega⟩

set_option maxHeartbeats 2000000 in
set_option maxRecDepth 100000 in
theorem rof_zero {a b : Option Addr} {m n c d : Nat} {ys : List Nat} {w : World} (hb : Sl w b n d ys) (hn : n ≤ 1000000) (hy : val ys = 0) :
    Calls Tryz.prog 46 #[.slice a m c, .slice b n d] w (NewRE w 0 0 [] [] 30) := by
  obtain ⟨X, hX⟩ : ∃ X, w.alloc (.cells #[.slice none 0 0, .slice none 0 0] 40) = X := ⟨_, rfl⟩
  have E0 : Ext w X := by rw [← hX]; exact (Ext.refl w).alloc _
  have hr0 := box2_row (w := w) (w' := X) (u := .slice none 0 0) (v := .slice none 0 0) (T := 40) (by rw [hX]; exact Ext.refl _)
  have HX := Lib.hid hX; have HE0 := Lib.hid E0; have HR0 := Lib.hid hr0
  have CB := bits_calls (hb.old E0) (by omega)
  rw [hy] at CB
  have HCB : Hid (Calls Tryz.prog 80 #[.slice b n d] X (Ret (.int .i64 0) X)) := CB
  obtain ⟨k1, k2, k3, k4⟩ := row2_cells hr0
  clear hX E0 hr0 CB hy
  go_enter Tryz.func46, Tryz.ntmps46
  go_wp2_with (rw [HX.out])
  refine HCB.out.mono ?_
  rintro e w' ⟨rfl, rfl⟩
  go_wp2_with fail
  try simp only [Exit.inBlock, Exit.then]
  refine bodyPost_ret (results_box2 rfl _ _ _ _ rfl (load_rat (set2_row HR0.out _ _))) rfl ?_
  exact ⟨none, 0, 0, none, 0, 0, rfl, Own.nil _ _, Own.nil _ _, set2_ext HE0.out (Nat.le_refl _) _ _, Nat.le_refl _, Nat.le_refl _⟩

set_option maxHeartbeats 2000000 in
set_option maxRecDepth 100000 in
theorem rmade_calls {a b : Option Addr} {m n c d : Nat} {xs ys : List Nat} {w : World} (ha : Sl w a m c xs) (hb : Sl w b n d ys) (hm : m ≤ 1000000) (hn : n ≤ 1000000) (htz : TzTab w) (hy : val ys ≠ 0) :
    Calls Tryz.prog 76 #[.slice a m c, .slice b n d] w (NewR w m n (lim (rN (val xs) (val ys))) (lim (rD (val xs) (val ys)))) := by
  obtain ⟨X, hX⟩ : ∃ X, w.alloc (.cells #[.slice none 0 0, .slice none 0 0] 40) = X := ⟨_, rfl⟩
  have E0 : Ext w X := by rw [← hX]; exact (Ext.refl w).alloc _
  have hr0 := fun w' (h : Ext X w') => box2_row (w := w) (w' := w') (u := .slice none 0 0) (v := .slice none 0 0) (T := 40) (by rw [hX]; exact h)
  have hsz : X.heap.size = w.heap.size + 1 := by rw [← hX, alloc_size]
  have HX := Lib.hid hX; have HE0 := Lib.hid E0; have HR0 := Lib.hid hr0; have HSZ := Lib.hid hsz
  have CB := Lib.hid (rof_calls (ha.old E0) (hb.old E0) hm hn (htz.old E0) hy)
  clear hX E0 hr0 hsz ha hb htz hy
  go_enter Tryz.func76, Tryz.ntmps76
  go_wp2_with (rw [HX.out])
  refine CB.out.mono ?_
  rintro e w1 ⟨a1, n1, c1, b1, m1, d1, rfl, hown1, hown2, hext1, hn1, hm1⟩
  have HRW := Lib.hid (HR0.out _ (hext1.alloc (.cells #[.slice a1 n1 c1, .slice b1 m1 d1] 40)))
  obtain ⟨k1, k2, k3, k4⟩ := row2_cells HRW.out
  have hs := HSZ.out
  have hO1 := ((hown1.old ((Ext.refl _).alloc (.cells #[.slice a1 n1 c1, .slice b1 m1 d1] 40))).set2 (.slice a1 n1 c1) (.slice b1 m1 d1) (by omega : w.heap.size < X.heap.size)).mono (by omega : w.heap.size ≤ X.heap.size)
  have hO2 := ((hown2.old ((Ext.refl _).alloc (.cells #[.slice a1 n1 c1, .slice b1 m1 d1] 40))).set2 (.slice a1 n1 c1) (.slice b1 m1 d1) (by omega : w.heap.size < X.heap.size)).mono (by omega : w.heap.size ≤ X.heap.size)
  have hE := set2_ext ((HE0.out.trans hext1).alloc (.cells #[.slice a1 n1 c1, .slice b1 m1 d1] 40)) (Nat.le_refl _) (.slice a1 n1 c1) (.slice b1 m1 d1)
  have HO1 := Lib.hid hO1; have HO2 := Lib.hid hO2; have HE := Lib.hid hE
  clear hO1 hO2 hE hown1 hown2 hext1
  go_wp2_with fail
  try simp only [Exit.inBlock, Exit.then]
  refine bodyPost_ret (results_box1 rfl _ _ _ _ rfl (load_rat (set2_row HRW.out _ _))) rfl ?_
  exact ⟨a1, n1, c1, b1, m1, d1, rfl, HO1.out, HO2.out, HE.out, hn1, hm1⟩

/-- What is read as 1. -/
theorem lim_one : lim 1 = [1] := lim_small (by omega) (by decide)

set_option maxHeartbeats 2000000 in
set_option maxRecDepth 100000 in
/-- A fraction with a denominator is read as it is. -/
theorem rread_pos {a b : Option Addr} {m n c d : Nat} {ys : List Nat} {w : World} (hb : Sl w b n d ys) (hn : n ≤ 1000000) (hy : val ys ≠ 0) :
    Calls Tryz.prog 78 #[RatV a m c b n d] w (RetE (RatV a m c b n d) w) := by
  obtain ⟨X, hX⟩ : ∃ X, w.alloc (.cells #[.slice a m c, .slice b n d] 40) = X := ⟨_, rfl⟩
  obtain ⟨Y, hY⟩ : ∃ Y, X.alloc (.cells #[.slice none 0 0, .slice none 0 0] 40) = Y := ⟨_, rfl⟩
  have E0 : Ext w X := by rw [← hX]; exact (Ext.refl w).alloc _
  have E1 : Ext X Y := by rw [← hY]; exact (Ext.refl X).alloc _
  have r0 := box2_row (w := w) (w' := Y) (u := .slice a m c) (v := .slice b n d) (T := 40) (by rw [hX]; exact E1)
  have r1 := box2_row (w := X) (w' := Y) (u := .slice none 0 0) (v := .slice none 0 0) (T := 40) (by rw [hY]; exact Ext.refl _)
  have hsz : X.heap.size = w.heap.size + 1 := by rw [← hX, alloc_size]
  rw [hsz] at r1
  have CB := Lib.hid (bits_calls (hb.old (E0.trans E1)) (by omega))
  have hb0 : ((bitLen (val ys) : Int) == 0) = false := by
    rw [beq_eq_false_iff_ne]; have := bitLen_pos hy; omega
  obtain ⟨k1, k2, k3, k4⟩ := row2_cells r0
  obtain ⟨j1, j2, j3, j4⟩ := row2_cells r1
  have HX := Lib.hid hX; have HY := Lib.hid hY; have HE0 := Lib.hid (E0.trans E1); have HR1 := Lib.hid r1
  clear hX hY E0 E1 r0 r1 hb hy
  go_enter Tryz.func78, Tryz.ntmps78
  go_wp2_with (first | rw [HX.out, HY.out] | rw [HX.out] | rw [HY.out])
  refine CB.out.mono ?_
  rintro e w' ⟨rfl, rfl⟩
  go_wp2_with fail
  try simp only [Exit.inBlock, Exit.then]
  refine bodyPost_ret (results_box1 rfl _ _ _ _ rfl (load_rat (set2_row HR1.out _ _))) rfl ?_
  exact ⟨rfl, set2_ext HE0.out (Nat.le_succ _) _ _⟩

set_option maxHeartbeats 2000000 in
set_option maxRecDepth 100000 in
/-- One without is read as 0 by 1. -/
theorem rread_zero {a b : Option Addr} {m n c d : Nat} {ys : List Nat} {w : World} (hb : Sl w b n d ys) (hn : n ≤ 1000000) (hy : val ys = 0) :
    Calls Tryz.prog 78 #[RatV a m c b n d] w (fun e w' => ∃ o, e = .returned (RatV none 0 0 o 1 1) ∧ Own w.heap.size w' o 1 1 [1] ∧ Ext w w') := by
  obtain ⟨X, hX⟩ : ∃ X, w.alloc (.cells #[.slice a m c, .slice b n d] 40) = X := ⟨_, rfl⟩
  obtain ⟨Y, hY⟩ : ∃ Y, X.alloc (.cells #[.slice none 0 0, .slice none 0 0] 40) = Y := ⟨_, rfl⟩
  have E0 : Ext w X := by rw [← hX]; exact (Ext.refl w).alloc _
  have E1 : Ext X Y := by rw [← hY]; exact (Ext.refl X).alloc _
  have hsz : X.heap.size = w.heap.size + 1 := by rw [← hX, alloc_size]
  have hsy : Y.heap.size = w.heap.size + 2 := by rw [← hY, alloc_size, hsz]
  obtain ⟨Z, hZ⟩ : ∃ Z, Y.alloc (.cells #[.int .u64 1] 31) = Z := ⟨_, rfl⟩
  have E2 : Ext Y Z := by rw [← hZ]; exact (Ext.refl Y).alloc _
  have r0 := box2_row (w := w) (w' := Y) (u := .slice a m c) (v := .slice b n d) (T := 40) (by rw [hX]; exact E1)
  have r1 := box2_row (w := X) (w' := Z) (u := .slice none 0 0) (v := .slice none 0 0) (T := 40) (by rw [hY]; exact E2)
  rw [hsz] at r1
  have hown : Own Y.heap.size Z (some ⟨Y.heap.size, 0, none⟩) 1 1 [1] := by rw [← hZ]; exact own_lit Y.heap.size Y 1 (by decide) (Nat.le_refl _)
  have CB := bits_calls (hb.old (E0.trans E1)) (by omega)
  rw [hy] at CB
  have HCB : Hid (Calls Tryz.prog 80 #[.slice b n d] Y (Ret (.int .i64 0) Y)) := CB
  obtain ⟨k1, k2, k3, k4⟩ := row2_cells r0
  obtain ⟨j1, j2, j3, j4⟩ := row2_cells r1
  have HX := Lib.hid hX; have HY := Lib.hid hY; have HZ := Lib.hid hZ; have HE0 := Lib.hid ((E0.trans E1).trans E2); have HR1 := Lib.hid r1; have HO := Lib.hid hown; have HSY := Lib.hid hsy
  clear hX hY hZ E0 E1 E2 r0 r1 hb hy hown CB
  go_enter Tryz.func78, Tryz.ntmps78
  go_wp2_with (first | rw [HX.out, HY.out] | rw [HX.out] | rw [HY.out])
  refine HCB.out.mono ?_
  rintro e w' ⟨rfl, rfl⟩
  go_wp2_with (rw [HZ.out])
  try simp only [Exit.inBlock, Exit.then]
  refine bodyPost_ret (results_box1 rfl _ _ _ _ rfl (load_rat (set2_row HR1.out _ _))) rfl ?_
  have hs := HSY.out
  have hO2 := (HO.out.set2 (.slice none 0 0) (.slice (some ⟨Y.heap.size, 0, none⟩) 1 1) (by omega : w.heap.size + 1 < Y.heap.size)).mono (by omega : w.heap.size ≤ Y.heap.size)
  rw [hs] at hO2
  exact ⟨_, rfl, hO2, set2_ext HE0.out (Nat.le_succ _) _ _⟩

/-- What rat.read returns. -/
def RdC (B : Nat) (w' : World) (a : Option Addr) (m c : Nat) (b : Option Addr) (n d Y : Nat) (a' : Option Addr) (m' c' : Nat) (b' : Option Addr) (n' d' : Nat) : Prop :=
  (Y ≠ 0 ∧ a' = a ∧ m' = m ∧ c' = c ∧ b' = b ∧ n' = n ∧ d' = d) ∨ (Y = 0 ∧ a' = none ∧ m' = 0 ∧ c' = 0 ∧ n' = 1 ∧ d' = 1 ∧ Own B w' b' 1 1 [1])
theorem rread_calls {a b : Option Addr} {m n c d : Nat} {ys : List Nat} {w : World} (hb : Sl w b n d ys) (hn : n ≤ 1000000) :
    Calls Tryz.prog 78 #[RatV a m c b n d] w (fun e w' => ∃ a' m' c' b' n' d', e = .returned (RatV a' m' c' b' n' d') ∧ RdC w.heap.size w' a m c b n d (val ys) a' m' c' b' n' d' ∧ Ext w w') := by
  by_cases hy : val ys = 0
  · refine (rread_zero hb hn hy).mono ?_
    rintro e w' ⟨o, rfl, hown, hext⟩
    exact ⟨none, 0, 0, o, 1, 1, rfl, .inr ⟨hy, rfl, rfl, rfl, rfl, rfl, hown⟩, hext⟩
  · refine (rread_pos hb hn hy).mono ?_
    rintro e w' ⟨rfl, hext⟩
    exact ⟨a, m, c, b, n, d, rfl, .inl ⟨hy, rfl, rfl, rfl, rfl, rfl, rfl⟩, hext⟩
theorem RdC.len {B : Nat} {w' : World} {a b a' b' : Option Addr} {m c n d Y m' c' n' d' : Nat} (h : RdC B w' a m c b n d Y a' m' c' b' n' d') : m' ≤ m ∧ n' ≤ n + 1 := by
  rcases h with ⟨_, _, h1, _, _, h2, _⟩ | ⟨_, _, h1, _, h2, _⟩ <;> omega
/-- A slice that reads as the number X. -/
def SlV (w : World) (a : Option Addr) (n c X : Nat) : Prop := ∃ xs, Sl w a n c xs ∧ val xs = X
theorem SlV.old {w w' : World} {a : Option Addr} {n c X : Nat} (h : SlV w a n c X) (E : Ext w w') : SlV w' a n c X := by
  obtain ⟨xs, h1, h2⟩ := h; exact ⟨xs, h1.old E, h2⟩
theorem RdC.fin {B : Nat} {w' w W : World} {a b a' b' : Option Addr} {m c n d Y X m' c' n' d' : Nat} (h : RdC B w' a m c b n d Y a' m' c' b' n' d')
    (ha : SlV w a m c X) (hb : SlV w b n d Y) (E : Ext w W) (hc : ∀ o, Own B w' o 1 1 [1] → Sl W o 1 1 [1]) : SlV W a' m' c' (dN X Y) ∧ SlV W b' n' d' (dD Y) := by
  rcases h with ⟨h0, rfl, rfl, rfl, rfl, rfl, rfl⟩ | ⟨h0, rfl, rfl, rfl, rfl, rfl, ho⟩
  · have e1 : dN X Y = X := by unfold dN; rw [if_neg h0]
    have e2 : dD Y = Y := by unfold dD; rw [if_neg h0]
    rw [e1, e2]
    exact ⟨ha.old E, hb.old E⟩
  · have e1 : dN X Y = 0 := by unfold dN; rw [if_pos h0]
    have e2 : dD Y = 1 := by unfold dD; rw [if_pos h0]
    rw [e1, e2]
    exact ⟨⟨[], Sl.nil _, by simp [val]⟩, ⟨[1], hc _ ho, by simp [val]⟩⟩
end Go.Proofs.YtimcnhlcepemjaaGreatDoor
