/- rat.OfNat, OfDec, Zero, Floor, Down. -/
import Derived.Test.YtnfjfgfkeigkiaaGreatDoorRat0
import Derived.Test.YtnfjfgfkeigkiaaGreatDoorMid
namespace Go.Proofs.YtnfjfgfkeigkiaaGreatDoor
open Go.RowKit

theorem RdC.one {w XL wA : World} {s : Nat} (hs : w.heap.size = s) (EL : Ext w XL) (hL : s + 1 ≤ XL.heap.size) (EA : Ext XL wA) {a1 b1 p1 s1 : Option Addr} {m1 c1 n1 d1 q1 r1 t1 u1 X1 Y1 B : Nat}
    (k1 : RdC B wA a1 m1 c1 b1 n1 d1 Y1 p1 q1 r1 s1 t1 u1) (hB : XL.heap.size ≤ B) (e1 : SlV w a1 m1 c1 X1) (e2 : SlV w b1 n1 d1 Y1) :
    Ext w ((wA.setCell ⟨s, 0, none⟩ (.slice p1 q1 r1)).setCell ⟨s, 1, none⟩ (.slice s1 t1 u1)) ∧
    SlV ((wA.setCell ⟨s, 0, none⟩ (.slice p1 q1 r1)).setCell ⟨s, 1, none⟩ (.slice s1 t1 u1)) p1 q1 r1 (dN X1 Y1) ∧
    SlV ((wA.setCell ⟨s, 0, none⟩ (.slice p1 q1 r1)).setCell ⟨s, 1, none⟩ (.slice s1 t1 u1)) s1 t1 u1 (dD Y1) := by
  subst hs
  have EW := set2_ext (EL.trans EA) (Nat.le_refl _) (.slice p1 q1 r1) (.slice s1 t1 u1)
  have f1 := k1.fin e1 e2 EW (fun o ho => (ho.set2 _ _ (by omega)).sl)
  exact ⟨EW, f1.1, f1.2⟩

theorem field_dec (o : Option Addr) (n c : Nat) (W : World) : (Instr.field 50 (.agg #[.slice o n c]) 0).run Tryz.prog W = .ok (.slice o n c) W := by kernel_rfl
theorem field_rat (a : Option Addr) (n c : Nat) (b : Option Addr) (m d : Nat) (W : World) : (Instr.field 25 (.agg #[.slice a n c, .slice b m d]) 0).run Tryz.prog W = .ok (.slice a n c) W := by kernel_rfl

set_option maxHeartbeats 2000000 in
set_option maxRecDepth 100000 in
theorem rofnat_calls {a : Option Addr} {m c : Nat} {xs : List Nat} {w : World} (ha : Sl w a m c xs) (hm : m ≤ 1000000) :
    Calls Tryz.prog 27 #[.slice a m c] w (NewR w m 1 (lim (val xs)) (lim 1)) := by
  obtain ⟨X1, hX1⟩ : ∃ X, w.alloc (.cells #[.slice none 0 0, .slice none 0 0] 25) = X := ⟨_, rfl⟩
  have hsz1 : X1.heap.size = w.heap.size + 1 := by rw [← hX1, alloc_size]
  have E1 : Ext w X1 := by rw [← hX1]; exact (Ext.refl w).alloc _
  have R1 : X1.heap[w.heap.size]? = some (.cells #[.slice none 0 0, .slice none 0 0] 25 (0, 0)) := box2_row (w := w) (by rw [hX1]; exact Ext.refl _)
  have CN := Lib.hid (norm_calls (ha.old E1) (by omega))
  have HX1 := Lib.hid hX1; have HR1 := Lib.hid R1; have HE1 := Lib.hid E1
  clear hX1 E1 R1 ha
  go_enter Tryz.func27, Tryz.ntmps27
  go_wp2_with (rw [HX1.out])
  refine CN.out.mono ?_
  rintro e w1 ⟨o1, n1, c1, rfl, hown1, hext1, hno1⟩
  obtain ⟨Z, hZ⟩ : ∃ Z, w1.alloc (.cells #[.int .u64 1] 48) = Z := ⟨_, rfl⟩
  have EZ : Ext w1 Z := by rw [← hZ]; exact (Ext.refl w1).alloc _
  have hown : Own w1.heap.size Z (some ⟨w1.heap.size, 0, none⟩) 1 1 [1] := by rw [← hZ]; exact own_lit w1.heap.size w1 1 (by decide) (Nat.le_refl _)
  have HRZ := Lib.hid (rowE (hext1.trans EZ) HR1.out)
  obtain ⟨k1, k2, k3, k4⟩ := row2_cells HRZ.out
  have HZ := Lib.hid hZ; have HO := Lib.hid hown; have HO1 := Lib.hid (hown1.old EZ); have HE := Lib.hid (hext1.trans EZ); have HSZ := Lib.hid hext1.size
  clear hZ hown EZ hown1 hext1
  go_wp2_with (rw [HZ.out])
  try simp only [Exit.inBlock, Exit.then]
  refine bodyPost_ret (results_box1 rfl _ _ _ _ rfl (load_rat (set2_row HRZ.out _ _))) rfl ?_
  have z1 := HSZ.out
  rw [lim_one]
  exact ⟨_, _, _, _, _, _, rfl, (HO1.out.set2 _ _ (by omega)).mono (by omega), (HO.out.set2 _ _ (by omega)).mono (by omega), set2_ext (HE1.out.trans HE.out) (Nat.le_refl _) _ _, hno1, Nat.le_refl _⟩

set_option maxHeartbeats 2000000 in
set_option maxRecDepth 100000 in
theorem rofdec_calls {a : Option Addr} {m c : Nat} {xs : List Nat} {w : World} (ha : Sl w a m c xs) (hm : m ≤ 100000) (htz : TzTab w) :
    Calls Tryz.prog 36 #[DecV a m c] w (NewR w m 3 (lim (rN (val xs) U36)) (lim (rD (val xs) U36))) := by
  obtain ⟨X1, hX1⟩ : ∃ X, w.alloc (.cells #[.slice a m c] 50) = X := ⟨_, rfl⟩
  obtain ⟨X2, hX2⟩ : ∃ X, X1.alloc (.cells #[.slice none 0 0, .slice none 0 0] 25) = X := ⟨_, rfl⟩
  have hsz1 : X1.heap.size = w.heap.size + 1 := by rw [← hX1, alloc_size]
  have hsz2 : X2.heap.size = w.heap.size + 2 := by rw [← hX2, alloc_size, hsz1]
  have E1 : Ext w X1 := by rw [← hX1]; exact (Ext.refl w).alloc _
  have E2 : Ext X1 X2 := by rw [← hX2]; exact (Ext.refl X1).alloc _
  have HC : Hid (∀ w', Ext X2 w' → w'.cell? ⟨w.heap.size, 0, none⟩ = some (.slice a m c)) := Lib.hid (fun w' h => box_cell (by rw [hX1]; exact E2.trans h))
  have R2 : X2.heap[w.heap.size + 1]? = some (.cells #[.slice none 0 0, .slice none 0 0] 25 (0, 0)) := by rw [← hsz1]; exact box2_row (w := X1) (by rw [hX2]; exact Ext.refl _)
  have HA := Lib.hid (fun w' (h : Ext X2 w') => ha.old ((E1.trans E2).trans h))
  have HX1 := Lib.hid hX1; have HX2 := Lib.hid hX2; have HR2 := Lib.hid R2; have HE := Lib.hid (E1.trans E2); have HSZ := Lib.hid hsz2; have HTZ := Lib.hid htz
  have HCC : Hid (∀ w' u v, Ext X2 w' → ((w'.setCell ⟨w.heap.size + 1, 0, none⟩ u).setCell ⟨w.heap.size + 1, 1, none⟩ v).cell? ⟨w.heap.size, 0, none⟩ = some (.slice a m c)) := Lib.hid (fun w' u v h => by
    rw [World.cell?_setCell_other _ _ _ _ (by intro e; injection e with e1; omega), World.cell?_setCell_other _ _ _ _ (by intro e; injection e with e1; omega)]; exact HC.out w' h)
  clear hX1 hX2 E1 E2 R2 ha htz
  have hfd := field_dec
  go_enter Tryz.func36, Tryz.ntmps36
  go_wp2_with (first | rw [HX1.out] | rw [HX2.out])
  go_region_held3 (fun w' => w'.cell? ⟨w.heap.size, 0, none⟩ = some (.slice a m c))
    (first | exact HC.out _ (Ext.refl _).drew | exact HC.out _ (by assumption) | exact HCC.out _ _ _ (by assumption))
    (first
      | (go_at_call 73; refine (dof_calls 1 (by decide) _).mono ?_; rintro e w1 ⟨o1, n1, c1, rfl, hown1, hext1, hno1⟩; have EX1 : Ext X2 w1 := (Ext.refl X2).drew.trans hext1)
      | (go_at_call 55; refine (rmade_calls (HA.out _ EX1) hown1.sl (by omega) (by omega) (HTZ.out.old (HE.out.trans EX1)) (by rw [val_lim]; unfold U36; decide)).mono ?_; rintro e wG ⟨o7, n7, c7, o8, n8, c8, rfl, hown7, hown8, hext7, hno7, hno8⟩; rw [val_lim, Nat.one_mul] at hown7 hown8; have EwG : Ext X2 wG := EX1.trans hext7; obtain ⟨l1, l2, l3, l4⟩ := row2_cells (rowE EwG HR2.out)))
  have HG7 := Lib.hid (rowE EwG HR2.out); have HO7 := Lib.hid hown7; have HO8 := Lib.hid hown8; have HEG := Lib.hid EwG
  have z3 := HSZ.out; have zz : X2.heap.size ≤ w1.heap.size := EX1.size
  go_wp2_with fail
  try simp only [Exit.inBlock, Exit.then]
  refine bodyPost_ret (results_box1 rfl _ _ _ _ rfl (load_rat (set2_row HG7.out _ _))) rfl ?_
  exact ⟨_, _, _, _, _, _, rfl, (HO7.out.set2 _ _ (by omega)).mono (by omega), (HO8.out.set2 _ _ (by omega)).mono (by omega), set2_ext (HE.out.trans HEG.out) (by omega) _ _, by omega, by omega⟩

set_option maxHeartbeats 2000000 in
set_option maxRecDepth 100000 in
theorem rzero_calls {a b : Option Addr} {m n c d : Nat} {xs ys : List Nat} {w : World} (ha : Sl w a m c xs) (hb : Sl w b n d ys) (hm : m ≤ 100000) (hn : n ≤ 100000) :
    Calls Tryz.prog 28 #[RatV a m c b n d] w (RetE (.bool (decide (dN (val xs) (val ys) = 0))) w) := by
  obtain ⟨X1, hX1⟩ : ∃ X, w.alloc (.cells #[.slice a m c, .slice b n d] 25) = X := ⟨_, rfl⟩
  have E1 : Ext w X1 := by rw [← hX1]; exact (Ext.refl w).alloc _
  have R1 : X1.heap[w.heap.size]? = some (.cells #[.slice a m c, .slice b n d] 25 (0, 0)) := box2_row (w := w) (by rw [hX1]; exact Ext.refl _)
  obtain ⟨k1, k2, k3, k4⟩ := row2_cells R1
  have CR := Lib.hid (rread_calls (a := a) (m := m) (c := c) (hb.old E1) (by omega))
  have V1 := Lib.hid (show SlV w a m c (val xs) from ⟨xs, ha, rfl⟩)
  have V2 := Lib.hid (show SlV w b n d (val ys) from ⟨ys, hb, rfl⟩)
  have HX1 := Lib.hid hX1; have HE1 := Lib.hid E1
  clear hX1 E1 R1 ha hb
  have hfd := field_rat
  go_enter Tryz.func28, Tryz.ntmps28
  go_wp2_with (rw [HX1.out])
  refine CR.out.mono ?_
  rintro e w1 ⟨p, q, r, s, t, u, rfl, hrd, hext⟩
  have f1 := hrd.fin V1.out V2.out (HE1.out.trans hext) (fun o ho => ho.sl)
  have hl := hrd.len
  obtain ⟨zs, hz, hzv⟩ := f1.1
  have CB := bits_calls hz (by omega)
  rw [hzv] at CB
  have HCB := Lib.hid CB
  obtain ⟨N, hN⟩ : ∃ N, dN (val xs) (val ys) = N := ⟨_, rfl⟩
  rw [hN] at HCB
  have hzz : ((bitLen N : Int) == 0) = decide (N = 0) := by
    rw [Bool.eq_iff_iff, beq_iff_eq, decide_eq_true_iff]
    constructor
    · intro h0
      apply Classical.byContradiction
      intro h1
      have := bitLen_pos h1
      omega
    · intro h0; rw [h0]; rfl
  have HZZ := Lib.hid hzz; have HNN := Lib.hid hN; have HEX := Lib.hid (HE1.out.trans hext)
  clear CB hz hzv f1 hrd hext k1 k2 k3 k4 hzz hN
  go_wp2_with fail
  refine HCB.out.mono ?_
  rintro e w' ⟨rfl, rfl⟩
  go_wp2_with fail
  go_ret
  rw [HNN.out]
  exact ⟨by rw [← HZZ.out]; rfl, HEX.out⟩

set_option maxHeartbeats 2000000 in
set_option maxRecDepth 100000 in
theorem rfloor_calls {a b : Option Addr} {m n c d : Nat} {xs ys : List Nat} {w : World} (ha : Sl w a m c xs) (hb : Sl w b n d ys) (hm : m ≤ 100000) (hn : n ≤ 100000) :
    Calls Tryz.prog 29 #[RatV a m c b n d] w (New w m (lim (dN (val xs) (val ys) / dD (val ys)))) := by
  obtain ⟨X1, hX1⟩ : ∃ X, w.alloc (.cells #[.slice a m c, .slice b n d] 25) = X := ⟨_, rfl⟩
  have hsz1 : X1.heap.size = w.heap.size + 1 := by rw [← hX1, alloc_size]
  have E1 : Ext w X1 := by rw [← hX1]; exact (Ext.refl w).alloc _
  have R1 : X1.heap[w.heap.size]? = some (.cells #[.slice a m c, .slice b n d] 25 (0, 0)) := box2_row (w := w) (by rw [hX1]; exact Ext.refl _)
  obtain ⟨k1, k2, k3, k4⟩ := row2_cells R1
  have CR := Lib.hid (rread_calls (a := a) (m := m) (c := c) (hb.old E1) (by omega))
  have V1 := Lib.hid (show SlV w a m c (val xs) from ⟨xs, ha, rfl⟩)
  have V2 := Lib.hid (show SlV w b n d (val ys) from ⟨ys, hb, rfl⟩)
  have HX1 := Lib.hid hX1; have HE1 := Lib.hid E1; have HR1 := Lib.hid R1; have HSZ := Lib.hid hsz1
  clear hX1 E1 R1 ha hb
  go_enter Tryz.func29, Tryz.ntmps29
  go_wp2_with (rw [HX1.out])
  refine CR.out.mono ?_
  rintro e w1 ⟨p, q, r, s, t, u, rfl, hrd, hext⟩
  clear k1 k2 k3 k4
  have hrow := rowE hext HR1.out
  obtain ⟨k1, k2, k3, k4⟩ := row2_cells hrow
  obtain ⟨EW, f1, f2⟩ := RdC.one rfl HE1.out (by have := HSZ.out; omega) hext hrd (Nat.le_refl _) V1.out V2.out
  have hl := hrd.len
  obtain ⟨W4, hW4⟩ : ∃ W, (w1.setCell ⟨w.heap.size, 0, none⟩ (.slice p q r)).setCell ⟨w.heap.size, 1, none⟩ (.slice s t u) = W := ⟨_, rfl⟩
  have hrow4 : W4.heap[w.heap.size]? = some (.cells #[.slice p q r, .slice s t u] 25 (0, 0)) := by rw [← hW4]; exact set2_row hrow _ _
  rw [hW4] at EW f1 f2
  obtain ⟨za, hza, hzav⟩ := f1
  obtain ⟨zb, hzb, hzbv⟩ := f2
  have CD := divmod_pos hza hzb (by omega) (by omega) (by rw [hzbv]; exact Nat.ne_of_gt (dD_pos _))
  rw [hzav, hzbv] at CD
  have HCD := Lib.hid CD
  obtain ⟨j1, j2, j3, j4⟩ := row2_cells hrow4
  have HW4 := Lib.hid hW4; have HEW := Lib.hid EW
  clear CD hza hzb hzav hzbv hrow hrow4 hW4 EW hrd hext
  go_wp2_with (rw [HW4.out])
  refine HCD.out.mono ?_
  rintro e w2 ⟨a2, d2, l2, a3, d3, l3, rfl, hown2, hown3, hext2, hl2, hl3, hap2⟩
  go_wp2_with fail
  go_ret
  exact ⟨a2, l2, d2, rfl, hown2.mono HEW.out.size, HEW.out.trans hext2, by omega⟩

set_option maxHeartbeats 4000000 in
set_option maxRecDepth 100000 in
theorem rdown_calls {a b : Option Addr} {m n c d : Nat} {xs ys : List Nat} {w : World} (ha : Sl w a m c xs) (hb : Sl w b n d ys) (hm : m ≤ 100000) (hn : n ≤ 100000) :
    Calls Tryz.prog 41 #[RatV a m c b n d] w (NewD w (m + 3) (lim (dN (val xs) (val ys) * U36 / dD (val ys)))) := by
  obtain ⟨X1, hX1⟩ : ∃ X, w.alloc (.cells #[.slice a m c, .slice b n d] 25) = X := ⟨_, rfl⟩
  obtain ⟨X2, hX2⟩ : ∃ X, X1.alloc (.cells #[.slice none 0 0] 50) = X := ⟨_, rfl⟩
  have hsz1 : X1.heap.size = w.heap.size + 1 := by rw [← hX1, alloc_size]
  have hsz2 : X2.heap.size = w.heap.size + 2 := by rw [← hX2, alloc_size, hsz1]
  have E1 : Ext w X1 := by rw [← hX1]; exact (Ext.refl w).alloc _
  have E2 : Ext X1 X2 := by rw [← hX2]; exact (Ext.refl X1).alloc _
  have R1 : X2.heap[w.heap.size]? = some (.cells #[.slice a m c, .slice b n d] 25 (0, 0)) := box2_row (w := w) (by rw [hX1]; exact E2)
  have R2 : X2.heap[w.heap.size + 1]? = some (.cells #[.slice none 0 0] 50 (0, 0)) := by rw [← hsz1]; exact box_row0 (w := X1) (by rw [hX2]; exact Ext.refl _)
  obtain ⟨k1, k2, k3, k4⟩ := row2_cells R1
  have CR := Lib.hid (rread_calls (a := a) (m := m) (c := c) (hb.old (E1.trans E2)) (by omega))
  have V1 := Lib.hid (show SlV w a m c (val xs) from ⟨xs, ha, rfl⟩)
  have V2 := Lib.hid (show SlV w b n d (val ys) from ⟨ys, hb, rfl⟩)
  have HX1 := Lib.hid hX1; have HX2 := Lib.hid hX2; have HE1 := Lib.hid (E1.trans E2); have HR1 := Lib.hid R1; have HR2 := Lib.hid R2; have HSZ := Lib.hid hsz2
  clear hX1 hX2 E1 E2 R1 R2 ha hb
  have hfd := field_dec
  go_enter Tryz.func41, Tryz.ntmps41
  go_wp2_with (first | rw [HX1.out] | rw [HX2.out])
  refine CR.out.mono ?_
  rintro e w1 ⟨p, q, r, s, t, u, rfl, hrd, hext⟩
  clear k1 k2 k3 k4
  have hrow := rowE hext HR1.out
  have hrow2 := rowE hext HR2.out
  obtain ⟨k1, k2, k3, k4⟩ := row2_cells hrow
  obtain ⟨EW, f1, f2⟩ := RdC.one rfl HE1.out (by have := HSZ.out; omega) hext hrd (Nat.le_refl _) V1.out V2.out
  have hl := hrd.len
  obtain ⟨W4, hW4⟩ : ∃ W, (w1.setCell ⟨w.heap.size, 0, none⟩ (.slice p q r)).setCell ⟨w.heap.size, 1, none⟩ (.slice s t u) = W := ⟨_, rfl⟩
  have hrow4 : W4.heap[w.heap.size]? = some (.cells #[.slice p q r, .slice s t u] 25 (0, 0)) := by rw [← hW4]; exact set2_row hrow _ _
  have hrow5 : W4.heap[w.heap.size + 1]? = some (.cells #[.slice none 0 0] 50 (0, 0)) := by rw [← hW4]; exact set2_other hrow2 (by omega) _ _
  have hs4 : X2.heap.size ≤ W4.heap.size := by rw [← hW4, set2_size]; exact hext.size
  rw [hW4] at EW f1 f2
  obtain ⟨za, hza, hzav⟩ := f1
  obtain ⟨zb, hzb, hzbv⟩ := f2
  have HA := Lib.hid (fun w' (h : Ext W4 w') => hza.old h); have HB := Lib.hid (fun w' (h : Ext W4 w') => hzb.old h); have HAV := Lib.hid hzav; have HBV := Lib.hid hzbv
  have HS : Hid (∀ w', Ext W4 w' → w'.cell? ⟨w.heap.size, 0, none⟩ = some (.slice p q r) ∧ w'.cell? ⟨w.heap.size, 1, none⟩ = some (.slice s t u)) :=
    Lib.hid (fun w' h => ⟨(row2_cells (rowE h hrow4)).1, (row2_cells (rowE h hrow4)).2.1⟩)
  have HW4 := Lib.hid hW4; have HEW := Lib.hid EW; have HR5 := Lib.hid hrow5; have HS4 := Lib.hid hs4
  clear hza hzb hzav hzbv hrow hrow2 hrow4 hrow5 hW4 EW hrd hext hs4
  go_wp2_with (rw [HW4.out])
  clear k1 k2 k3 k4
  go_region_held3 (fun w' => w'.cell? ⟨w.heap.size, 0, none⟩ = some (.slice p q r) ∧ w'.cell? ⟨w.heap.size, 1, none⟩ = some (.slice s t u))
    (first | exact HS.out _ (Ext.refl _).drew | exact HS.out _ (by assumption))
    (first
      | (go_at_call 73; refine (dof_calls 1 (by decide) _).mono ?_; rintro e w3 ⟨o1, n1, c1, rfl, hown1, hext1, hno1⟩; have EX1 : Ext W4 w3 := (Ext.refl W4).drew.trans hext1)
      | (go_at_call 76; refine (muldiv_calls (HA.out _ EX1) hown1.sl (HB.out _ EX1) (by omega) (by omega) (by omega)).mono ?_; rintro e w5 ⟨a2, d2, l2, a3, d3, l3, rfl, hown2, hown3, hext2, hl2, hl3, hap2⟩; rw [HAV.out, HBV.out, val_lim, Nat.one_mul] at hown2; have EX2 : Ext W4 w5 := EX1.trans hext2))
  have hq : quoL (dN (val xs) (val ys) * U36) (dD (val ys)) = lim (dN (val xs) (val ys) * U36 / dD (val ys)) := by unfold quoL; rw [if_neg (Nat.ne_of_gt (dD_pos _))]
  rw [hq] at hown2
  have HR6 := Lib.hid (rowE EX2 HR5.out)
  have c1 : w5.cell? ⟨w.heap.size + 1, 0, none⟩ = some (.slice none 0 0) := by rw [cell_of_row _ _ _ _ _ _ HR6.out]; rfl
  have c2 : w5.frozen? ⟨w.heap.size + 1, 0, none⟩ = false := frozen_of_row _ _ _ _ _ HR6.out
  have z1 := HSZ.out; have z2 := HS4.out; have z3 : W4.heap.size ≤ w3.heap.size := EX1.size
  have HO2 := Lib.hid hown2; have HEX := Lib.hid EX2
  clear hown2 hown3 hap2 hq
  go_wp2_with fail
  try simp only [Exit.inBlock, Exit.then]
  refine bodyPost_ret (results_box1 rfl _ _ _ _ rfl (load_dec (heap_setCell_same w5 _ 0 _ _ (.slice a2 l2 d2) HR6.out))) rfl ?_
  exact ⟨a2, l2, d2, rfl, (HO2.out.box _ (by omega)).mono (by omega), box_store _ (HEW.out.trans HEX.out) (by omega), by omega⟩

end Go.Proofs.YtnfjfgfkeigkiaaGreatDoor
