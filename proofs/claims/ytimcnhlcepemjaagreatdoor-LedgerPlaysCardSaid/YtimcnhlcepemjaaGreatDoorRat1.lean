
/- rat.Cmp, Add, Sub, Mul, Quo. -/
import Derived.Test.YtimcnhlcepemjaaGreatDoorRat0
import Derived.Test.YtimcnhlcepemjaaGreatDoorMid
namespace Go.Proofs.YtimcnhlcepemjaaGreatDoor
open Go.RowKit

/-- Both parameters as they are read, each in its variable. -/
def RdB (w XL : World) (s : Nat) (W : World) (M1 N1 M2 N2 X1 Y1 X2 Y2 : Nat) : Prop :=
  ∃ (p1 : Option Addr) (q1 r1 : Nat) (s1 : Option Addr) (t1 u1 : Nat) (p2 : Option Addr) (q2 r2 : Nat) (s2 : Option Addr) (t2 u2 : Nat),
    W.heap[s]? = some (.cells #[.slice p1 q1 r1, .slice s1 t1 u1] 40 (0, 0)) ∧ W.heap[s + 1]? = some (.cells #[.slice p2 q2 r2, .slice s2 t2 u2] 40 (0, 0)) ∧
    SlV W p1 q1 r1 (dN X1 Y1) ∧ SlV W s1 t1 u1 (dD Y1) ∧ SlV W p2 q2 r2 (dN X2 Y2) ∧ SlV W s2 t2 u2 (dD Y2) ∧ Ext w W ∧ q1 ≤ M1 ∧ t1 ≤ N1 + 1 ∧ q2 ≤ M2 ∧ t2 ≤ N2 + 1 ∧
    (∀ o, XL.heap[s + 2]? = some o → W.heap[s + 2]? = some o) ∧ XL.heap.size ≤ W.heap.size
theorem RdB.of {w XL wA wB : World} {s : Nat} (hs : w.heap.size = s) (EL : Ext w XL) (hL : s + 2 ≤ XL.heap.size) (EA : Ext XL wA) (EB : Ext wA wB)
    {a1 b1 a2 b2 p1 s1 p2 s2 : Option Addr} {m1 c1 n1 d1 m2 c2 n2 d2 q1 r1 t1 u1 q2 r2 t2 u2 X1 Y1 X2 Y2 B : Nat} {x1 x2 x3 x4 : Value}
    (h1 : XL.heap[s]? = some (.cells #[x1, x2] 40 (0, 0))) (h2 : XL.heap[s + 1]? = some (.cells #[x3, x4] 40 (0, 0)))
    (k1 : RdC B wA a1 m1 c1 b1 n1 d1 Y1 p1 q1 r1 s1 t1 u1) (hB : XL.heap.size ≤ B) (k2 : RdC wA.heap.size wB a2 m2 c2 b2 n2 d2 Y2 p2 q2 r2 s2 t2 u2)
    (e1 : SlV w a1 m1 c1 X1) (e2 : SlV w b1 n1 d1 Y1) (e3 : SlV w a2 m2 c2 X2) (e4 : SlV w b2 n2 d2 Y2) :
    RdB w XL s (((((wB.setCell ⟨s, 0, none⟩ (.slice p1 q1 r1)).setCell ⟨s, 1, none⟩ (.slice s1 t1 u1)).setCell ⟨s + 1, 0, none⟩ (.slice p2 q2 r2)).setCell ⟨s + 1, 1, none⟩ (.slice s2 t2 u2))) m1 n1 m2 n2 X1 Y1 X2 Y2 := by
  subst hs
  have EB' := EA.trans EB
  have g1 := rowE EB' h1
  have g2 := rowE EB' h2
  have z1 := EB'.size
  have z2 := EA.size
  have EW : Ext w ((((wB.setCell ⟨w.heap.size, 0, none⟩ (.slice p1 q1 r1)).setCell ⟨w.heap.size, 1, none⟩ (.slice s1 t1 u1)).setCell ⟨w.heap.size + 1, 0, none⟩ (.slice p2 q2 r2)).setCell ⟨w.heap.size + 1, 1, none⟩ (.slice s2 t2 u2)) :=
    set2_ext (set2_ext (EL.trans EB') (Nat.le_refl _) _ _) (Nat.le_succ _) _ _
  have f1 := k1.fin e1 e2 EW (fun o ho => (((ho.old EB).set2 _ _ (by omega)).set2 _ _ (by omega)).sl)
  have f2 := k2.fin e3 e4 EW (fun o ho => ((ho.set2 _ _ (by omega)).set2 _ _ (by omega)).sl)
  have l1 := k1.len
  have l2 := k2.len
  refine ⟨p1, q1, r1, s1, t1, u1, p2, q2, r2, s2, t2, u2, set2_other (set2_row g1 _ _) (by omega) _ _, set2_row (set2_other g2 (by omega) _ _) _ _, f1.1, f1.2, f2.1, f2.2, EW, l1.1, l1.2, l2.1, l2.2, fun o ho => ?_, ?_⟩
  · exact set2_other (set2_other (rowE EB' ho) (by omega) _ _) (by omega) _ _
  · rw [set2_size, set2_size]; exact z1

set_option maxHeartbeats 8000000 in
set_option maxRecDepth 100000 in
theorem rcmp_calls {a1 b1 a2 b2 : Option Addr} {m1 n1 c1 d1 m2 n2 c2 d2 : Nat} {xs1 ys1 xs2 ys2 : List Nat} {w : World} (ha1 : Sl w a1 m1 c1 xs1) (hb1 : Sl w b1 n1 d1 ys1) (ha2 : Sl w a2 m2 c2 xs2) (hb2 : Sl w b2 n2 d2 ys2)
    (hm1 : m1 ≤ 100000) (hn1 : n1 ≤ 100000) (hm2 : m2 ≤ 100000) (hn2 : n2 ≤ 100000) :
    Calls Tryz.prog 37 #[RatV a1 m1 c1 b1 n1 d1, RatV a2 m2 c2 b2 n2 d2] w (RetE (.int .i64 (cmpN (dN (val xs1) (val ys1) * dD (val ys2)) (dN (val xs2) (val ys2) * dD (val ys1)))) w) := by
  obtain ⟨X1, hX1⟩ : ∃ X, w.alloc (.cells #[.slice a1 m1 c1, .slice b1 n1 d1] 40) = X := ⟨_, rfl⟩
  obtain ⟨X2, hX2⟩ : ∃ X, X1.alloc (.cells #[.slice a2 m2 c2, .slice b2 n2 d2] 40) = X := ⟨_, rfl⟩
  have hsz1 : X1.heap.size = w.heap.size + 1 := by rw [← hX1, alloc_size]
  have hsz2 : X2.heap.size = w.heap.size + 2 := by rw [← hX2, alloc_size, hsz1]
  have E1 : Ext w X1 := by rw [← hX1]; exact (Ext.refl w).alloc _
  have E2 : Ext X1 X2 := by rw [← hX2]; exact (Ext.refl X1).alloc _
  have R1 : X2.heap[w.heap.size]? = some (.cells #[.slice a1 m1 c1, .slice b1 n1 d1] 40 (0, 0)) := box2_row (w := w) (by rw [hX1]; exact E2)
  have R2 : X2.heap[w.heap.size + 1]? = some (.cells #[.slice a2 m2 c2, .slice b2 n2 d2] 40 (0, 0)) := by rw [← hsz1]; exact box2_row (w := X1) (by rw [hX2]; exact Ext.refl _)
  have HEL := Lib.hid (E1.trans E2)
  have HX1 := Lib.hid hX1; have HX2 := Lib.hid hX2
  have HR1 := Lib.hid R1; have HR2 := Lib.hid R2
  have HB1 := Lib.hid (fun w' (h : Ext X2 w') => hb1.old (HEL.out.trans h))
  have HB2 := Lib.hid (fun w' (h : Ext X2 w') => hb2.old (HEL.out.trans h))
  have V1 := Lib.hid (show SlV w a1 m1 c1 (val xs1) from ⟨xs1, ha1, rfl⟩)
  have V2 := Lib.hid (show SlV w b1 n1 d1 (val ys1) from ⟨ys1, hb1, rfl⟩)
  have V3 := Lib.hid (show SlV w a2 m2 c2 (val xs2) from ⟨xs2, ha2, rfl⟩)
  have V4 := Lib.hid (show SlV w b2 n2 d2 (val ys2) from ⟨ys2, hb2, rfl⟩)
  have HSZ := Lib.hid hsz2
  obtain ⟨k1, k2, k3, k4⟩ := row2_cells (rowE (Ext.refl X2).drew R1)
  obtain ⟨j1, j2, j3, j4⟩ := row2_cells (rowE (Ext.refl X2).drew R2)
  obtain ⟨Xv1, hv1⟩ : ∃ X, val xs1 = X := ⟨_, rfl⟩
  obtain ⟨Yv1, hv2⟩ : ∃ X, val ys1 = X := ⟨_, rfl⟩
  obtain ⟨Xv2, hv3⟩ : ∃ X, val xs2 = X := ⟨_, rfl⟩
  obtain ⟨Yv2, hv4⟩ : ∃ X, val ys2 = X := ⟨_, rfl⟩
  have HV1 := Lib.hid hv1; have HV2 := Lib.hid hv2; have HV3 := Lib.hid hv3; have HV4 := Lib.hid hv4
  rw [hv1] at V1; rw [hv2] at V2; rw [hv3] at V3; rw [hv4] at V4
  try simp only [hv1, hv2, hv3, hv4]
  clear hX1 hX2 E1 E2 R1 R2 ha1 hb1 ha2 hb2 hv1 hv2 hv3 hv4
  go_enter Tryz.func37, Tryz.ntmps37
  go_wp2_with (first | rw [HX1.out] | rw [HX2.out])
  refine wp_region_mid (fun A A' W' => A' = putsFrom A A' [5, 6, 7, 8] ∧ RdB w X2 w.heap.size W' m1 n1 m2 n2 Xv1 Yv1 Xv2 Yv2) ?_ ?_
  · go_region_with (first
      | (go_at_call_of 78 a1; refine (rread_calls (HB1.out _ (Ext.refl _).drew) (by omega)).mono ?_; rintro e wA ⟨p1, q1, r1, s1, t1, u1, rfl, hrd1, hextA⟩; have EA : Ext X2 wA := (Ext.refl _).drew.trans hextA; rw [HV2.out] at hrd1; obtain ⟨k5, k6, k7, k8⟩ := row2_cells (rowE EA HR1.out); obtain ⟨j5, j6, j7, j8⟩ := row2_cells (rowE EA HR2.out))
      | (go_at_call_of 78 a2; refine (rread_calls (HB2.out _ EA) (by omega)).mono ?_; rintro e wB ⟨p2, q2, r2, s2, t2, u2, rfl, hrd2, hextB⟩; rw [HV4.out] at hrd2; obtain ⟨k9, k10, k11, k12⟩ := row2_cells (rowE (EA.trans hextB) HR1.out); obtain ⟨j9, j10, j11, j12⟩ := row2_cells (rowE (EA.trans hextB) HR2.out)))
    all_goals exact Mid.mk ⟨by first | kernel_rfl | rfl, RdB.of rfl HEL.out (by have := HSZ.out; omega) EA hextB HR1.out HR2.out hrd1 (Nat.le_refl _) hrd2 V1.out V2.out V3.out V4.out⟩
  rintro A' W4 ⟨hA', p1, q1, r1, s1, t1, u1, p2, q2, r2, s2, t2, u2, G1, G2, v1, v2, v3, v4, EW, hq1, ht1, hq2, ht2, hres, hsize⟩
  simp only [putsFrom, List.foldl_cons, List.foldl_nil] at hA'
  generalize A'.tmps.getD 5 undef = w5 at hA'
  generalize A'.tmps.getD 6 undef = w6 at hA'
  generalize A'.tmps.getD 7 undef = w7 at hA'
  generalize A'.tmps.getD 8 undef = w8 at hA'
  subst hA'
  simp only [Act.put, List.setIfInBounds_toArray, List.set_cons_zero, List.set_cons_succ]
  obtain ⟨xa, hxa, hxav⟩ := v1; obtain ⟨xb, hxb, hxbv⟩ := v2; obtain ⟨xc, hxc, hxcv⟩ := v3; obtain ⟨xd, hxd, hxdv⟩ := v4
  have HP1 := Lib.hid hxa; have HS1 := Lib.hid hxb; have HP2 := Lib.hid hxc; have HS2 := Lib.hid hxd
  have HN1 := Lib.hid hxav; have HD1 := Lib.hid hxbv; have HN2 := Lib.hid hxcv; have HD2 := Lib.hid hxdv
  have HG1 := Lib.hid G1; have HG2 := Lib.hid G2; have HEW := Lib.hid EW; have HSZ4 := Lib.hid hsize
  have HS : Hid (∀ w', Ext W4 w' → w'.cell? ⟨w.heap.size, 0, none⟩ = some (.slice p1 q1 r1) ∧ w'.cell? ⟨w.heap.size, 1, none⟩ = some (.slice s1 t1 u1) ∧ w'.cell? ⟨w.heap.size + 1, 0, none⟩ = some (.slice p2 q2 r2) ∧ w'.cell? ⟨w.heap.size + 1, 1, none⟩ = some (.slice s2 t2 u2)) :=
    Lib.hid (fun w' h => ⟨(row2_cells (rowE h HG1.out)).1, (row2_cells (rowE h HG1.out)).2.1, (row2_cells (rowE h HG2.out)).1, (row2_cells (rowE h HG2.out)).2.1⟩)
  clear k1 k2 k3 k4 j1 j2 j3 j4 hxa hxb hxc hxd hxav hxbv hxcv hxdv G1 G2 EW hsize hres HR1 HR2 HEL HB1 HB2 V1 V2 V3 V4 HX1 HX2
  go_wp2_with fail
  go_region_held3 (fun w' => w'.cell? ⟨w.heap.size, 0, none⟩ = some (.slice p1 q1 r1) ∧ w'.cell? ⟨w.heap.size, 1, none⟩ = some (.slice s1 t1 u1) ∧ w'.cell? ⟨w.heap.size + 1, 0, none⟩ = some (.slice p2 q2 r2) ∧ w'.cell? ⟨w.heap.size + 1, 1, none⟩ = some (.slice s2 t2 u2))
    (first | exact HS.out _ (Ext.refl _).drew | exact HS.out _ (by assumption))
    (first
      | (go_at_call_of 69 p1; refine (mul_calls (HP1.out.old (Ext.refl W4).drew) (HS2.out.old (Ext.refl W4).drew) (by omega) (by omega)).mono ?_; rintro e wC ⟨o3, n3, c3, rfl, hown3, hext3, hno3⟩; rw [HN1.out, HD2.out] at hown3; have EwC : Ext W4 wC := Ext.trans (Ext.refl W4).drew hext3)
      | (go_at_call_of 69 p2; refine (mul_calls (HP2.out.old EwC) (HS1.out.old EwC) (by omega) (by omega)).mono ?_; rintro e wD ⟨o4, n4, c4, rfl, hown4, hext4, hno4⟩; rw [HN2.out, HD1.out] at hown4; have EwD : Ext W4 wD := Ext.trans EwC hext4)
      | (go_at_call 79; refine (cmp_calls (hown3.sl.old hext4) hown4.sl (by omega) (by omega)).mono ?_; rintro e wE ⟨rfl, kE, rfl⟩; rw [val_lim, val_lim]; have EwE : Ext W4 (wD.drewN kE) := EwD.drewN kE))
  go_wp2_with fail
  go_ret
  exact ⟨rfl, HEW.out.trans EwE⟩

set_option maxHeartbeats 8000000 in
set_option maxRecDepth 100000 in
theorem radd_calls {a1 b1 a2 b2 : Option Addr} {m1 n1 c1 d1 m2 n2 c2 d2 : Nat} {xs1 ys1 xs2 ys2 : List Nat} {w : World} (ha1 : Sl w a1 m1 c1 xs1) (hb1 : Sl w b1 n1 d1 ys1) (ha2 : Sl w a2 m2 c2 xs2) (hb2 : Sl w b2 n2 d2 ys2)
    (hm1 : m1 ≤ 100000) (hn1 : n1 ≤ 100000) (hm2 : m2 ≤ 100000) (hn2 : n2 ≤ 100000) (htz : TzTab w) :
    Calls Tryz.prog 53 #[RatV a1 m1 c1 b1 n1 d1, RatV a2 m2 c2 b2 n2 d2] w (NewR w (m1 + n2 + m2 + n1 + 8) (n1 + n2 + 4) (lim (rN (dN (val xs1) (val ys1) * dD (val ys2) + dN (val xs2) (val ys2) * dD (val ys1)) (dD (val ys1) * dD (val ys2)))) (lim (rD (dN (val xs1) (val ys1) * dD (val ys2) + dN (val xs2) (val ys2) * dD (val ys1)) (dD (val ys1) * dD (val ys2))))) := by
  obtain ⟨X1, hX1⟩ : ∃ X, w.alloc (.cells #[.slice a1 m1 c1, .slice b1 n1 d1] 40) = X := ⟨_, rfl⟩
  obtain ⟨X2, hX2⟩ : ∃ X, X1.alloc (.cells #[.slice a2 m2 c2, .slice b2 n2 d2] 40) = X := ⟨_, rfl⟩
  obtain ⟨X3, hX3⟩ : ∃ X, X2.alloc (.cells #[.slice none 0 0, .slice none 0 0] 40) = X := ⟨_, rfl⟩
  have hsz1 : X1.heap.size = w.heap.size + 1 := by rw [← hX1, alloc_size]
  have hsz2 : X2.heap.size = w.heap.size + 2 := by rw [← hX2, alloc_size, hsz1]
  have hsz3 : X3.heap.size = w.heap.size + 3 := by rw [← hX3, alloc_size, hsz2]
  have E1 : Ext w X1 := by rw [← hX1]; exact (Ext.refl w).alloc _
  have E2 : Ext X1 X2 := by rw [← hX2]; exact (Ext.refl X1).alloc _
  have E3 : Ext X2 X3 := by rw [← hX3]; exact (Ext.refl X2).alloc _
  have R1 : X3.heap[w.heap.size]? = some (.cells #[.slice a1 m1 c1, .slice b1 n1 d1] 40 (0, 0)) := box2_row (w := w) (by rw [hX1]; exact (E2.trans E3))
  have R2 : X3.heap[w.heap.size + 1]? = some (.cells #[.slice a2 m2 c2, .slice b2 n2 d2] 40 (0, 0)) := by rw [← hsz1]; exact box2_row (w := X1) (by rw [hX2]; exact E3)
  have R3 : X3.heap[w.heap.size + 2]? = some (.cells #[.slice none 0 0, .slice none 0 0] 40 (0, 0)) := by rw [← hsz2]; exact box2_row (w := X2) (by rw [hX3]; exact Ext.refl _)
  have HEL := Lib.hid ((E1.trans E2).trans E3)
  have HX1 := Lib.hid hX1; have HX2 := Lib.hid hX2; have HX3 := Lib.hid hX3
  have HR1 := Lib.hid R1; have HR2 := Lib.hid R2; have HR3 := Lib.hid R3
  have HB1 := Lib.hid (fun w' (h : Ext X3 w') => hb1.old (HEL.out.trans h))
  have HB2 := Lib.hid (fun w' (h : Ext X3 w') => hb2.old (HEL.out.trans h))
  have V1 := Lib.hid (show SlV w a1 m1 c1 (val xs1) from ⟨xs1, ha1, rfl⟩)
  have V2 := Lib.hid (show SlV w b1 n1 d1 (val ys1) from ⟨ys1, hb1, rfl⟩)
  have V3 := Lib.hid (show SlV w a2 m2 c2 (val xs2) from ⟨xs2, ha2, rfl⟩)
  have V4 := Lib.hid (show SlV w b2 n2 d2 (val ys2) from ⟨ys2, hb2, rfl⟩)
  have HTZ := Lib.hid htz
  have HSZ := Lib.hid hsz3
  obtain ⟨k1, k2, k3, k4⟩ := row2_cells (rowE (Ext.refl X3).drew R1)
  obtain ⟨j1, j2, j3, j4⟩ := row2_cells (rowE (Ext.refl X3).drew R2)
  obtain ⟨Xv1, hv1⟩ : ∃ X, val xs1 = X := ⟨_, rfl⟩
  obtain ⟨Yv1, hv2⟩ : ∃ X, val ys1 = X := ⟨_, rfl⟩
  obtain ⟨Xv2, hv3⟩ : ∃ X, val xs2 = X := ⟨_, rfl⟩
  obtain ⟨Yv2, hv4⟩ : ∃ X, val ys2 = X := ⟨_, rfl⟩
  have HV1 := Lib.hid hv1; have HV2 := Lib.hid hv2; have HV3 := Lib.hid hv3; have HV4 := Lib.hid hv4
  rw [hv1] at V1; rw [hv2] at V2; rw [hv3] at V3; rw [hv4] at V4
  try simp only [hv1, hv2, hv3, hv4]
  clear hX1 hX2 hX3 E1 E2 E3 R3 R1 R2 ha1 hb1 ha2 hb2 hv1 hv2 hv3 hv4 htz
  go_enter Tryz.func53, Tryz.ntmps53
  go_wp2_with (first | rw [HX1.out] | rw [HX2.out] | rw [HX3.out])
  refine wp_region_mid (fun A A' W' => A' = putsFrom A A' [5, 6, 7, 8] ∧ RdB w X3 w.heap.size W' m1 n1 m2 n2 Xv1 Yv1 Xv2 Yv2) ?_ ?_
  · go_region_with (first
      | (go_at_call_of 78 a1; refine (rread_calls (HB1.out _ (Ext.refl _).drew) (by omega)).mono ?_; rintro e wA ⟨p1, q1, r1, s1, t1, u1, rfl, hrd1, hextA⟩; have EA : Ext X3 wA := (Ext.refl _).drew.trans hextA; rw [HV2.out] at hrd1; obtain ⟨k5, k6, k7, k8⟩ := row2_cells (rowE EA HR1.out); obtain ⟨j5, j6, j7, j8⟩ := row2_cells (rowE EA HR2.out))
      | (go_at_call_of 78 a2; refine (rread_calls (HB2.out _ EA) (by omega)).mono ?_; rintro e wB ⟨p2, q2, r2, s2, t2, u2, rfl, hrd2, hextB⟩; rw [HV4.out] at hrd2; obtain ⟨k9, k10, k11, k12⟩ := row2_cells (rowE (EA.trans hextB) HR1.out); obtain ⟨j9, j10, j11, j12⟩ := row2_cells (rowE (EA.trans hextB) HR2.out)))
    all_goals exact Mid.mk ⟨by first | kernel_rfl | rfl, RdB.of rfl HEL.out (by have := HSZ.out; omega) EA hextB HR1.out HR2.out hrd1 (Nat.le_refl _) hrd2 V1.out V2.out V3.out V4.out⟩
  rintro A' W4 ⟨hA', p1, q1, r1, s1, t1, u1, p2, q2, r2, s2, t2, u2, G1, G2, v1, v2, v3, v4, EW, hq1, ht1, hq2, ht2, hres, hsize⟩
  simp only [putsFrom, List.foldl_cons, List.foldl_nil] at hA'
  generalize A'.tmps.getD 5 undef = w5 at hA'
  generalize A'.tmps.getD 6 undef = w6 at hA'
  generalize A'.tmps.getD 7 undef = w7 at hA'
  generalize A'.tmps.getD 8 undef = w8 at hA'
  subst hA'
  simp only [Act.put, List.setIfInBounds_toArray, List.set_cons_zero, List.set_cons_succ]
  obtain ⟨xa, hxa, hxav⟩ := v1; obtain ⟨xb, hxb, hxbv⟩ := v2; obtain ⟨xc, hxc, hxcv⟩ := v3; obtain ⟨xd, hxd, hxdv⟩ := v4
  have HP1 := Lib.hid hxa; have HS1 := Lib.hid hxb; have HP2 := Lib.hid hxc; have HS2 := Lib.hid hxd
  have HN1 := Lib.hid hxav; have HD1 := Lib.hid hxbv; have HN2 := Lib.hid hxcv; have HD2 := Lib.hid hxdv
  have HG1 := Lib.hid G1; have HG2 := Lib.hid G2; have HEW := Lib.hid EW; have HSZ4 := Lib.hid hsize
  have HG3 := Lib.hid (hres _ HR3.out)
  have HS : Hid (∀ w', Ext W4 w' → w'.cell? ⟨w.heap.size, 0, none⟩ = some (.slice p1 q1 r1) ∧ w'.cell? ⟨w.heap.size, 1, none⟩ = some (.slice s1 t1 u1) ∧ w'.cell? ⟨w.heap.size + 1, 0, none⟩ = some (.slice p2 q2 r2) ∧ w'.cell? ⟨w.heap.size + 1, 1, none⟩ = some (.slice s2 t2 u2)) :=
    Lib.hid (fun w' h => ⟨(row2_cells (rowE h HG1.out)).1, (row2_cells (rowE h HG1.out)).2.1, (row2_cells (rowE h HG2.out)).1, (row2_cells (rowE h HG2.out)).2.1⟩)
  have HSS : Hid (∀ w' u v, Ext W4 w' → ((w'.setCell ⟨w.heap.size + 2, 0, none⟩ u).setCell ⟨w.heap.size + 2, 1, none⟩ v).cell? ⟨w.heap.size, 0, none⟩ = some (.slice p1 q1 r1) ∧ ((w'.setCell ⟨w.heap.size + 2, 0, none⟩ u).setCell ⟨w.heap.size + 2, 1, none⟩ v).cell? ⟨w.heap.size, 1, none⟩ = some (.slice s1 t1 u1) ∧ ((w'.setCell ⟨w.heap.size + 2, 0, none⟩ u).setCell ⟨w.heap.size + 2, 1, none⟩ v).cell? ⟨w.heap.size + 1, 0, none⟩ = some (.slice p2 q2 r2) ∧ ((w'.setCell ⟨w.heap.size + 2, 0, none⟩ u).setCell ⟨w.heap.size + 2, 1, none⟩ v).cell? ⟨w.heap.size + 1, 1, none⟩ = some (.slice s2 t2 u2)) :=
    Lib.hid (fun w' u v h => by
      have g1 := set2_other (rowE h HG1.out) (by omega : w.heap.size ≠ w.heap.size + 2) u v
      have g2 := set2_other (rowE h HG2.out) (by omega : w.heap.size + 1 ≠ w.heap.size + 2) u v
      exact ⟨(row2_cells g1).1, (row2_cells g1).2.1, (row2_cells g2).1, (row2_cells g2).2.1⟩)
  clear k1 k2 k3 k4 j1 j2 j3 j4 hxa hxb hxc hxd hxav hxbv hxcv hxdv G1 G2 EW hsize hres HR1 HR2 HEL HB1 HB2 V1 V2 V3 V4 HX1 HX2 HX3 HR3
  go_wp2_with fail
  go_region_held3 (fun w' => w'.cell? ⟨w.heap.size, 0, none⟩ = some (.slice p1 q1 r1) ∧ w'.cell? ⟨w.heap.size, 1, none⟩ = some (.slice s1 t1 u1) ∧ w'.cell? ⟨w.heap.size + 1, 0, none⟩ = some (.slice p2 q2 r2) ∧ w'.cell? ⟨w.heap.size + 1, 1, none⟩ = some (.slice s2 t2 u2))
    (first | exact HS.out _ (Ext.refl _).drew | exact HS.out _ (by assumption) | exact HSS.out _ _ _ (by assumption))
    (first
      | (go_at_call_of 69 p1; refine (mul_calls (HP1.out.old (Ext.refl W4).drew) (HS2.out.old (Ext.refl W4).drew) (by omega) (by omega)).mono ?_; rintro e wC ⟨o3, n3, c3, rfl, hown3, hext3, hno3⟩; rw [HN1.out, HD2.out] at hown3; have EwC : Ext W4 wC := Ext.trans (Ext.refl W4).drew hext3)
      | (go_at_call_of 69 p2; refine (mul_calls (HP2.out.old EwC) (HS1.out.old EwC) (by omega) (by omega)).mono ?_; rintro e wD ⟨o4, n4, c4, rfl, hown4, hext4, hno4⟩; rw [HN2.out, HD1.out] at hown4; have EwD : Ext W4 wD := Ext.trans EwC hext4)
      | (go_at_call 70; refine (add_calls (hown3.sl.old hext4) hown4.sl (by omega) (by omega)).mono ?_; rintro e wE ⟨o5, n5, c5, rfl, hown5, hext5, hno5⟩; rw [val_lim, val_lim] at hown5; have EwE : Ext W4 wE := Ext.trans EwD hext5)
      | (go_at_call 69; refine (mul_calls (HS1.out.old EwE) (HS2.out.old EwE) (by omega) (by omega)).mono ?_; rintro e wF ⟨o6, n6, c6, rfl, hown6, hext6, hno6⟩; rw [HD1.out, HD2.out] at hown6; have EwF : Ext W4 wF := Ext.trans EwE hext6)
      | (go_at_call 76; refine (rmade_calls (hown5.sl.old hext6) hown6.sl (by omega) (by omega) (HTZ.out.old (HEW.out.trans EwF)) (by rw [val_lim]; exact Nat.ne_of_gt (Nat.mul_pos (dD_pos _) (dD_pos _)))).mono ?_; rintro e wG ⟨o7, n7, c7, o8, n8, c8, rfl, hown7, hown8, hext7, hno7, hno8⟩; rw [val_lim, val_lim] at hown7 hown8; have EwG : Ext W4 wG := Ext.trans EwF hext7; obtain ⟨l1, l2, l3, l4⟩ := row2_cells (rowE EwG HG3.out)))
  go_wp2_with fail
  have HG7 := Lib.hid (rowE EwG HG3.out); have HO7 := Lib.hid hown7; have HO8 := Lib.hid hown8; have HEG := Lib.hid EwG
  have z4 := HSZ4.out; have z3 := HSZ.out; have zz : W4.heap.size ≤ wG.heap.size := EwG.size
  have zb : W4.heap.size ≤ wF.heap.size := (by assumption : Ext W4 wF).size
  try simp only [Exit.inBlock, Exit.then]
  refine bodyPost_ret (results_box1 rfl _ _ _ _ rfl (load_rat (set2_row HG7.out _ _))) rfl ?_
  exact ⟨_, _, _, _, _, _, rfl, (HO7.out.set2 _ _ (by omega)).mono (by omega), (HO8.out.set2 _ _ (by omega)).mono (by omega), set2_ext (HEW.out.trans HEG.out) (by omega) _ _, by omega, by omega⟩

end Go.Proofs.YtimcnhlcepemjaaGreatDoor
