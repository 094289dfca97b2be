/- gleanlaw3.RatLaws: the walk. -/
import Derived.Test.YtnfjfgfkeigkiaaGreatDoorLawM
import Derived.Test.YtnfjfgfkeigkiaaGreatDoorMid
namespace Go.Proofs.YtnfjfgfkeigkiaaGreatDoor
open Go.RowKit

theorem own_two {C : Nat} {wA Wm : World} {a : Option Addr} {n c : Nat} {xs : List Nat} {B7 B8 : Nat} {u v u' v' : Value} (h : Own C wA a n c xs) (E : Ext wA Wm) (h7 : B7 < C ∨ wA.heap.size ≤ B7) (h8 : B8 < C ∨ wA.heap.size ≤ B8) :
    Sl ((((Wm.setCell ⟨B7, 0, none⟩ u).setCell ⟨B7, 1, none⟩ v).setCell ⟨B8, 0, none⟩ u').setCell ⟨B8, 1, none⟩ v') a n c xs := by
  have hne : ∀ B, (B < C ∨ wA.heap.size ≤ B) → blk a ≠ some B := fun B hB e => by
    have := h.ge B e; omega
  exact ((h.old E).sl.grown (set2_by Wm B7 u v) (.inr (.inr (hne B7 h7)))).grown (set2_by _ B8 u' v') (.inr (.inr (hne B8 h8)))

theorem radd_sN {a1 b1 a2 b2 : Option Addr} {m1 n1 c1 d1 m2 n2 c2 d2 : Nat} {xs1 ys1 xs2 ys2 : List Nat} {w : World} (ha1 : Sl w a1 m1 c1 xs1) (hb1 : Sl w b1 n1 d1 ys1) (ha2 : Sl w a2 m2 c2 xs2) (hb2 : Sl w b2 n2 d2 ys2)
    (hm1 : m1 ≤ 100000) (hn1 : n1 ≤ 100000) (hm2 : m2 ≤ 100000) (hn2 : n2 ≤ 100000) (htz : TzTab w) : Calls Tryz.prog 19 #[RatV a1 m1 c1 b1 n1 d1, RatV a2 m2 c2 b2 n2 d2] w (NewR w (m1 + n2 + m2 + n1 + 8) (n1 + n2 + 4) (lim (sN (dN (val xs1) (val ys1)) (dD (val ys1)) (dN (val xs2) (val ys2)) (dD (val ys2)))) (lim (sD (dN (val xs1) (val ys1)) (dD (val ys1)) (dN (val xs2) (val ys2)) (dD (val ys2))))) :=
  radd_calls ha1 hb1 ha2 hb2 hm1 hn1 hm2 hn2 htz
theorem rmul_pN {a1 b1 a2 b2 : Option Addr} {m1 n1 c1 d1 m2 n2 c2 d2 : Nat} {xs1 ys1 xs2 ys2 : List Nat} {w : World} (ha1 : Sl w a1 m1 c1 xs1) (hb1 : Sl w b1 n1 d1 ys1) (ha2 : Sl w a2 m2 c2 xs2) (hb2 : Sl w b2 n2 d2 ys2)
    (hm1 : m1 ≤ 100000) (hn1 : n1 ≤ 100000) (hm2 : m2 ≤ 100000) (hn2 : n2 ≤ 100000) (htz : TzTab w) : Calls Tryz.prog 21 #[RatV a1 m1 c1 b1 n1 d1, RatV a2 m2 c2 b2 n2 d2] w (NewR w (m1 + m2 + 4) (n1 + n2 + 4) (lim (pN (dN (val xs1) (val ys1)) (dD (val ys1)) (dN (val xs2) (val ys2)) (dD (val ys2)))) (lim (pD (dN (val xs1) (val ys1)) (dD (val ys1)) (dN (val xs2) (val ys2)) (dD (val ys2))))) :=
  rmul_calls ha1 hb1 ha2 hb2 hm1 hn1 hm2 hn2 htz
theorem radd_lim {a1 b1 a2 b2 : Option Addr} {m1 n1 c1 d1 m2 n2 c2 d2 X Y : Nat} {xs2 ys2 : List Nat} {w : World} (ha1 : Sl w a1 m1 c1 (lim X)) (hb1 : Sl w b1 n1 d1 (lim Y)) (ha2 : Sl w a2 m2 c2 xs2) (hb2 : Sl w b2 n2 d2 ys2)
    (hm1 : m1 ≤ 100000) (hn1 : n1 ≤ 100000) (hm2 : m2 ≤ 100000) (hn2 : n2 ≤ 100000) (htz : TzTab w) (hY : 0 < Y) : Calls Tryz.prog 19 #[RatV a1 m1 c1 b1 n1 d1, RatV a2 m2 c2 b2 n2 d2] w (NewR w (m1 + n2 + m2 + n1 + 8) (n1 + n2 + 4) (lim (sN X Y (dN (val xs2) (val ys2)) (dD (val ys2)))) (lim (sD X Y (dN (val xs2) (val ys2)) (dD (val ys2))))) := by
  have := radd_sN ha1 hb1 ha2 hb2 hm1 hn1 hm2 hn2 htz
  rw [val_lim, val_lim, dN_pos hY, dD_of_pos hY] at this
  exact this
theorem radd_liR {a1 b1 a2 b2 : Option Addr} {m1 n1 c1 d1 m2 n2 c2 d2 X Y : Nat} {xs1 ys1 : List Nat} {w : World} (ha1 : Sl w a1 m1 c1 xs1) (hb1 : Sl w b1 n1 d1 ys1) (ha2 : Sl w a2 m2 c2 (lim X)) (hb2 : Sl w b2 n2 d2 (lim Y))
    (hm1 : m1 ≤ 100000) (hn1 : n1 ≤ 100000) (hm2 : m2 ≤ 100000) (hn2 : n2 ≤ 100000) (htz : TzTab w) (hY : 0 < Y) : Calls Tryz.prog 19 #[RatV a1 m1 c1 b1 n1 d1, RatV a2 m2 c2 b2 n2 d2] w (NewR w (m1 + n2 + m2 + n1 + 8) (n1 + n2 + 4) (lim (sN (dN (val xs1) (val ys1)) (dD (val ys1)) X Y)) (lim (sD (dN (val xs1) (val ys1)) (dD (val ys1)) X Y))) := by
  have := radd_sN ha1 hb1 ha2 hb2 hm1 hn1 hm2 hn2 htz
  rw [val_lim, val_lim, dN_pos hY, dD_of_pos hY] at this
  exact this
theorem rmul_liR {a1 b1 a2 b2 : Option Addr} {m1 n1 c1 d1 m2 n2 c2 d2 X Y : Nat} {xs1 ys1 : List Nat} {w : World} (ha1 : Sl w a1 m1 c1 xs1) (hb1 : Sl w b1 n1 d1 ys1) (ha2 : Sl w a2 m2 c2 (lim X)) (hb2 : Sl w b2 n2 d2 (lim Y))
    (hm1 : m1 ≤ 100000) (hn1 : n1 ≤ 100000) (hm2 : m2 ≤ 100000) (hn2 : n2 ≤ 100000) (htz : TzTab w) (hY : 0 < Y) : Calls Tryz.prog 21 #[RatV a1 m1 c1 b1 n1 d1, RatV a2 m2 c2 b2 n2 d2] w (NewR w (m1 + m2 + 4) (n1 + n2 + 4) (lim (pN (dN (val xs1) (val ys1)) (dD (val ys1)) X Y)) (lim (pD (dN (val xs1) (val ys1)) (dD (val ys1)) X Y))) := by
  have := rmul_pN ha1 hb1 ha2 hb2 hm1 hn1 hm2 hn2 htz
  rw [val_lim, val_lim, dN_pos hY, dD_of_pos hY] at this
  exact this
theorem radd_two {a1 b1 a2 b2 : Option Addr} {m1 n1 c1 d1 m2 n2 c2 d2 X Y U V : Nat} {w : World} (ha1 : Sl w a1 m1 c1 (lim X)) (hb1 : Sl w b1 n1 d1 (lim Y)) (ha2 : Sl w a2 m2 c2 (lim U)) (hb2 : Sl w b2 n2 d2 (lim V))
    (hm1 : m1 ≤ 100000) (hn1 : n1 ≤ 100000) (hm2 : m2 ≤ 100000) (hn2 : n2 ≤ 100000) (htz : TzTab w) (hY : 0 < Y) (hV : 0 < V) : Calls Tryz.prog 19 #[RatV a1 m1 c1 b1 n1 d1, RatV a2 m2 c2 b2 n2 d2] w (NewR w (m1 + n2 + m2 + n1 + 8) (n1 + n2 + 4) (lim (sN X Y U V)) (lim (sD X Y U V))) := by
  have := radd_lim ha1 hb1 ha2 hb2 hm1 hn1 hm2 hn2 htz hY
  rw [val_lim, val_lim, dN_pos hV, dD_of_pos hV] at this
  exact this

theorem rsub_lim {a1 b1 a2 b2 : Option Addr} {m1 n1 c1 d1 m2 n2 c2 d2 X Y : Nat} {xs2 ys2 : List Nat} {w : World} (ha1 : Sl w a1 m1 c1 (lim X)) (hb1 : Sl w b1 n1 d1 (lim Y)) (ha2 : Sl w a2 m2 c2 xs2) (hb2 : Sl w b2 n2 d2 ys2)
    (hm1 : m1 ≤ 100000) (hn1 : n1 ≤ 100000) (hm2 : m2 ≤ 100000) (hn2 : n2 ≤ 100000) (htz : TzTab w) (hY : 0 < Y) {U V P Q : Nat} (hU : dN (val xs2) (val ys2) = U) (hV : dD (val ys2) = V) (hc : U * Y ≤ X * V) (h1 : rN (X * V - U * Y) (Y * V) = P) (h2 : rD (X * V - U * Y) (Y * V) = Q) :
    Calls Tryz.prog 12 #[RatV a1 m1 c1 b1 n1 d1, RatV a2 m2 c2 b2 n2 d2] w (NewRE w (m1 + n2 + 8) (n1 + n2 + 4) (lim P) (lim Q) 0) := by
  have := rsub_ok ha1 hb1 ha2 hb2 hm1 hn1 hm2 hn2 htz (by rw [val_lim, val_lim, dN_pos hY, dD_of_pos hY, hU, hV]; exact hc)
  rw [val_lim, val_lim, dN_pos hY, dD_of_pos hY, hU, hV, h1, h2] at this
  exact this
theorem rquo_lim {a1 b1 a2 b2 : Option Addr} {m1 n1 c1 d1 m2 n2 c2 d2 X Y : Nat} {xs2 ys2 : List Nat} {w : World} (ha1 : Sl w a1 m1 c1 (lim X)) (hb1 : Sl w b1 n1 d1 (lim Y)) (ha2 : Sl w a2 m2 c2 xs2) (hb2 : Sl w b2 n2 d2 ys2)
    (hm1 : m1 ≤ 100000) (hn1 : n1 ≤ 100000) (hm2 : m2 ≤ 100000) (hn2 : n2 ≤ 100000) (htz : TzTab w) (hY : 0 < Y) {U V P Q : Nat} (hU : dN (val xs2) (val ys2) = U) (hV : dD (val ys2) = V) (hc : U ≠ 0) (h1 : rN (X * V) (Y * U) = P) (h2 : rD (X * V) (Y * U) = Q) :
    Calls Tryz.prog 14 #[RatV a1 m1 c1 b1 n1 d1, RatV a2 m2 c2 b2 n2 d2] w (NewRE w (m1 + n2 + 8) (n1 + m2 + 4) (lim P) (lim Q) 0) := by
  have := rquo_ok ha1 hb1 ha2 hb2 hm1 hn1 hm2 hn2 htz (by rw [hU]; exact hc)
  rw [val_lim, val_lim, dN_pos hY, dD_of_pos hY, hU, hV, h1, h2] at this
  exact this
theorem rown_calls {a1 b1 a2 b2 : Option Addr} {m1 n1 c1 d1 m2 n2 c2 d2 : Nat} {xs1 ys1 : List Nat} {w : World} (ha1 : Sl w a1 m1 c1 xs1) (hb1 : Sl w b1 n1 d1 ys1) (ha2 : Sl w a2 m2 c2 (lim 0)) (hb2 : Sl w b2 n2 d2 (lim 1))
    (hm1 : m1 ≤ 100000) (hn1 : n1 ≤ 100000) (hm2 : m2 ≤ 100000) (hn2 : n2 ≤ 100000) (htz : TzTab w) {U V : Nat} (hU : dN (val xs1) (val ys1) = U) (hV : dD (val ys1) = V) :
    Calls Tryz.prog 19 #[RatV a1 m1 c1 b1 n1 d1, RatV a2 m2 c2 b2 n2 d2] w (NewR w (m1 + n2 + m2 + n1 + 8) (n1 + n2 + 4) (lim (rN U V)) (lim (rD U V))) := by
  have := radd_liR ha1 hb1 ha2 hb2 hm1 hn1 hm2 hn2 htz (by decide)
  rw [hU, hV] at this
  unfold sN sD at this
  rw [(own_add U V).1, (own_add U V).2] at this
  exact this

set_option maxHeartbeats 16000000 in
set_option maxRecDepth 100000 in
theorem ratlaws_law {a1 b1 a2 b2 a3 b3 : Option Addr} {m1 c1 n1 d1 m2 c2 n2 d2 m3 c3 n3 d3 : Nat} {xs1 ys1 xs2 ys2 xs3 ys3 : List Nat} {w : World} (ha1 : Sl w a1 m1 c1 xs1) (hb1 : Sl w b1 n1 d1 ys1) (ha2 : Sl w a2 m2 c2 xs2) (hb2 : Sl w b2 n2 d2 ys2) (ha3 : Sl w a3 m3 c3 xs3) (hb3 : Sl w b3 n3 d3 ys3) (htab : Tab w) (htz : TzTab w) :
    Calls Tryz.prog 6 #[RatV a1 m1 c1 b1 n1 d1, RatV a2 m2 c2 b2 n2 d2, RatV a3 m3 c3 b3 n3 d3] w (RetE (.bool true) w) := by
  obtain ⟨X1, hX1⟩ : ∃ X, w.alloc (.cells #[.slice a1 m1 c1, .slice b1 n1 d1] 25) = X := ⟨_, rfl⟩
  obtain ⟨X2, hX2⟩ : ∃ X, X1.alloc (.cells #[.slice a2 m2 c2, .slice b2 n2 d2] 25) = X := ⟨_, rfl⟩
  obtain ⟨X3, hX3⟩ : ∃ X, X2.alloc (.cells #[.slice a3 m3 c3, .slice b3 n3 d3] 25) = X := ⟨_, rfl⟩
  have hsz1 : X1.heap.size = w.heap.size + 1 := by rw [← hX1, alloc_size]
  have hsz2 : X2.heap.size = w.heap.size + 2 := by rw [← hX2, alloc_size, hsz1]
  have hsz3 : X3.heap.size = w.heap.size + 3 := by rw [← hX3, alloc_size, hsz2]
  have E1 : Ext w X1 := by rw [← hX1]; exact (Ext.refl w).alloc _
  have E2 : Ext X1 X2 := by rw [← hX2]; exact (Ext.refl X1).alloc _
  have E3 : Ext X2 X3 := by rw [← hX3]; exact (Ext.refl X2).alloc _
  have R1 : X3.heap[w.heap.size]? = some (.cells #[.slice a1 m1 c1, .slice b1 n1 d1] 25 (0, 0)) := box2_row (w := w) (by rw [hX1]; exact E2.trans E3)
  have R2 : X3.heap[w.heap.size + 1]? = some (.cells #[.slice a2 m2 c2, .slice b2 n2 d2] 25 (0, 0)) := by rw [← hsz1]; exact box2_row (w := X1) (by rw [hX2]; exact E3)
  have R3 : X3.heap[w.heap.size + 2]? = some (.cells #[.slice a3 m3 c3, .slice b3 n3 d3] 25 (0, 0)) := by rw [← hsz2]; exact box2_row (w := X2) (by rw [hX3]; exact Ext.refl _)
  have HS : Hid (∀ w', Ext X3 w' → w'.cell? ⟨w.heap.size, 0, none⟩ = some (.slice a1 m1 c1) ∧ w'.cell? ⟨w.heap.size, 1, none⟩ = some (.slice b1 n1 d1) ∧ w'.cell? ⟨w.heap.size + 1, 0, none⟩ = some (.slice a2 m2 c2) ∧ w'.cell? ⟨w.heap.size + 1, 1, none⟩ = some (.slice b2 n2 d2) ∧ w'.cell? ⟨w.heap.size + 2, 0, none⟩ = some (.slice a3 m3 c3) ∧ w'.cell? ⟨w.heap.size + 2, 1, none⟩ = some (.slice b3 n3 d3)) := Lib.hid (fun w' h => ⟨(row2_cells (rowE h R1)).1, (row2_cells (rowE h R1)).2.1, (row2_cells (rowE h R2)).1, (row2_cells (rowE h R2)).2.1, (row2_cells (rowE h R3)).1, (row2_cells (rowE h R3)).2.1⟩)
  have HEL := Lib.hid ((E1.trans E2).trans E3)
  have HA1 := Lib.hid (fun w' (h : Ext X3 w') => ha1.old (HEL.out.trans h)); have HB1 := Lib.hid (fun w' (h : Ext X3 w') => hb1.old (HEL.out.trans h))
  have HA2 := Lib.hid (fun w' (h : Ext X3 w') => ha2.old (HEL.out.trans h)); have HB2 := Lib.hid (fun w' (h : Ext X3 w') => hb2.old (HEL.out.trans h))
  have HA3 := Lib.hid (fun w' (h : Ext X3 w') => ha3.old (HEL.out.trans h)); have HB3 := Lib.hid (fun w' (h : Ext X3 w') => hb3.old (HEL.out.trans h))
  have CK := Lib.hid (knownR_calls X3 (htab.old HEL.out) (htz.old HEL.out))
  have HTZ := Lib.hid (htz.old HEL.out); have HSZ := Lib.hid hsz3
  have HX1 := Lib.hid hX1; have HX2 := Lib.hid hX2; have HX3 := Lib.hid hX3
  obtain ⟨Xv1, hv1⟩ : ∃ X, val xs1 = X := ⟨_, rfl⟩
  obtain ⟨Yv1, hu1⟩ : ∃ X, val ys1 = X := ⟨_, rfl⟩
  have HVN1 := Lib.hid hv1; have HVD1 := Lib.hid hu1
  obtain ⟨Xv2, hv2⟩ : ∃ X, val xs2 = X := ⟨_, rfl⟩
  obtain ⟨Yv2, hu2⟩ : ∃ X, val ys2 = X := ⟨_, rfl⟩
  have HVN2 := Lib.hid hv2; have HVD2 := Lib.hid hu2
  obtain ⟨Xv3, hv3⟩ : ∃ X, val xs3 = X := ⟨_, rfl⟩
  obtain ⟨Yv3, hu3⟩ : ∃ X, val ys3 = X := ⟨_, rfl⟩
  have HVN3 := Lib.hid hv3; have HVD3 := Lib.hid hu3
  clear hX1 hX2 hX3 E1 E2 E3 R1 R2 R3 ha1 hb1 ha2 hb2 ha3 hb3 hv1 hv2 hv3 hu1 hu2 hu3 htab htz hsz1 hsz2 hsz3
  go_enter Tryz.func6, Tryz.ntmps6
  have hszx1 : X1.heap.size = w.heap.size + 1 := by rw [← HX1.out, alloc_size]
  have hszx2 : X2.heap.size = w.heap.size + 2 := by rw [← HX2.out, alloc_size, hszx1]
  go_wp2_with (first | rw [HX1.out] | rw [HX2.out] | rw [HX3.out])
  refine CK.out.mono ?_
  rintro e w1 ⟨rfl, hext1⟩
  have E1 := Lib.hid hext1
  obtain ⟨Z, hZ⟩ : ∃ Z, w1.alloc (.cells #[.slice a1 m1 c1, .slice b1 n1 d1, .slice a2 m2 c2, .slice b2 n2 d2, .slice a3 m3 c3, .slice b3 n3 d3] 25) = Z := ⟨_, rfl⟩
  have EZ := Lib.hid (show Ext X3 Z by rw [← hZ]; exact hext1.alloc _)
  have HSM := Lib.hid (smallR_calls (rsl_lit3 w1 a1 m1 c1 b1 n1 d1 a2 m2 c2 b2 n2 d2 a3 m3 c3 b3 n3 d3))
  rw [hZ] at HSM
  have HZ := Lib.hid hZ
  obtain ⟨k1, k2, k3, k4, k5, k6⟩ := HS.out w1 hext1
  clear hext1 hZ
  by_cases h12 : (m1 ≤ 12 ∧ n1 ≤ 12) ∧ (m2 ≤ 12 ∧ n2 ≤ 12) ∧ (m3 ≤ 12 ∧ n3 ≤ 12)
  rotate_left
  · rw [rsl_no h12] at HSM
    go_wp2_with (rw [HZ.out])
    refine HSM.out.mono ?_
    rintro e w2 ⟨rfl, rfl⟩
    go_wp2_with fail
    go_ret
    exact ⟨rfl, HEL.out.trans EZ.out⟩
  rw [rsl_yes h12] at HSM
  obtain ⟨⟨q1, q2⟩, ⟨q3, q4⟩, q5, q6⟩ := h12
  clear k1 k2 k3 k4 k5 k6
  obtain ⟨k1, k2, k3, k4, k5, k6⟩ := HS.out w1 E1.out
  obtain ⟨j1, j2, j3, j4, j5, j6⟩ := HS.out Z EZ.out
  go_wp2_with (rw [HZ.out])
  refine HSM.out.mono ?_
  rintro e w2 ⟨rfl, rfl⟩
  clear k1 k2 k3 k4 k5 k6
  obtain ⟨N1, hN1⟩ : ∃ N, dN Xv1 Yv1 = N := ⟨_, rfl⟩
  obtain ⟨D1, hD1⟩ : ∃ D, dD Yv1 = D := ⟨_, rfl⟩
  have HDP1 := Lib.hid (show 0 < D1 by rw [← hD1]; exact dD_pos _)
  have HN1 := Lib.hid hN1; have HD1 := Lib.hid hD1
  clear hN1 hD1
  obtain ⟨N2, hN2⟩ : ∃ N, dN Xv2 Yv2 = N := ⟨_, rfl⟩
  obtain ⟨D2, hD2⟩ : ∃ D, dD Yv2 = D := ⟨_, rfl⟩
  have HDP2 := Lib.hid (show 0 < D2 by rw [← hD2]; exact dD_pos _)
  have HN2 := Lib.hid hN2; have HD2 := Lib.hid hD2
  clear hN2 hD2
  obtain ⟨N3, hN3⟩ : ∃ N, dN Xv3 Yv3 = N := ⟨_, rfl⟩
  obtain ⟨D3, hD3⟩ : ∃ D, dD Yv3 = D := ⟨_, rfl⟩
  have HDP3 := Lib.hid (show 0 < D3 by rw [← hD3]; exact dD_pos _)
  have HN3 := Lib.hid hN3; have HD3 := Lib.hid hD3
  clear hN3 hD3
  obtain ⟨AZ, hAZ⟩ : ∃ AZ : World → World, ∀ W, W.alloc (Obj.cells #[Value.slice none 0 0, Value.slice none 0 0] 25 (0, 0)) = AZ W := ⟨fun W => W.alloc (Obj.cells #[Value.slice none 0 0, Value.slice none 0 0] 25 (0, 0)), fun _ => rfl⟩
  have HAE : Hid (∀ W, Ext W (AZ W)) := Lib.hid (fun W => by rw [← hAZ]; exact (Ext.refl W).alloc _)
  have HAR : Hid (∀ W : World, (AZ W).heap[W.heap.size]? = some (Obj.cells #[Value.slice none 0 0, Value.slice none 0 0] 25 (0, 0))) := Lib.hid (fun W => by rw [← hAZ]; exact heap_alloc_new W _)
  have HAS : Hid (∀ W, (AZ W).heap.size = W.heap.size + 1) := Lib.hid (fun W => by rw [← hAZ, alloc_size])
  have za1 : ∀ W : World, (AZ W).cell? ⟨W.heap.size, 0, none⟩ = some (.slice none 0 0) := fun W => (row2_cells (HAR.out W)).1
  have za2 : ∀ W : World, (AZ W).cell? ⟨W.heap.size, 1, none⟩ = some (.slice none 0 0) := fun W => (row2_cells (HAR.out W)).2.1
  have za3 : ∀ W : World, (AZ W).frozen? ⟨W.heap.size, 0, none⟩ = false := fun W => (row2_cells (HAR.out W)).2.2.1
  have za4 : ∀ W : World, (AZ W).frozen? ⟨W.heap.size, 1, none⟩ = false := fun W => (row2_cells (HAR.out W)).2.2.2
  have za5 : ∀ (W : World) (a : Addr), (W.cell? a).isSome = true → (AZ W).cell? a = W.cell? a := fun W a h => by
    obtain ⟨v, hv⟩ := Option.isSome_iff_exists.1 h
    rw [hv]; exact (HAE.out W).cell hv
  have za6 : ∀ (W : World) (a : Addr), (W.cell? a).isSome = true → (AZ W).frozen? a = W.frozen? a := fun W a h => by
    obtain ⟨v, hv⟩ := Option.isSome_iff_exists.1 h
    exact World.frozen?_of_block ((HAE.out W).block _ (World.block_lt_of_cell? W a hv))
  have zn1 : ∀ W : World, (AZ W).heap.size ≠ W.heap.size := fun W => by rw [HAS.out]; omega
  have zn2 : ∀ W : World, W.heap.size ≠ (AZ W).heap.size := fun W => by rw [HAS.out]; omega
  obtain ⟨D, hD⟩ : ∃ D, Z.drew = D := ⟨_, rfl⟩
  have HDE := Lib.hid (show Ext Z D by rw [← hD]; exact (Ext.refl Z).drew)
  have HDS := Lib.hid (show D.heap.size = Z.heap.size by rw [← hD]; rfl)
  have HS4 : Hid (∀ w', Ext X3 w' → w'.cell? ⟨w.heap.size, 0, none⟩ = some (.slice a1 m1 c1) ∧ w'.cell? ⟨w.heap.size, 1, none⟩ = some (.slice b1 n1 d1) ∧ w'.cell? ⟨w.heap.size + 1, 0, none⟩ = some (.slice a2 m2 c2) ∧ w'.cell? ⟨w.heap.size + 1, 1, none⟩ = some (.slice b2 n2 d2)) := Lib.hid (fun w' h => ⟨(HS.out w' h).1, (HS.out w' h).2.1, (HS.out w' h).2.2.1, (HS.out w' h).2.2.2.1⟩)
  have HS5 : Hid (∀ w' B u v, Ext X3 w' → X3.heap.size ≤ B → ((w'.setCell ⟨B, 0, none⟩ u).setCell ⟨B, 1, none⟩ v).cell? ⟨w.heap.size, 0, none⟩ = some (.slice a1 m1 c1) ∧ ((w'.setCell ⟨B, 0, none⟩ u).setCell ⟨B, 1, none⟩ v).cell? ⟨w.heap.size, 1, none⟩ = some (.slice b1 n1 d1) ∧ ((w'.setCell ⟨B, 0, none⟩ u).setCell ⟨B, 1, none⟩ v).cell? ⟨w.heap.size + 1, 0, none⟩ = some (.slice a2 m2 c2) ∧ ((w'.setCell ⟨B, 0, none⟩ u).setCell ⟨B, 1, none⟩ v).cell? ⟨w.heap.size + 1, 1, none⟩ = some (.slice b2 n2 d2)) := Lib.hid (fun w' B u v h hB => HS4.out _ (set2_ext h hB u v))
  have HS6 : Hid (∀ w' B u v C x y, Ext X3 w' → X3.heap.size ≤ B → X3.heap.size ≤ C → ((((w'.setCell ⟨B, 0, none⟩ u).setCell ⟨B, 1, none⟩ v).setCell ⟨C, 0, none⟩ x).setCell ⟨C, 1, none⟩ y).cell? ⟨w.heap.size, 0, none⟩ = some (.slice a1 m1 c1) ∧ ((((w'.setCell ⟨B, 0, none⟩ u).setCell ⟨B, 1, none⟩ v).setCell ⟨C, 0, none⟩ x).setCell ⟨C, 1, none⟩ y).cell? ⟨w.heap.size, 1, none⟩ = some (.slice b1 n1 d1) ∧ ((((w'.setCell ⟨B, 0, none⟩ u).setCell ⟨B, 1, none⟩ v).setCell ⟨C, 0, none⟩ x).setCell ⟨C, 1, none⟩ y).cell? ⟨w.heap.size + 1, 0, none⟩ = some (.slice a2 m2 c2) ∧ ((((w'.setCell ⟨B, 0, none⟩ u).setCell ⟨B, 1, none⟩ v).setCell ⟨C, 0, none⟩ x).setCell ⟨C, 1, none⟩ y).cell? ⟨w.heap.size + 1, 1, none⟩ = some (.slice b2 n2 d2)) := Lib.hid (fun w' B u v C x y h hB hC => HS4.out _ (set2_ext (set2_ext h hB u v) hC x y))
  have HZD := Lib.hid (EZ.out.trans HDE.out)
  clear j1 j2 j3 j4 j5 j6
  go_wp2_with fail
  refine wp_region_mid (fun A A' W' => ∃ (B7 B8 : Nat) (a7 : Option Addr) (l7 c7 : Nat) (b7 : Option Addr) (m7 d7 : Nat) (a8 : Option Addr) (l8 c8 : Nat) (b8 : Option Addr) (m8 d8 : Nat), A' = putsFrom A A' [7, 8, 24, 25, 26, 27, 28, 29] ∧ A'.tmps.getD 7 undef = .pointer (some ⟨B7, 0, none⟩) ∧ A'.tmps.getD 8 undef = .pointer (some ⟨B8, 0, none⟩) ∧ Ext X3 W' ∧ W'.heap[B7]? = some (.cells #[.slice a7 l7 c7, .slice b7 m7 d7] 25 (0, 0)) ∧ W'.heap[B8]? = some (.cells #[.slice a8 l8 c8, .slice b8 m8 d8] 25 (0, 0)) ∧ Sl W' a7 l7 c7 (lim (sN N1 D1 N2 D2)) ∧ Sl W' b7 m7 d7 (lim (sD N1 D1 N2 D2)) ∧ Sl W' a8 l8 c8 (lim (pN N1 D1 N2 D2)) ∧ Sl W' b8 m8 d8 (lim (pD N1 D1 N2 D2)) ∧ l7 ≤ 100 ∧ m7 ≤ 100 ∧ l8 ≤ 100 ∧ m8 ≤ 100) ?_ ?_
  · skip
    go_region_held3 (fun w' => w'.cell? ⟨w.heap.size, 0, none⟩ = some (.slice a1 m1 c1) ∧ w'.cell? ⟨w.heap.size, 1, none⟩ = some (.slice b1 n1 d1) ∧ w'.cell? ⟨w.heap.size + 1, 0, none⟩ = some (.slice a2 m2 c2) ∧ w'.cell? ⟨w.heap.size + 1, 1, none⟩ = some (.slice b2 n2 d2))
      (first | exact HS4.out _ EZ.out.drew | exact HS4.out _ (by first | assumption | exact Ext.trans (by assumption) (HAE.out _) | exact Ext.trans (by assumption) (Ext.trans (HAE.out _) (HAE.out _)) | exact HZD.out | exact Ext.trans HZD.out (HAE.out _) | exact Ext.trans HZD.out (Ext.trans (HAE.out _) (HAE.out _))) | exact HS5.out _ _ _ _ (by first | assumption | exact Ext.trans (by assumption) (HAE.out _) | exact Ext.trans (by assumption) (Ext.trans (HAE.out _) (HAE.out _)) | exact HZD.out | exact Ext.trans HZD.out (HAE.out _) | exact Ext.trans HZD.out (Ext.trans (HAE.out _) (HAE.out _))) (by have q1 := HZD.out.size; have q2 := HAS.out D; have q3 := HAS.out wA; have q4 := HAS.out wM; have q5 := EwA.size; have q6 := EwM.size; have q7 := HAS.out (AZ wM); have q8 := HAS.out (AZ D); have q9 := HAS.out (AZ wA); omega) | exact HS6.out _ _ _ _ _ _ _ (by first | assumption | exact Ext.trans (by assumption) (HAE.out _) | exact Ext.trans (by assumption) (Ext.trans (HAE.out _) (HAE.out _)) | exact HZD.out | exact Ext.trans HZD.out (HAE.out _) | exact Ext.trans HZD.out (Ext.trans (HAE.out _) (HAE.out _))) (by have q1 := HZD.out.size; have q2 := HAS.out D; have q3 := HAS.out wA; have q4 := HAS.out wM; have q5 := EwA.size; have q6 := EwM.size; have q7 := HAS.out (AZ wM); have q8 := HAS.out (AZ D); have q9 := HAS.out (AZ wA); omega) (by have q1 := HZD.out.size; have q2 := HAS.out D; have q3 := HAS.out wA; have q4 := HAS.out wM; have q5 := EwA.size; have q6 := EwM.size; have q7 := HAS.out (AZ wM); have q8 := HAS.out (AZ D); have q9 := HAS.out (AZ wA); omega))
      (first
        | (go_at_call 19; refine (radd_calls (HA1.out _ (by first | exact HZD.out | exact Ext.trans HZD.out (HAE.out _) | exact Ext.trans HZD.out (Ext.trans (HAE.out _) (HAE.out _)))) (HB1.out _ (by first | exact HZD.out | exact Ext.trans HZD.out (HAE.out _) | exact Ext.trans HZD.out (Ext.trans (HAE.out _) (HAE.out _)))) (HA2.out _ (by first | exact HZD.out | exact Ext.trans HZD.out (HAE.out _) | exact Ext.trans HZD.out (Ext.trans (HAE.out _) (HAE.out _)))) (HB2.out _ (by first | exact HZD.out | exact Ext.trans HZD.out (HAE.out _) | exact Ext.trans HZD.out (Ext.trans (HAE.out _) (HAE.out _)))) (by omega) (by omega) (by omega) (by omega) (HTZ.out.old (by first | exact HZD.out | exact Ext.trans HZD.out (HAE.out _) | exact Ext.trans HZD.out (Ext.trans (HAE.out _) (HAE.out _))))).mono ?_; rintro e wA ⟨awA, lwA, cwA, bwA, mwA, dwA, rfl, oawA, obwA, hextwA, hlwA, hmwA⟩; rw [HVN1.out, HVD1.out, HVN2.out, HVD2.out, HN1.out, HD1.out, HN2.out, HD2.out] at oawA obwA; have EwA : Ext X3 wA := (by first | exact Ext.trans HZD.out hextwA | exact Ext.trans HZD.out (Ext.trans (HAE.out _) hextwA) | exact Ext.trans HZD.out (Ext.trans (HAE.out _) (Ext.trans (HAE.out _) hextwA))); (first | have r1 : Hid (wA.heap[D.heap.size]? = some (Obj.cells #[Value.slice none 0 0, Value.slice none 0 0] 25 (0, 0))) := Lib.hid (rowE hextwA (HAR.out D)) | have r1 : Hid (wA.heap[D.heap.size]? = some (Obj.cells #[Value.slice none 0 0, Value.slice none 0 0] 25 (0, 0))) := Lib.hid (rowE (Ext.trans (HAE.out _) hextwA) (HAR.out D)) | skip); (first | have r2 : Hid (wA.heap[(AZ D).heap.size]? = some (Obj.cells #[Value.slice none 0 0, Value.slice none 0 0] 25 (0, 0))) := Lib.hid (rowE hextwA (HAR.out (AZ D))) | skip))
        | (go_at_call 21; refine (rmul_calls (HA1.out _ (by first | exact EwA | exact Ext.trans EwA (HAE.out _) | exact Ext.trans EwA (Ext.trans (HAE.out _) (HAE.out _)))) (HB1.out _ (by first | exact EwA | exact Ext.trans EwA (HAE.out _) | exact Ext.trans EwA (Ext.trans (HAE.out _) (HAE.out _)))) (HA2.out _ (by first | exact EwA | exact Ext.trans EwA (HAE.out _) | exact Ext.trans EwA (Ext.trans (HAE.out _) (HAE.out _)))) (HB2.out _ (by first | exact EwA | exact Ext.trans EwA (HAE.out _) | exact Ext.trans EwA (Ext.trans (HAE.out _) (HAE.out _)))) (by omega) (by omega) (by omega) (by omega) (HTZ.out.old (by first | exact EwA | exact Ext.trans EwA (HAE.out _) | exact Ext.trans EwA (Ext.trans (HAE.out _) (HAE.out _))))).mono ?_; rintro e wM ⟨awM, lwM, cwM, bwM, mwM, dwM, rfl, oawM, obwM, hextwM, hlwM, hmwM⟩; rw [HVN1.out, HVD1.out, HVN2.out, HVD2.out, HN1.out, HD1.out, HN2.out, HD2.out] at oawM obwM; have EwM : Ext X3 wM := (by first | exact Ext.trans EwA hextwM | exact Ext.trans EwA (Ext.trans (HAE.out _) hextwM) | exact Ext.trans EwA (Ext.trans (HAE.out _) (Ext.trans (HAE.out _) hextwM))); have EAM : Ext wA wM := (by first | exact hextwM | exact Ext.trans (HAE.out _) hextwM | exact Ext.trans (HAE.out _) (Ext.trans (HAE.out _) hextwM)); (first | have R1 : Hid (wM.heap[D.heap.size]? = some (Obj.cells #[Value.slice none 0 0, Value.slice none 0 0] 25 (0, 0))) := Lib.hid (rowE EAM r1.out) | skip); (first | have R2 : Hid (wM.heap[(AZ D).heap.size]? = some (Obj.cells #[Value.slice none 0 0, Value.slice none 0 0] 25 (0, 0))) := Lib.hid (rowE EAM r2.out) | skip); (first | have R3 : Hid (wM.heap[wA.heap.size]? = some (Obj.cells #[Value.slice none 0 0, Value.slice none 0 0] 25 (0, 0))) := Lib.hid (rowE hextwM (HAR.out wA)) | have R3 : Hid (wM.heap[wA.heap.size]? = some (Obj.cells #[Value.slice none 0 0, Value.slice none 0 0] 25 (0, 0))) := Lib.hid (rowE (Ext.trans (HAE.out _) hextwM) (HAR.out wA)) | skip); (first | have R4 : Hid (wM.heap[(AZ wA).heap.size]? = some (Obj.cells #[Value.slice none 0 0, Value.slice none 0 0] 25 (0, 0))) := Lib.hid (rowE hextwM (HAR.out (AZ wA))) | skip); (first | have y10 := (row2_cells R1.out).1 | skip); (first | have y11 := (row2_cells R1.out).2.1 | skip); (first | have y12 := (row2_cells R1.out).2.2.1 | skip); (first | have y13 := (row2_cells R1.out).2.2.2 | skip); (first | have y20 := (row2_cells R2.out).1 | skip); (first | have y21 := (row2_cells R2.out).2.1 | skip); (first | have y22 := (row2_cells R2.out).2.2.1 | skip); (first | have y23 := (row2_cells R2.out).2.2.2 | skip); (first | have y30 := (row2_cells R3.out).1 | skip); (first | have y31 := (row2_cells R3.out).2.1 | skip); (first | have y32 := (row2_cells R3.out).2.2.1 | skip); (first | have y33 := (row2_cells R3.out).2.2.2 | skip); (first | have y40 := (row2_cells R4.out).1 | skip); (first | have y41 := (row2_cells R4.out).2.1 | skip); (first | have y42 := (row2_cells R4.out).2.2.1 | skip); (first | have y43 := (row2_cells R4.out).2.2.2 | skip); (first | have n1a := Nat.ne_of_lt (Array.getElem?_eq_some_iff.1 r1.out).1 | skip); (first | have n1b := Nat.ne_of_gt (Array.getElem?_eq_some_iff.1 r1.out).1 | skip); (first | have n2a := Nat.ne_of_lt (Array.getElem?_eq_some_iff.1 R1.out).1 | skip); (first | have n2b := Nat.ne_of_gt (Array.getElem?_eq_some_iff.1 R1.out).1 | skip); (first | have n3a := Nat.ne_of_lt (Array.getElem?_eq_some_iff.1 R3.out).1 | skip); (first | have n3b := Nat.ne_of_gt (Array.getElem?_eq_some_iff.1 R3.out).1 | skip); (first | have n4a := Nat.ne_of_lt (Array.getElem?_eq_some_iff.1 R2.out).1 | skip); (first | have n4b := Nat.ne_of_gt (Array.getElem?_eq_some_iff.1 R2.out).1 | skip); (first | have n5a := Nat.ne_of_lt (Array.getElem?_eq_some_iff.1 R4.out).1 | skip); (first | have n5b := Nat.ne_of_gt (Array.getElem?_eq_some_iff.1 R4.out).1 | skip); (first | have n6a := Nat.ne_of_lt (Array.getElem?_eq_some_iff.1 r2.out).1 | skip); (first | have n6b := Nat.ne_of_gt (Array.getElem?_eq_some_iff.1 r2.out).1 | skip)))
    all_goals (
      have s0 := HDS.out; have s1 := HAS.out D; have s2 := HAS.out (AZ D); have s3 := HAS.out wA; have s4 := HAS.out (AZ wA); have s5 := HAS.out wM; have s6 := HAS.out (AZ wM)
      have s7 := hextwA.size; have s8 := hextwM.size; have s9 := HZD.out.size; have s10 := EAM.size
      exact Mid.mk ⟨_, _, awA, lwA, cwA, bwA, mwA, dwA, awM, lwM, cwM, bwM, mwM, dwM, by first | kernel_rfl | rfl, by rfl, by rfl, set2_ext (set2_ext (by first | assumption | exact Ext.trans (by assumption) (HAE.out _) | exact Ext.trans (by assumption) (Ext.trans (HAE.out _) (HAE.out _)) | exact HZD.out | exact Ext.trans HZD.out (HAE.out _) | exact Ext.trans HZD.out (Ext.trans (HAE.out _) (HAE.out _))) (by omega) _ _) (by omega) _ _, set2_other (set2_row (by first | exact R1.out | exact R2.out | exact R3.out | exact R4.out | exact rowE (HAE.out _) R1.out | exact rowE (HAE.out _) R2.out | exact rowE (HAE.out _) R3.out | exact rowE (HAE.out _) R4.out | exact HAR.out _ | exact rowE (HAE.out _) (HAR.out _)) _ _) (by omega) _ _, set2_row (set2_other (by first | exact R1.out | exact R2.out | exact R3.out | exact R4.out | exact rowE (HAE.out _) R1.out | exact rowE (HAE.out _) R2.out | exact rowE (HAE.out _) R3.out | exact rowE (HAE.out _) R4.out | exact HAR.out _ | exact rowE (HAE.out _) (HAR.out _)) (by omega) _ _) _ _, own_two oawA (by first | exact EAM | exact Ext.trans EAM (HAE.out _) | exact Ext.trans EAM (Ext.trans (HAE.out _) (HAE.out _))) (by omega) (by omega), own_two obwA (by first | exact EAM | exact Ext.trans EAM (HAE.out _) | exact Ext.trans EAM (Ext.trans (HAE.out _) (HAE.out _))) (by omega) (by omega), own_two oawM (by first | exact Ext.refl _ | exact HAE.out _ | exact Ext.trans (HAE.out _) (HAE.out _)) (by omega) (by omega), own_two obwM (by first | exact Ext.refl _ | exact HAE.out _ | exact Ext.trans (HAE.out _) (HAE.out _)) (by omega) (by omega), by omega, by omega, by omega, by omega⟩)
  rintro A' w5 ⟨B7, B8, a7, l7, c7, b7, m7, d7, a8, l8, c8, b8, m8, d8, hA', hp7, hp8, hE5, hR7, hR8, h7a, h7b, h8a, h8b, hl7, hm7, hl8, hm8⟩
  simp only [putsFrom, List.foldl_cons, List.foldl_nil, hp7, hp8] at hA'
  clear hp7 hp8 hAZ za1 za2 za3 za4 za5 za6 zn1 zn2 hD
  generalize A'.tmps.getD 24 undef = v24 at hA'
  generalize A'.tmps.getD 25 undef = v25 at hA'
  generalize A'.tmps.getD 26 undef = v26 at hA'
  generalize A'.tmps.getD 27 undef = v27 at hA'
  generalize A'.tmps.getD 28 undef = v28 at hA'
  generalize A'.tmps.getD 29 undef = v29 at hA'
  subst hA'
  simp only [Act.put, List.setIfInBounds_toArray, List.set_cons_zero, List.set_cons_succ]
  have E5 := Lib.hid hE5; have R7 := Lib.hid hR7; have R8 := Lib.hid hR8; have H7A := Lib.hid h7a; have H7B := Lib.hid h7b; have H8A := Lib.hid h8a; have H8B := Lib.hid h8b
  clear hE5 hR7 hR8 h7a h7b h8a h8b HS4 HS5 HS6 HAE HAR HAS HDE HDS HZD
  obtain ⟨SN, hSN⟩ : ∃ x, sN N1 D1 N2 D2 = x := ⟨_, rfl⟩
  obtain ⟨SD, hSD⟩ : ∃ x, sD N1 D1 N2 D2 = x := ⟨_, rfl⟩
  obtain ⟨PN, hPN⟩ : ∃ x, pN N1 D1 N2 D2 = x := ⟨_, rfl⟩
  obtain ⟨PD, hPD⟩ : ∃ x, pD N1 D1 N2 D2 = x := ⟨_, rfl⟩
  rw [hSN] at H7A; rw [hSD] at H7B; rw [hPN] at H8A; rw [hPD] at H8B
  have HSNV := Lib.hid hSN; have HSDV := Lib.hid hSD; have HPNV := Lib.hid hPN; have HPDV := Lib.hid hPD
  have HSP : Hid (0 < SD) := Lib.hid (by rw [← hSD]; exact sD_pos HDP1.out HDP2.out)
  have HPP : Hid (0 < PD) := Lib.hid (by rw [← hPD]; exact pD_pos HDP1.out HDP2.out)
  have HSG : Hid (Nat.gcd SN SD = 1) := Lib.hid (by rw [← hSN, ← hSD]; exact r_cop (Nat.mul_pos HDP1.out HDP2.out))
  have HPG : Hid (Nat.gcd PN PD = 1) := Lib.hid (by rw [← hPN, ← hPD]; exact r_cop (Nat.mul_pos HDP1.out HDP2.out))
  have HSC : Hid (sN N2 D2 N1 D1 = SN ∧ sD N2 D2 N1 D1 = SD) := Lib.hid (by rw [← hSN, ← hSD]; exact s_comm _ _ _ _)
  have HPC : Hid (pN N2 D2 N1 D1 = PN ∧ pD N2 D2 N1 D1 = PD) := Lib.hid (by rw [← hPN, ← hPD]; exact p_comm _ _ _ _)
  have HAS : Hid (sN N1 D1 (sN N2 D2 N3 D3) (sD N2 D2 N3 D3) = sN SN SD N3 D3 ∧ sD N1 D1 (sN N2 D2 N3 D3) (sD N2 D2 N3 D3) = sD SN SD N3 D3) := Lib.hid (by rw [← hSN, ← hSD]; exact s_assoc HDP1.out HDP2.out HDP3.out)
  have HDI : Hid (sN (pN N3 D3 N1 D1) (pD N3 D3 N1 D1) (pN N3 D3 N2 D2) (pD N3 D3 N2 D2) = pN N3 D3 SN SD ∧ sD (pN N3 D3 N1 D1) (pD N3 D3 N1 D1) (pN N3 D3 N2 D2) (pD N3 D3 N2 D2) = pD N3 D3 SN SD) := Lib.hid (by rw [← hSN, ← hSD]; exact p_dist HDP1.out HDP2.out HDP3.out)
  have HBK : Hid (N2 * SD ≤ SN * D2 ∧ rN (SN * D2 - N2 * SD) (SD * D2) = rN N1 D1 ∧ rD (SN * D2 - N2 * SD) (SD * D2) = rD N1 D1) := Lib.hid (by rw [← hSN, ← hSD]; exact s_back HDP1.out HDP2.out)
  have HPB : Hid (0 < N2 → rN (PN * D2) (PD * N2) = rN N1 D1 ∧ rD (PN * D2) (PD * N2) = rD N1 D1) := Lib.hid (by rw [← hPN, ← hPD]; exact fun h => p_back HDP1.out HDP2.out h)
  have HP23 : Hid (0 < sD N2 D2 N3 D3) := Lib.hid (sD_pos HDP2.out HDP3.out)
  have HP31 : Hid (0 < pD N3 D3 N1 D1) := Lib.hid (pD_pos HDP3.out HDP1.out)
  have HP32 : Hid (0 < pD N3 D3 N2 D2) := Lib.hid (pD_pos HDP3.out HDP2.out)
  clear hSN hSD hPN hPD
  have HS10 : Hid (∀ w', Ext w5 w' → w'.cell? ⟨w.heap.size, 0, none⟩ = some (.slice a1 m1 c1) ∧ w'.cell? ⟨w.heap.size, 1, none⟩ = some (.slice b1 n1 d1) ∧ w'.cell? ⟨w.heap.size + 1, 0, none⟩ = some (.slice a2 m2 c2) ∧ w'.cell? ⟨w.heap.size + 1, 1, none⟩ = some (.slice b2 n2 d2) ∧ w'.cell? ⟨w.heap.size + 2, 0, none⟩ = some (.slice a3 m3 c3) ∧ w'.cell? ⟨w.heap.size + 2, 1, none⟩ = some (.slice b3 n3 d3) ∧ w'.cell? ⟨B7, 0, none⟩ = some (.slice a7 l7 c7) ∧ w'.cell? ⟨B7, 1, none⟩ = some (.slice b7 m7 d7) ∧ w'.cell? ⟨B8, 0, none⟩ = some (.slice a8 l8 c8) ∧ w'.cell? ⟨B8, 1, none⟩ = some (.slice b8 m8 d8)) := Lib.hid (fun w' h => ⟨(HS.out w' (E5.out.trans h)).1, (HS.out w' (E5.out.trans h)).2.1, (HS.out w' (E5.out.trans h)).2.2.1, (HS.out w' (E5.out.trans h)).2.2.2.1, (HS.out w' (E5.out.trans h)).2.2.2.2.1, (HS.out w' (E5.out.trans h)).2.2.2.2.2, (row2_cells (rowE h R7.out)).1, (row2_cells (rowE h R7.out)).2.1, (row2_cells (rowE h R8.out)).1, (row2_cells (rowE h R8.out)).2.1⟩)
  go_wp2_with fail
  go_region_held3 (fun w' => w'.cell? ⟨w.heap.size, 0, none⟩ = some (.slice a1 m1 c1) ∧ w'.cell? ⟨w.heap.size, 1, none⟩ = some (.slice b1 n1 d1) ∧ w'.cell? ⟨w.heap.size + 1, 0, none⟩ = some (.slice a2 m2 c2) ∧ w'.cell? ⟨w.heap.size + 1, 1, none⟩ = some (.slice b2 n2 d2) ∧ w'.cell? ⟨w.heap.size + 2, 0, none⟩ = some (.slice a3 m3 c3) ∧ w'.cell? ⟨w.heap.size + 2, 1, none⟩ = some (.slice b3 n3 d3) ∧ w'.cell? ⟨B7, 0, none⟩ = some (.slice a7 l7 c7) ∧ w'.cell? ⟨B7, 1, none⟩ = some (.slice b7 m7 d7) ∧ w'.cell? ⟨B8, 0, none⟩ = some (.slice a8 l8 c8) ∧ w'.cell? ⟨B8, 1, none⟩ = some (.slice b8 m8 d8))
    (first | exact HS10.out _ (Ext.refl _).drew | exact HS10.out _ (by assumption))
    (first
      | (go_at_call_of 26 a7; refine (right_law (H7A.out.old (Ext.refl w5).drew) (H7B.out.old (Ext.refl w5).drew) (by omega) (by omega) HSP.out HSG.out (HTZ.out.old (E5.out.trans (Ext.refl w5).drew))).mono ?_; rintro e yA ⟨rfl, hextyA⟩; have EyA : Ext w5 yA := Ext.trans (Ext.refl w5).drew hextyA)
      | (go_at_call_of 26 a8; refine (right_law (H8A.out.old EyA) (H8B.out.old EyA) (by omega) (by omega) HPP.out HPG.out (HTZ.out.old (E5.out.trans EyA))).mono ?_; rintro e yB ⟨rfl, hextyB⟩; have EyB : Ext w5 yB := Ext.trans EyA hextyB)
      | (go_at_call_of 19 (#[Value.agg #[Value.slice a2 m2 c2, Value.slice b2 n2 d2], Value.agg #[Value.slice a1 m1 c1, Value.slice b1 n1 d1]] : Array Value); refine (radd_sN (HA2.out _ (E5.out.trans EyB)) (HB2.out _ (E5.out.trans EyB)) (HA1.out _ (E5.out.trans EyB)) (HB1.out _ (E5.out.trans EyB)) (by omega) (by omega) (by omega) (by omega) (HTZ.out.old (E5.out.trans EyB))).mono ?_; rintro e yC ⟨ayC, lyC, cyC, byC, myC, dyC, rfl, oayC, obyC, hextyC, hlyC, hmyC⟩; rw [HVN2.out, HVD2.out, HN2.out, HD2.out, HVN1.out, HVD1.out, HN1.out, HD1.out, HSC.out.1] at oayC; rw [HVN2.out, HVD2.out, HN2.out, HD2.out, HVN1.out, HVD1.out, HN1.out, HD1.out, HSC.out.2] at obyC; have EyC : Ext w5 yC := Ext.trans EyB hextyC)
      | (go_at_call_of 18 ayC; refine (hrat_at (H7A.out.old EyC) (H7B.out.old EyC) oayC.sl obyC.sl (by omega) (by omega) (by omega) (by omega)).mono ?_; rintro e yD ⟨rfl, hextyD⟩; have EyD : Ext w5 yD := Ext.trans EyC hextyD)
      | (go_at_call_of 21 (#[Value.agg #[Value.slice a2 m2 c2, Value.slice b2 n2 d2], Value.agg #[Value.slice a1 m1 c1, Value.slice b1 n1 d1]] : Array Value); refine (rmul_pN (HA2.out _ (E5.out.trans EyD)) (HB2.out _ (E5.out.trans EyD)) (HA1.out _ (E5.out.trans EyD)) (HB1.out _ (E5.out.trans EyD)) (by omega) (by omega) (by omega) (by omega) (HTZ.out.old (E5.out.trans EyD))).mono ?_; rintro e yE ⟨ayE, lyE, cyE, byE, myE, dyE, rfl, oayE, obyE, hextyE, hlyE, hmyE⟩; rw [HVN2.out, HVD2.out, HN2.out, HD2.out, HVN1.out, HVD1.out, HN1.out, HD1.out, HPC.out.1] at oayE; rw [HVN2.out, HVD2.out, HN2.out, HD2.out, HVN1.out, HVD1.out, HN1.out, HD1.out, HPC.out.2] at obyE; have EyE : Ext w5 yE := Ext.trans EyD hextyE)
      | (go_at_call_of 18 ayE; refine (hrat_at (H8A.out.old EyE) (H8B.out.old EyE) oayE.sl obyE.sl (by omega) (by omega) (by omega) (by omega)).mono ?_; rintro e yF ⟨rfl, hextyF⟩; have EyF : Ext w5 yF := Ext.trans EyE hextyF)
      | (go_at_call_of 19 a7; refine (radd_lim (H7A.out.old EyF) (H7B.out.old EyF) (HA3.out _ (E5.out.trans EyF)) (HB3.out _ (E5.out.trans EyF)) (by omega) (by omega) (by omega) (by omega) (HTZ.out.old (E5.out.trans EyF)) HSP.out).mono ?_; rintro e yG ⟨ayG, lyG, cyG, byG, myG, dyG, rfl, oayG, obyG, hextyG, hlyG, hmyG⟩; rw [HVN3.out, HVD3.out, HN3.out, HD3.out] at oayG obyG; have EyG : Ext w5 yG := Ext.trans EyF hextyG)
      | (go_at_call_of 19 (#[Value.agg #[Value.slice a2 m2 c2, Value.slice b2 n2 d2], Value.agg #[Value.slice a3 m3 c3, Value.slice b3 n3 d3]] : Array Value); refine (radd_sN (HA2.out _ (E5.out.trans EyG)) (HB2.out _ (E5.out.trans EyG)) (HA3.out _ (E5.out.trans EyG)) (HB3.out _ (E5.out.trans EyG)) (by omega) (by omega) (by omega) (by omega) (HTZ.out.old (E5.out.trans EyG))).mono ?_; rintro e yH ⟨ayH, lyH, cyH, byH, myH, dyH, rfl, oayH, obyH, hextyH, hlyH, hmyH⟩; rw [HVN2.out, HVD2.out, HN2.out, HD2.out, HVN3.out, HVD3.out, HN3.out, HD3.out] at oayH obyH; have EyH : Ext w5 yH := Ext.trans EyG hextyH)
      | (go_at_call_of 19 ayH; refine (radd_liR (HA1.out _ (E5.out.trans EyH)) (HB1.out _ (E5.out.trans EyH)) oayH.sl obyH.sl (by omega) (by omega) (by omega) (by omega) (HTZ.out.old (E5.out.trans EyH)) HP23.out).mono ?_; rintro e yI ⟨ayI, lyI, cyI, byI, myI, dyI, rfl, oayI, obyI, hextyI, hlyI, hmyI⟩; rw [HVN1.out, HVD1.out, HN1.out, HD1.out, HAS.out.1] at oayI; rw [HVN1.out, HVD1.out, HN1.out, HD1.out, HAS.out.2] at obyI; have EyI : Ext w5 yI := Ext.trans EyH hextyI)
      | (go_at_call_of 18 ayG; refine (hrat_at (oayG.sl.old (hextyH.trans hextyI)) (obyG.sl.old (hextyH.trans hextyI)) oayI.sl obyI.sl (by omega) (by omega) (by omega) (by omega)).mono ?_; rintro e yJ ⟨rfl, hextyJ⟩; have EyJ : Ext w5 yJ := Ext.trans EyI hextyJ)
      | (go_at_call_of 21 a7; refine (rmul_liR (HA3.out _ (E5.out.trans EyJ)) (HB3.out _ (E5.out.trans EyJ)) (H7A.out.old EyJ) (H7B.out.old EyJ) (by omega) (by omega) (by omega) (by omega) (HTZ.out.old (E5.out.trans EyJ)) HSP.out).mono ?_; rintro e yK ⟨ayK, lyK, cyK, byK, myK, dyK, rfl, oayK, obyK, hextyK, hlyK, hmyK⟩; rw [HVN3.out, HVD3.out, HN3.out, HD3.out] at oayK obyK; have EyK : Ext w5 yK := Ext.trans EyJ hextyK)
      | (go_at_call_of 21 (#[Value.agg #[Value.slice a3 m3 c3, Value.slice b3 n3 d3], Value.agg #[Value.slice a1 m1 c1, Value.slice b1 n1 d1]] : Array Value); refine (rmul_pN (HA3.out _ (E5.out.trans EyK)) (HB3.out _ (E5.out.trans EyK)) (HA1.out _ (E5.out.trans EyK)) (HB1.out _ (E5.out.trans EyK)) (by omega) (by omega) (by omega) (by omega) (HTZ.out.old (E5.out.trans EyK))).mono ?_; rintro e yL ⟨ayL, lyL, cyL, byL, myL, dyL, rfl, oayL, obyL, hextyL, hlyL, hmyL⟩; rw [HVN3.out, HVD3.out, HN3.out, HD3.out, HVN1.out, HVD1.out, HN1.out, HD1.out] at oayL obyL; have EyL : Ext w5 yL := Ext.trans EyK hextyL)
      | (go_at_call_of 21 (#[Value.agg #[Value.slice a3 m3 c3, Value.slice b3 n3 d3], Value.agg #[Value.slice a2 m2 c2, Value.slice b2 n2 d2]] : Array Value); refine (rmul_pN (HA3.out _ (E5.out.trans EyL)) (HB3.out _ (E5.out.trans EyL)) (HA2.out _ (E5.out.trans EyL)) (HB2.out _ (E5.out.trans EyL)) (by omega) (by omega) (by omega) (by omega) (HTZ.out.old (E5.out.trans EyL))).mono ?_; rintro e yM ⟨ayM, lyM, cyM, byM, myM, dyM, rfl, oayM, obyM, hextyM, hlyM, hmyM⟩; rw [HVN3.out, HVD3.out, HN3.out, HD3.out, HVN2.out, HVD2.out, HN2.out, HD2.out] at oayM obyM; have EyM : Ext w5 yM := Ext.trans EyL hextyM)
      | (go_at_call_of 19 ayM; refine (radd_two (oayL.sl.old hextyM) (obyL.sl.old hextyM) oayM.sl obyM.sl (by omega) (by omega) (by omega) (by omega) (HTZ.out.old (E5.out.trans EyM)) HP31.out HP32.out).mono ?_; rintro e yN ⟨ayN, lyN, cyN, byN, myN, dyN, rfl, oayN, obyN, hextyN, hlyN, hmyN⟩; rw [HDI.out.1] at oayN; rw [HDI.out.2] at obyN; have EyN : Ext w5 yN := Ext.trans EyM hextyN)
      | (go_at_call_of 18 ayK; refine (hrat_at (oayK.sl.old (hextyL.trans (hextyM.trans hextyN))) (obyK.sl.old (hextyL.trans (hextyM.trans hextyN))) oayN.sl obyN.sl (by omega) (by omega) (by omega) (by omega)).mono ?_; rintro e yO ⟨rfl, hextyO⟩; have EyO : Ext w5 yO := Ext.trans EyN hextyO))
  have E6 := Lib.hid EyO
  obtain ⟨kk1, kk2, kk3, kk4, kk5, kk6, kk7, kk8, kk9, kk10⟩ := HS10.out yO E6.out
  have E56 := Lib.hid (E5.out.trans E6.out)
  obtain ⟨ON, hON⟩ : ∃ x, rN N1 D1 = x := ⟨_, rfl⟩
  obtain ⟨OD, hOD⟩ : ∃ x, rD N1 D1 = x := ⟨_, rfl⟩
  have HONV := Lib.hid hON; have HODV := Lib.hid hOD
  clear hON hOD
  go_wp2_with fail
  refine (rsub_lim (H7A.out.old E6.out) (H7B.out.old E6.out) (HA2.out _ E56.out) (HB2.out _ E56.out) (by omega) (by omega) (by omega) (by omega) (HTZ.out.old E56.out) HSP.out (U := N2) (V := D2) (by rw [HVN2.out, HVD2.out]; exact HN2.out) (by rw [HVD2.out]; exact HD2.out) HBK.out.1 (HBK.out.2.1.trans HONV.out) (HBK.out.2.2.trans HODV.out)).mono ?_
  rintro e z1 ⟨a9, l9, c9, b9, m9, d9, rfl, oa9, ob9, hext9, hl9, hm9⟩
  obtain ⟨V9, hV9⟩ : ∃ V, z1.alloc (.cells #[.slice a9 l9 c9, .slice b9 m9 d9] 25) = V := ⟨_, rfl⟩
  have E9 := Lib.hid (show Ext X3 V9 by rw [← hV9]; exact (E56.out.trans hext9).alloc _); have E59 := Lib.hid (show Ext w5 V9 by rw [← hV9]; exact (E6.out.trans hext9).alloc _)
  have R9 := Lib.hid (show V9.heap[z1.heap.size]? = some (.cells #[.slice a9 l9 c9, .slice b9 m9 d9] 25 (0, 0)) by rw [← hV9]; exact heap_alloc_new z1 _)
  have H9A := Lib.hid (show Sl V9 a9 l9 c9 (lim ON) by rw [← hV9]; exact oa9.sl.old ((Ext.refl _).alloc _)); have H9B := Lib.hid (show Sl V9 b9 m9 d9 (lim OD) by rw [← hV9]; exact ob9.sl.old ((Ext.refl _).alloc _))
  have HV9 := Lib.hid hV9
  clear oa9 ob9 hext9 hV9 kk1 kk2 kk3 kk4 kk5 kk6 kk7 kk8 kk9 kk10
  go_wp2_with (rw [HV9.out])
  have HS2 : Hid (∀ w', Ext X3 w' → w'.cell? ⟨w.heap.size, 0, none⟩ = some (.slice a1 m1 c1) ∧ w'.cell? ⟨w.heap.size, 1, none⟩ = some (.slice b1 n1 d1)) := Lib.hid (fun w' h => ⟨(HS.out w' h).1, (HS.out w' h).2.1⟩)
  have HS2' : Hid (∀ w' u v B, Ext X3 w' → X3.heap.size ≤ B → ((w'.setCell ⟨B, 0, none⟩ u).setCell ⟨B, 1, none⟩ v).cell? ⟨w.heap.size, 0, none⟩ = some (.slice a1 m1 c1) ∧ ((w'.setCell ⟨B, 0, none⟩ u).setCell ⟨B, 1, none⟩ v).cell? ⟨w.heap.size, 1, none⟩ = some (.slice b1 n1 d1)) := Lib.hid (fun w' u v B h hB => HS2.out _ (set2_ext h hB u v))
  refine wp_region_mid (fun A A' W' => ∃ (BX : Nat) (au : Option Addr) (lu cu : Nat) (av : Option Addr) (lv cv : Nat), A' = putsFrom A A' [11, 86, 87, 88] ∧ A'.tmps.getD 11 undef = .pointer (some ⟨BX, 0, none⟩) ∧ Ext V9 W' ∧ W'.heap[BX]? = some (.cells #[.slice au lu cu, .slice av lv cv] 25 (0, 0)) ∧ Sl W' au lu cu (lim ON) ∧ Sl W' av lv cv (lim OD) ∧ lu ≤ 100 ∧ lv ≤ 100) ?_ ?_
  · skip
    go_region_held3 (fun w' => w'.cell? ⟨w.heap.size, 0, none⟩ = some (.slice a1 m1 c1) ∧ w'.cell? ⟨w.heap.size, 1, none⟩ = some (.slice b1 n1 d1))
      (first | exact HS2.out _ (E9.out.trans (Ext.refl _).drew) | exact HS2.out _ (E9.out.trans ((Ext.refl _).drew.alloc _)) | exact HS2.out _ (E9.out.trans (by assumption)) | exact HS2.out _ (E9.out.trans (Ext.alloc (by assumption) _)) | exact HS2'.out _ _ _ _ (E9.out.trans (by assumption)) (Nat.le_trans E9.out.size (by first | exact Nat.le_refl _ | exact Ext.size (by assumption))))
      (first
        | (go_at_call 27; refine (rofnat_nil _).mono ?_; rintro e wA ⟨aA, lA, cA, bA, mA, dA, rfl, oaA, obA, hextwA, hlA, hmA⟩; have EwA : Ext V9 wA := (by first | exact Ext.trans (Ext.refl V9).drew hextwA | exact Ext.trans (Ext.alloc (Ext.refl V9).drew _) hextwA))
        | (go_at_call 19; refine (rown_calls (HA1.out _ (E9.out.trans (by first | exact EwA | exact Ext.alloc EwA _))) (HB1.out _ (E9.out.trans (by first | exact EwA | exact Ext.alloc EwA _))) (oaA.sl.old (by first | exact Ext.refl _ | exact (Ext.refl _).alloc _)) (obA.sl.old (by first | exact Ext.refl _ | exact (Ext.refl _).alloc _)) (by omega) (by omega) (by omega) (by omega) (HTZ.out.old (E9.out.trans (by first | exact EwA | exact Ext.alloc EwA _))) (U := N1) (V := D1) (by rw [HVN1.out, HVD1.out]; exact HN1.out) (by rw [HVD1.out]; exact HD1.out)).mono ?_; rintro e wC ⟨aC, lC, cC, bC, mC, dC, rfl, oaC, obC, hextwC, hlC, hmC⟩; rw [HONV.out] at oaC; rw [HODV.out] at obC; have EwC : Ext V9 wC := (by first | exact Ext.trans EwA hextwC | exact Ext.trans (Ext.alloc EwA _) hextwC); (first | have R9' : Hid (wC.heap[V9.heap.size]? = some (.cells #[.slice none 0 0, .slice none 0 0] 25 (0, 0))) := Lib.hid (rowE (Ext.trans hextwA hextwC) (heap_alloc_new V9.drew (.cells #[.slice none 0 0, .slice none 0 0] 25))) | have R9' : Hid (wC.heap[V9.heap.size]? = some (.cells #[.slice none 0 0, .slice none 0 0] 25 (0, 0))) := Lib.hid (rowE (Ext.trans ((Ext.refl _).drew) (Ext.trans hextwA hextwC)) (heap_alloc_new V9 (.cells #[.slice none 0 0, .slice none 0 0] 25))) | have R9' := Lib.hid (rowE hextwC (heap_alloc_new wA (.cells #[.slice none 0 0, .slice none 0 0] 25))) | skip); (first | have y1 := (row2_cells R9'.out).1 | skip); (first | have y2 := (row2_cells R9'.out).2.1 | skip); (first | have y3 := (row2_cells R9'.out).2.2.1 | skip); (first | have y4 := (row2_cells R9'.out).2.2.2 | skip)))
    all_goals (
      have zA := EwA.size; have zC := EwC.size
      first
        | exact Mid.mk ⟨_, aC, lC, cC, bC, mC, dC, by first | kernel_rfl | rfl, by rfl, set2_ext EwC (by first | exact Nat.le_refl _ | exact EwA.size) _ _, set2_row R9'.out _ _, (oaC.set2 _ _ (by first | (have h1 : (V9.alloc (.cells #[.slice none 0 0, .slice none 0 0] 25)).heap.size ≤ wA.heap.size := hextwA.size; have := alloc_size V9 (.cells #[.slice none 0 0, .slice none 0 0] 25); omega) | (have := alloc_size wA (.cells #[.slice none 0 0, .slice none 0 0] 25); omega))).sl, (obC.set2 _ _ (by first | (have h1 : (V9.alloc (.cells #[.slice none 0 0, .slice none 0 0] 25)).heap.size ≤ wA.heap.size := hextwA.size; have := alloc_size V9 (.cells #[.slice none 0 0, .slice none 0 0] 25); omega) | (have := alloc_size wA (.cells #[.slice none 0 0, .slice none 0 0] 25); omega))).sl, by omega, by omega⟩
        | exact Mid.mk ⟨_, aC, lC, cC, bC, mC, dC, by first | kernel_rfl | rfl, by rfl, EwC.alloc _, heap_alloc_new wC _, oaC.sl.old ((Ext.refl _).alloc _), obC.sl.old ((Ext.refl _).alloc _), by omega, by omega⟩)
  rintro A' V11 ⟨BX, au, lu, cu, av, lv, cv, hA', hp11, hE11, hR11, hsu, hsv, hlu, hlv⟩
  simp only [putsFrom, List.foldl_cons, List.foldl_nil, hp11] at hA'
  clear hp11
  generalize A'.tmps.getD 86 undef = v86 at hA'
  generalize A'.tmps.getD 87 undef = v87 at hA'
  generalize A'.tmps.getD 88 undef = v88 at hA'
  subst hA'
  simp only [Act.put, List.setIfInBounds_toArray, List.set_cons_zero, List.set_cons_succ]
  have E9q := Lib.hid hE11; have E11 := Lib.hid (E9.out.trans hE11); have R11 := Lib.hid hR11; have HSU := Lib.hid hsu; have HSV := Lib.hid hsv; have E511 := Lib.hid (E59.out.trans hE11)
  clear hE11 hR11 hsu hsv
  obtain ⟨p1, p2, p3, p4⟩ := row2_cells (rowE E9q.out R9.out)
  obtain ⟨i1, i2, i3, i4⟩ := row2_cells R11.out
  go_wp2_with fail
  refine (hrat_at (H9A.out.old E9q.out) (H9B.out.old E9q.out) HSU.out HSV.out (by omega) (by omega) (by omega) (by omega)).mono ?_
  rintro e z2 ⟨rfl, hextz2⟩
  have E12 := Lib.hid (E11.out.trans hextz2); have E512 := Lib.hid (E511.out.trans hextz2); have E11q := Lib.hid hextz2
  clear hextz2 p1 p2 p3 p4 i1 i2 i3 i4
  obtain ⟨kk1, kk2, kk3, kk4, kk5, kk6, kk7, kk8, kk9, kk10⟩ := HS10.out z2 E512.out
  by_cases hz0 : N2 = 0
  · have CQ := Lib.hid (rquo_zero (H8A.out.old E512.out) (H8B.out.old E512.out) (HA2.out _ E12.out) (HB2.out _ E12.out) (by omega) (by omega) (by omega) (by omega) (by rw [HVN2.out, HVD2.out, HN2.out]; exact hz0))
    have HZ0 := Lib.hid hz0
    clear hz0
    go_wp2_with fail
    refine CQ.out.mono ?_
    rintro e z3 ⟨aq, lq, cq, bq, mq, dq, rfl, oaq, obq, hextz3, hlq, hmq⟩
    have E13 := Lib.hid ((E12.out.trans hextz3).alloc (.cells #[.slice aq lq cq, .slice bq mq dq] 25))
    clear oaq obq hextz3 kk1 kk2 kk3 kk4 kk5 kk6 kk7 kk8 kk9 kk10
    obtain ⟨k1, k2, k3, k4, k5, k6⟩ := HS.out _ E13.out
    have CZ := rzero_calls (HA2.out _ E13.out) (HB2.out _ E13.out) (by omega) (by omega)
    rw [HVN2.out, HVD2.out, HN2.out, decide_eq_true HZ0.out] at CZ
    have HCZ := Lib.hid CZ
    clear CZ
    go_wp2_with fail
    refine HCZ.out.mono ?_
    rintro e z4 ⟨rfl, hextz4⟩
    go_wp2_with fail
    go_ret
    exact ⟨rfl, HEL.out.trans (E13.out.trans hextz4)⟩
  have CQ := Lib.hid (rquo_lim (H8A.out.old E512.out) (H8B.out.old E512.out) (HA2.out _ E12.out) (HB2.out _ E12.out) (by omega) (by omega) (by omega) (by omega) (HTZ.out.old E12.out) HPP.out (U := N2) (V := D2) (by rw [HVN2.out, HVD2.out]; exact HN2.out) (by rw [HVD2.out]; exact HD2.out) hz0 ((HPB.out (Nat.pos_of_ne_zero hz0)).1.trans HONV.out) ((HPB.out (Nat.pos_of_ne_zero hz0)).2.trans HODV.out))
  have HZ0 := Lib.hid hz0
  clear hz0
  go_wp2_with fail
  refine CQ.out.mono ?_
  rintro e z3 ⟨aq, lq, cq, bq, mq, dq, rfl, oaq, obq, hextz3, hlq, hmq⟩
  obtain ⟨V12, hV12⟩ : ∃ V, z3.alloc (.cells #[.slice aq lq cq, .slice bq mq dq] 25) = V := ⟨_, rfl⟩
  have E13q := Lib.hid (show Ext z2 V12 by rw [← hV12]; exact hextz3.alloc _)
  have R12 := Lib.hid (show V12.heap[z3.heap.size]? = some (.cells #[.slice aq lq cq, .slice bq mq dq] 25 (0, 0)) by rw [← hV12]; exact heap_alloc_new z3 _)
  have HQA := Lib.hid (show Sl V12 aq lq cq (lim ON) by rw [← hV12]; exact oaq.sl.old ((Ext.refl _).alloc _)); have HQB := Lib.hid (show Sl V12 bq mq dq (lim OD) by rw [← hV12]; exact obq.sl.old ((Ext.refl _).alloc _))
  have HV12 := Lib.hid hV12; have E13 := Lib.hid (E12.out.trans E13q.out)
  clear oaq obq hextz3 hV12 kk1 kk2 kk3 kk4 kk5 kk6 kk7 kk8 kk9 kk10 CQ
  obtain ⟨k1, k2, k3, k4, k5, k6⟩ := HS.out _ E13.out
  have CZ := rzero_calls (HA2.out _ E13.out) (HB2.out _ E13.out) (by omega) (by omega)
  rw [HVN2.out, HVD2.out, HN2.out, decide_eq_false HZ0.out] at CZ
  have HCZ := Lib.hid CZ
  clear CZ
  go_wp2_with (rw [HV12.out])
  refine HCZ.out.mono ?_
  rintro e z4 ⟨rfl, hextz4⟩
  have E14 := Lib.hid (E13.out.trans hextz4); have E13r := Lib.hid hextz4
  clear hextz4 k1 k2 k3 k4 k5 k6
  obtain ⟨k1, k2, k3, k4, k5, k6⟩ := HS.out _ E14.out
  obtain ⟨q, hq⟩ : ∃ q, cmpN (N1 * D2) (N2 * D1) = q := ⟨_, rfl⟩
  have HQV := Lib.hid hq
  have HOE : Hid (decide (lim ON = lim (rN N2 D2) ∧ lim OD = lim (rD N2 D2)) = (q == 0)) := Lib.hid (by rw [← HONV.out, ← HODV.out, own_eq HDP1.out HDP2.out, hq])
  rcases Nat.lt_or_ge (N1 * D2) (N2 * D1) with hlt | hge
  · have hq1 : q = -1 := by rw [← hq, cmpN_lt hlt]
    subst hq1
    have CS := Lib.hid (rsub_below (HA1.out _ E14.out) (HB1.out _ E14.out) (HA2.out _ E14.out) (HB2.out _ E14.out) (by omega) (by omega) (by omega) (by omega) (by rw [HVN1.out, HVD1.out, HVN2.out, HVD2.out, HN1.out, HD1.out, HN2.out, HD2.out]; exact hlt))
    clear hlt hq
    go_wp2_with fail
    refine CS.out.mono ?_
    rintro e z5 ⟨ax, lx, cx, bx, mx, dx, rfl, oax, obx, hextz5, hlx, hmx⟩
    obtain ⟨V14, hV14⟩ : ∃ V, z5.alloc (.cells #[.slice ax lx cx, .slice bx mx dx] 25) = V := ⟨_, rfl⟩
    have E15q := Lib.hid (show Ext z4 V14 by rw [← hV14]; exact hextz5.alloc _)
    have R14 := Lib.hid (show V14.heap[z5.heap.size]? = some (.cells #[.slice ax lx cx, .slice bx mx dx] 25 (0, 0)) by rw [← hV14]; exact heap_alloc_new z5 _)
    have HV14 := Lib.hid hV14; have E15 := Lib.hid (E14.out.trans E15q.out); have EQ4 := Lib.hid (E13q.out.trans (E13r.out.trans E15q.out)); have EU := Lib.hid (E11q.out.trans (E13q.out.trans (E13r.out.trans E15q.out)))
    have EQ3 := Lib.hid (E13r.out.trans E15q.out)
    clear oax obx hextz5 hV14 k1 k2 k3 k4 k5 k6
    have HS16 : Hid (∀ w', Ext V14 w' → w'.cell? ⟨w.heap.size, 0, none⟩ = some (.slice a1 m1 c1) ∧ w'.cell? ⟨w.heap.size, 1, none⟩ = some (.slice b1 n1 d1) ∧ w'.cell? ⟨w.heap.size + 1, 0, none⟩ = some (.slice a2 m2 c2) ∧ w'.cell? ⟨w.heap.size + 1, 1, none⟩ = some (.slice b2 n2 d2) ∧ w'.cell? ⟨BX, 0, none⟩ = some (.slice au lu cu) ∧ w'.cell? ⟨BX, 1, none⟩ = some (.slice av lv cv) ∧ w'.cell? ⟨z3.heap.size, 0, none⟩ = some (.slice aq lq cq) ∧ w'.cell? ⟨z3.heap.size, 1, none⟩ = some (.slice bq mq dq) ∧ w'.cell? ⟨z5.heap.size, 0, none⟩ = some (.slice ax lx cx) ∧ w'.cell? ⟨z5.heap.size, 1, none⟩ = some (.slice bx mx dx)) := Lib.hid (fun w' h => ⟨(HS.out w' (E15.out.trans h)).1, (HS.out w' (E15.out.trans h)).2.1, (HS.out w' (E15.out.trans h)).2.2.1, (HS.out w' (E15.out.trans h)).2.2.2.1, (row2_cells (rowE (EU.out.trans h) R11.out)).1, (row2_cells (rowE (EU.out.trans h) R11.out)).2.1, (row2_cells (rowE (EQ3.out.trans h) R12.out)).1, (row2_cells (rowE (EQ3.out.trans h) R12.out)).2.1, (row2_cells (rowE h R14.out)).1, (row2_cells (rowE h R14.out)).2.1⟩)
    go_wp2_with (rw [HV14.out])
    refine wp_region_held_drew (S := (fun w' => w'.cell? ⟨w.heap.size, 0, none⟩ = some (.slice a1 m1 c1) ∧ w'.cell? ⟨w.heap.size, 1, none⟩ = some (.slice b1 n1 d1) ∧ w'.cell? ⟨w.heap.size + 1, 0, none⟩ = some (.slice a2 m2 c2) ∧ w'.cell? ⟨w.heap.size + 1, 1, none⟩ = some (.slice b2 n2 d2) ∧ w'.cell? ⟨BX, 0, none⟩ = some (.slice au lu cu) ∧ w'.cell? ⟨BX, 1, none⟩ = some (.slice av lv cv) ∧ w'.cell? ⟨z3.heap.size, 0, none⟩ = some (.slice aq lq cq) ∧ w'.cell? ⟨z3.heap.size, 1, none⟩ = some (.slice bq mq dq) ∧ w'.cell? ⟨z5.heap.size, 0, none⟩ = some (.slice ax lx cx) ∧ w'.cell? ⟨z5.heap.size, 1, none⟩ = some (.slice bx mx dx))) (by kernel_rfl) (HS16.out _ (Ext.refl V14).drew) (fun hHeld => ?_)
    refine takeW (i := 0) (v := ?_) rfl (by kernel_rfl) (by kernel_rfl) (by kernel_rfl) (fun _ _ _ h => h) (Or.inl ⟨by rfl, ?_⟩) (by assumption) ?_
    rotate_left
    · (intro wz hSw; (try dsimp only at hSw); go_simp <;> with_reducible rfl)
    try simp only [Act.put, List.setIfInBounds_toArray, List.set_cons_zero, List.set_cons_succ]
    refine takeW (i := 1) (v := ?_) rfl (by kernel_rfl) (by kernel_rfl) (by kernel_rfl) (fun _ _ _ h => h) (Or.inl ⟨by rfl, ?_⟩) (by assumption) ?_
    rotate_left
    · (intro wz hSw; (try dsimp only at hSw); go_simp <;> with_reducible rfl)
    try simp only [Act.put, List.setIfInBounds_toArray, List.set_cons_zero, List.set_cons_succ]
    refine takeW (i := 2) (v := ?_) rfl (by kernel_rfl) (by kernel_rfl) (by kernel_rfl) (fun _ _ _ h => h) (Or.inl ⟨by rfl, ?_⟩) (by assumption) ?_
    rotate_left
    · (intro wz hSw; (try dsimp only at hSw); go_simp <;> with_reducible rfl)
    try simp only [Act.put, List.setIfInBounds_toArray, List.set_cons_zero, List.set_cons_succ]
    refine takeW (i := 3) (v := ?_) rfl (by kernel_rfl) (by kernel_rfl) (by kernel_rfl) (fun _ _ _ h => h) (Or.inl ⟨by rfl, ?_⟩) (by assumption) ?_
    rotate_left
    · (intro wz hSw; (try dsimp only at hSw); go_simp <;> with_reducible rfl)
    try simp only [Act.put, List.setIfInBounds_toArray, List.set_cons_zero, List.set_cons_succ]
    refine takeW (i := 4) (v := ?_) rfl (by kernel_rfl) (by kernel_rfl) (by kernel_rfl) (fun _ _ _ h => h) (Or.inl ⟨by rfl, ?_⟩) (by assumption) ?_
    rotate_left
    · (intro wz hSw; (try dsimp only at hSw); go_simp <;> with_reducible rfl)
    try simp only [Act.put, List.setIfInBounds_toArray, List.set_cons_zero, List.set_cons_succ]
    refine wpAnyH_ready (rs := [5]) (by kernel_rfl) (by simp) ?_
    refine consW rfl (fun K hK => ?_) AllReadyH.nil
    go_simp
    go_at_call_of 18 aq
    refine (hrat_at (HQA.out.old (EQ3.out.trans (Ext.refl V14).drew)) (HQB.out.old (EQ3.out.trans (Ext.refl V14).drew)) (HSU.out.old (EU.out.trans (Ext.refl V14).drew)) (HSV.out.old (EU.out.trans (Ext.refl V14).drew)) (by omega) (by omega) (by omega) (by omega)).mono ?_
    rintro e yA ⟨rfl, hextyA⟩
    have EyA : Ext V14 yA := Ext.trans (Ext.refl V14).drew hextyA
    try go_wp2_with fail
    refine hK.out _ _ ?_ (fun hHeld => ?_)
    · (try dsimp only); exact HS16.out _ EyA
    clear hK K
    try simp only [Act.put, List.setIfInBounds_toArray, List.set_cons_zero, List.set_cons_succ]
    refine takeW (i := 6) (v := ?_) rfl (by kernel_rfl) (by kernel_rfl) (by kernel_rfl) (fun _ _ _ h => h) (Or.inl ⟨by rfl, ?_⟩) (by assumption) ?_
    rotate_left
    · (intro wz hSw; (try dsimp only at hSw); go_simp <;> with_reducible rfl)
    try simp only [Act.put, List.setIfInBounds_toArray, List.set_cons_zero, List.set_cons_succ]
    refine takeW (i := 7) (v := ?_) rfl (by kernel_rfl) (by kernel_rfl) (by kernel_rfl) (fun _ _ _ h => h) (Or.inl ⟨by rfl, ?_⟩) (by assumption) ?_
    rotate_left
    · (intro wz hSw; (try dsimp only at hSw); go_simp <;> with_reducible rfl)
    try simp only [Act.put, List.setIfInBounds_toArray, List.set_cons_zero, List.set_cons_succ]
    refine takeW (i := 8) (v := ?_) rfl (by kernel_rfl) (by kernel_rfl) (by kernel_rfl) (fun _ _ _ h => h) (Or.inl ⟨by rfl, ?_⟩) (by assumption) ?_
    rotate_left
    · (intro wz hSw; (try dsimp only at hSw); go_simp <;> with_reducible rfl)
    try simp only [Act.put, List.setIfInBounds_toArray, List.set_cons_zero, List.set_cons_succ]
    refine takeW (i := 9) (v := ?_) rfl (by kernel_rfl) (by kernel_rfl) (by kernel_rfl) (fun _ _ _ h => h) (Or.inl ⟨by rfl, ?_⟩) (by assumption) ?_
    rotate_left
    · (intro wz hSw; (try dsimp only at hSw); go_simp <;> with_reducible rfl)
    try simp only [Act.put, List.setIfInBounds_toArray, List.set_cons_zero, List.set_cons_succ]
    refine takeW (i := 12) (v := ?_) rfl (by kernel_rfl) (by kernel_rfl) (by kernel_rfl) (fun _ _ _ h => h) (Or.inl ⟨by rfl, ?_⟩) (by assumption) ?_
    rotate_left
    · (intro wz hSw; (try dsimp only at hSw); go_simp <;> with_reducible rfl)
    try simp only [Act.put, List.setIfInBounds_toArray, List.set_cons_zero, List.set_cons_succ]
    refine takeW (i := 13) (v := ?_) rfl (by kernel_rfl) (by kernel_rfl) (by kernel_rfl) (fun _ _ _ h => h) (Or.inl ⟨by rfl, ?_⟩) (by assumption) ?_
    rotate_left
    · (intro wz hSw; (try dsimp only at hSw); go_simp <;> with_reducible rfl)
    try simp only [Act.put, List.setIfInBounds_toArray, List.set_cons_zero, List.set_cons_succ]
    refine wpAnyH_ready (rs := [10]) (by kernel_rfl) (by simp) ?_
    refine consW rfl (fun K hK => ?_) AllReadyH.nil
    go_simp
    go_at_call 16
    refine (rcmp_calls (HA1.out _ (E15.out.trans EyA)) (HB1.out _ (E15.out.trans EyA)) (HA2.out _ (E15.out.trans EyA)) (HB2.out _ (E15.out.trans EyA)) (by omega) (by omega) (by omega) (by omega)).mono ?_
    rintro e yB ⟨rfl, hextyB⟩
    rw [HVN1.out, HVD1.out, HVN2.out, HVD2.out, HN1.out, HD1.out, HN2.out, HD2.out, HQV.out]
    have EyB : Ext V14 yB := Ext.trans EyA hextyB
    try go_wp2_with fail
    refine hK.out _ _ ?_ (fun hHeld => ?_)
    · (try dsimp only); exact HS16.out _ EyB
    clear hK K
    try simp only [Act.put, List.setIfInBounds_toArray, List.set_cons_zero, List.set_cons_succ]
    refine takeW (i := 11) (v := ?_) rfl (by kernel_rfl) (by kernel_rfl) (by kernel_rfl) (fun _ _ _ h => h) (Or.inl ⟨by rfl, ?_⟩) (by assumption) ?_
    rotate_left
    · (intro wz hSw; (try dsimp only at hSw); go_simp <;> with_reducible rfl)
    try simp only [Act.put, List.setIfInBounds_toArray, List.set_cons_zero, List.set_cons_succ]
    refine takeW (i := 14) (v := ?_) rfl (by kernel_rfl) (by kernel_rfl) (by kernel_rfl) (fun _ _ _ h => h) (Or.inl ⟨by rfl, ?_⟩) (by assumption) ?_
    rotate_left
    · (intro wz hSw; (try dsimp only at hSw); go_simp <;> with_reducible rfl)
    try simp only [Act.put, List.setIfInBounds_toArray, List.set_cons_zero, List.set_cons_succ]
    refine skipW (i := 15) rfl (by kernel_rfl) (by kernel_rfl) (by kernel_rfl) (fun _ _ _ h => h) (by rfl) (by assumption) ?_
    try simp only [Act.put, List.setIfInBounds_toArray, List.set_cons_zero, List.set_cons_succ]
    refine skipW (i := 16) rfl (by kernel_rfl) (by kernel_rfl) (by kernel_rfl) (fun _ _ _ h => h) (by rfl) (by assumption) ?_
    try simp only [Act.put, List.setIfInBounds_toArray, List.set_cons_zero, List.set_cons_succ]
    refine skipW (i := 17) rfl (by kernel_rfl) (by kernel_rfl) (by kernel_rfl) (fun _ _ _ h => h) (by rfl) (by assumption) ?_
    try simp only [Act.put, List.setIfInBounds_toArray, List.set_cons_zero, List.set_cons_succ]
    refine takeW (i := 18) (v := ?_) rfl (by kernel_rfl) (by kernel_rfl) (by kernel_rfl) (fun _ _ _ h => h) (Or.inl ⟨by rfl, ?_⟩) (by assumption) ?_
    rotate_left
    · (intro wz hSw; (try dsimp only at hSw); go_simp <;> with_reducible rfl)
    try simp only [Act.put, List.setIfInBounds_toArray, List.set_cons_zero, List.set_cons_succ]
    refine takeW (i := 19) (v := ?_) rfl (by kernel_rfl) (by kernel_rfl) (by kernel_rfl) (fun _ _ _ h => h) (Or.inl ⟨by rfl, ?_⟩) (by assumption) ?_
    rotate_left
    · (intro wz hSw; (try dsimp only at hSw); go_simp <;> with_reducible rfl)
    try simp only [Act.put, List.setIfInBounds_toArray, List.set_cons_zero, List.set_cons_succ]
    refine takeW (i := 20) (v := ?_) rfl (by kernel_rfl) (by kernel_rfl) (by kernel_rfl) (fun _ _ _ h => h) (Or.inl ⟨by rfl, ?_⟩) (by assumption) ?_
    rotate_left
    · (intro wz hSw; (try dsimp only at hSw); go_simp <;> with_reducible rfl)
    try simp only [Act.put, List.setIfInBounds_toArray, List.set_cons_zero, List.set_cons_succ]
    refine takeW (i := 21) (v := ?_) rfl (by kernel_rfl) (by kernel_rfl) (by kernel_rfl) (fun _ _ _ h => h) (Or.inl ⟨by rfl, ?_⟩) (by assumption) ?_
    rotate_left
    · (intro wz hSw; (try dsimp only at hSw); go_simp <;> with_reducible rfl)
    try simp only [Act.put, List.setIfInBounds_toArray, List.set_cons_zero, List.set_cons_succ]
    refine takeW (i := 22) (v := ?_) rfl (by kernel_rfl) (by kernel_rfl) (by kernel_rfl) (fun _ _ _ h => h) (Or.inl ⟨by rfl, ?_⟩) (by assumption) ?_
    rotate_left
    · (intro wz hSw; (try dsimp only at hSw); go_simp <;> with_reducible rfl)
    try simp only [Act.put, List.setIfInBounds_toArray, List.set_cons_zero, List.set_cons_succ]
    refine takeW (i := 23) (v := ?_) rfl (by kernel_rfl) (by kernel_rfl) (by kernel_rfl) (fun _ _ _ h => h) (Or.inl ⟨by rfl, ?_⟩) (by assumption) ?_
    rotate_left
    · (intro wz hSw; (try dsimp only at hSw); go_simp <;> with_reducible rfl)
    try simp only [Act.put, List.setIfInBounds_toArray, List.set_cons_zero, List.set_cons_succ]
    refine takeW (i := 26) (v := ?_) rfl (by kernel_rfl) (by kernel_rfl) (by kernel_rfl) (fun _ _ _ h => h) (Or.inl ⟨by rfl, ?_⟩) (by assumption) ?_
    rotate_left
    · (intro wz hSw; (try dsimp only at hSw); go_simp <;> with_reducible rfl)
    try simp only [Act.put, List.setIfInBounds_toArray, List.set_cons_zero, List.set_cons_succ]
    refine takeW (i := 27) (v := ?_) rfl (by kernel_rfl) (by kernel_rfl) (by kernel_rfl) (fun _ _ _ h => h) (Or.inl ⟨by rfl, ?_⟩) (by assumption) ?_
    rotate_left
    · (intro wz hSw; (try dsimp only at hSw); go_simp <;> with_reducible rfl)
    try simp only [Act.put, List.setIfInBounds_toArray, List.set_cons_zero, List.set_cons_succ]
    refine wpAnyH_ready (rs := [24]) (by kernel_rfl) (by simp) ?_
    refine consW rfl (fun K hK => ?_) AllReadyH.nil
    go_simp
    go_at_call 16
    refine (rcmp_calls (HA1.out _ (E15.out.trans EyB)) (HB1.out _ (E15.out.trans EyB)) (HA2.out _ (E15.out.trans EyB)) (HB2.out _ (E15.out.trans EyB)) (by omega) (by omega) (by omega) (by omega)).mono ?_
    rintro e yG ⟨rfl, hextyG⟩
    rw [HVN1.out, HVD1.out, HVN2.out, HVD2.out, HN1.out, HD1.out, HN2.out, HD2.out, HQV.out]
    have EyG : Ext V14 yG := Ext.trans EyB hextyG
    try go_wp2_with fail
    refine hK.out _ _ ?_ (fun hHeld => ?_)
    · (try dsimp only); exact HS16.out _ EyG
    clear hK K
    try simp only [Act.put, List.setIfInBounds_toArray, List.set_cons_zero, List.set_cons_succ]
    refine takeW (i := 25) (v := ?_) rfl (by kernel_rfl) (by kernel_rfl) (by kernel_rfl) (fun _ _ _ h => h) (Or.inl ⟨by rfl, ?_⟩) (by assumption) ?_
    rotate_left
    · (intro wz hSw; (try dsimp only at hSw); go_simp <;> with_reducible rfl)
    try simp only [Act.put, List.setIfInBounds_toArray, List.set_cons_zero, List.set_cons_succ]
    refine wpAnyH_ready (rs := [28]) (by kernel_rfl) (by simp) ?_
    refine consW rfl (fun K hK => ?_) AllReadyH.nil
    go_simp
    go_at_call 27
    refine (rofnat_nil _).mono ?_
    rintro e yD ⟨aD, lD, cD, bD, mD, dD', rfl, oaD, obD, hextyD, hlD, hmD⟩
    have EyD : Ext V14 yD := Ext.trans EyG hextyD
    try go_wp2_with fail
    refine hK.out _ _ ?_ (fun hHeld => ?_)
    · (try dsimp only); exact HS16.out _ EyD
    clear hK K
    try simp only [Act.put, List.setIfInBounds_toArray, List.set_cons_zero, List.set_cons_succ]
    refine wpAnyH_ready (rs := [29]) (by kernel_rfl) (by simp) ?_
    refine consW rfl (fun K hK => ?_) AllReadyH.nil
    go_simp
    go_at_call 19
    refine (rown_calls (HA2.out _ (E15.out.trans EyD)) (HB2.out _ (E15.out.trans EyD)) oaD.sl obD.sl (by omega) (by omega) (by omega) (by omega) (HTZ.out.old (E15.out.trans EyD)) (U := N2) (V := D2) (by rw [HVN2.out, HVD2.out]; exact HN2.out) (by rw [HVD2.out]; exact HD2.out)).mono ?_
    rintro e yE ⟨aE, lE, cE, bE, mE, dE, rfl, oaE, obE, hextyE, hlE, hmE⟩
    have EyE : Ext V14 yE := Ext.trans EyD hextyE
    try go_wp2_with fail
    refine hK.out _ _ ?_ (fun hHeld => ?_)
    · (try dsimp only); exact HS16.out _ EyE
    clear hK K
    try simp only [Act.put, List.setIfInBounds_toArray, List.set_cons_zero, List.set_cons_succ]
    refine wpAnyH_ready (rs := [30]) (by kernel_rfl) (by simp) ?_
    refine consW rfl (fun K hK => ?_) AllReadyH.nil
    go_simp
    go_at_call_of 18 aE
    refine (hrat_calls (HSU.out.old (EU.out.trans EyE)) (HSV.out.old (EU.out.trans EyE)) oaE.sl obE.sl (by omega) (by omega) (by omega) (by omega)).mono ?_
    rintro e yF ⟨rfl, hextyF⟩
    rw [HOE.out]
    have EyF : Ext V14 yF := Ext.trans EyE hextyF
    try go_wp2_with fail
    refine hK.out _ _ ?_ (fun hHeld => ?_)
    · (try dsimp only); exact HS16.out _ EyF
    clear hK K
    try simp only [Act.put, List.setIfInBounds_toArray, List.set_cons_zero, List.set_cons_succ]
    refine takeW (i := 31) (v := ?_) rfl (by kernel_rfl) (by kernel_rfl) (by kernel_rfl) (fun _ _ _ h => h) (Or.inl ⟨by rfl, ?_⟩) (by assumption) ?_
    rotate_left
    · (intro wz hSw; (try dsimp only at hSw); go_simp <;> with_reducible rfl)
    try simp only [Act.put, List.setIfInBounds_toArray, List.set_cons_zero, List.set_cons_succ]
    refine takeW (i := 32) (v := ?_) rfl (by kernel_rfl) (by kernel_rfl) (by kernel_rfl) (fun _ _ _ h => h) (Or.inl ⟨by rfl, ?_⟩) (by assumption) ?_
    rotate_left
    · (intro wz hSw; (try dsimp only at hSw); go_simp <;> with_reducible rfl)
    try simp only [Act.put, List.setIfInBounds_toArray, List.set_cons_zero, List.set_cons_succ]
    refine takeW (i := 33) (v := ?_) rfl (by kernel_rfl) (by kernel_rfl) (by kernel_rfl) (fun _ _ _ h => h) (Or.inl ⟨by rfl, ?_⟩) (by assumption) ?_
    rotate_left
    · (intro wz hSw; (try dsimp only at hSw); go_simp <;> with_reducible rfl)
    try simp only [Act.put, List.setIfInBounds_toArray, List.set_cons_zero, List.set_cons_succ]
    refine wpAnyH_done (by kernel_rfl) ?_ _
    have HEND := Lib.hid EyF
    go_wp2_with fail
    go_ret
    exact ⟨rfl, HEL.out.trans (E15.out.trans HEND.out)⟩
  · obtain ⟨b2v, hb2v⟩ : ∃ b, decide (dN (rN (N1 * D2 - N2 * D1) (D1 * D2)) (rD (N1 * D2 - N2 * D1) (D1 * D2)) = 0) = b := ⟨_, rfl⟩
    have hq1 : (q == (1 : Int)) = !b2v := by rw [← hq, sub_zero HDP1.out HDP2.out hge, hb2v]
    have HB2V := Lib.hid hb2v
    have CS := rsub_ok (HA1.out _ E14.out) (HB1.out _ E14.out) (HA2.out _ E14.out) (HB2.out _ E14.out) (by omega) (by omega) (by omega) (by omega) (HTZ.out.old E14.out) (by rw [HVN1.out, HVD1.out, HVN2.out, HVD2.out, HN1.out, HD1.out, HN2.out, HD2.out]; exact hge)
    rw [HVN1.out, HVD1.out, HVN2.out, HVD2.out, HN1.out, HD1.out, HN2.out, HD2.out] at CS
    have HCS := Lib.hid CS
    clear hge hq hb2v CS
    go_wp2_with fail
    refine HCS.out.mono ?_
    rintro e z5 ⟨ax, lx, cx, bx, mx, dx, rfl, oax, obx, hextz5, hlx, hmx⟩
    obtain ⟨V14, hV14⟩ : ∃ V, z5.alloc (.cells #[.slice ax lx cx, .slice bx mx dx] 25) = V := ⟨_, rfl⟩
    have E15q := Lib.hid (show Ext z4 V14 by rw [← hV14]; exact hextz5.alloc _)
    have R14 := Lib.hid (show V14.heap[z5.heap.size]? = some (.cells #[.slice ax lx cx, .slice bx mx dx] 25 (0, 0)) by rw [← hV14]; exact heap_alloc_new z5 _)
    have HXA := Lib.hid (oax.sl.old (show Ext z5 V14 by rw [← hV14]; exact (Ext.refl _).alloc _)); have HXB := Lib.hid (obx.sl.old (show Ext z5 V14 by rw [← hV14]; exact (Ext.refl _).alloc _))
    have HV14 := Lib.hid hV14; have E15 := Lib.hid (E14.out.trans E15q.out); have EQ4 := Lib.hid (E13q.out.trans (E13r.out.trans E15q.out)); have EU := Lib.hid (E11q.out.trans (E13q.out.trans (E13r.out.trans E15q.out)))
    have EQ3 := Lib.hid (E13r.out.trans E15q.out)
    clear oax obx hextz5 hV14 k1 k2 k3 k4 k5 k6
    have HS16 : Hid (∀ w', Ext V14 w' → w'.cell? ⟨w.heap.size, 0, none⟩ = some (.slice a1 m1 c1) ∧ w'.cell? ⟨w.heap.size, 1, none⟩ = some (.slice b1 n1 d1) ∧ w'.cell? ⟨w.heap.size + 1, 0, none⟩ = some (.slice a2 m2 c2) ∧ w'.cell? ⟨w.heap.size + 1, 1, none⟩ = some (.slice b2 n2 d2) ∧ w'.cell? ⟨BX, 0, none⟩ = some (.slice au lu cu) ∧ w'.cell? ⟨BX, 1, none⟩ = some (.slice av lv cv) ∧ w'.cell? ⟨z3.heap.size, 0, none⟩ = some (.slice aq lq cq) ∧ w'.cell? ⟨z3.heap.size, 1, none⟩ = some (.slice bq mq dq) ∧ w'.cell? ⟨z5.heap.size, 0, none⟩ = some (.slice ax lx cx) ∧ w'.cell? ⟨z5.heap.size, 1, none⟩ = some (.slice bx mx dx)) := Lib.hid (fun w' h => ⟨(HS.out w' (E15.out.trans h)).1, (HS.out w' (E15.out.trans h)).2.1, (HS.out w' (E15.out.trans h)).2.2.1, (HS.out w' (E15.out.trans h)).2.2.2.1, (row2_cells (rowE (EU.out.trans h) R11.out)).1, (row2_cells (rowE (EU.out.trans h) R11.out)).2.1, (row2_cells (rowE (EQ3.out.trans h) R12.out)).1, (row2_cells (rowE (EQ3.out.trans h) R12.out)).2.1, (row2_cells (rowE h R14.out)).1, (row2_cells (rowE h R14.out)).2.1⟩)
    go_wp2_with (rw [HV14.out])
    go_region_held3 (fun w' => w'.cell? ⟨w.heap.size, 0, none⟩ = some (.slice a1 m1 c1) ∧ w'.cell? ⟨w.heap.size, 1, none⟩ = some (.slice b1 n1 d1) ∧ w'.cell? ⟨w.heap.size + 1, 0, none⟩ = some (.slice a2 m2 c2) ∧ w'.cell? ⟨w.heap.size + 1, 1, none⟩ = some (.slice b2 n2 d2) ∧ w'.cell? ⟨BX, 0, none⟩ = some (.slice au lu cu) ∧ w'.cell? ⟨BX, 1, none⟩ = some (.slice av lv cv) ∧ w'.cell? ⟨z3.heap.size, 0, none⟩ = some (.slice aq lq cq) ∧ w'.cell? ⟨z3.heap.size, 1, none⟩ = some (.slice bq mq dq) ∧ w'.cell? ⟨z5.heap.size, 0, none⟩ = some (.slice ax lx cx) ∧ w'.cell? ⟨z5.heap.size, 1, none⟩ = some (.slice bx mx dx))
      (first | exact HS16.out _ (Ext.refl V14).drew | exact HS16.out _ (by assumption))
      (first
        | (go_at_call_of 18 aq; refine (hrat_at (HQA.out.old (EQ3.out.trans (Ext.refl V14).drew)) (HQB.out.old (EQ3.out.trans (Ext.refl V14).drew)) (HSU.out.old (EU.out.trans (Ext.refl V14).drew)) (HSV.out.old (EU.out.trans (Ext.refl V14).drew)) (by omega) (by omega) (by omega) (by omega)).mono ?_; rintro e yA ⟨rfl, hextyA⟩; have EyA : Ext V14 yA := Ext.trans (Ext.refl V14).drew hextyA)
        | (go_at_call 16; refine (rcmp_calls (HA1.out _ (E15.out.trans EyA)) (HB1.out _ (E15.out.trans EyA)) (HA2.out _ (E15.out.trans EyA)) (HB2.out _ (E15.out.trans EyA)) (by omega) (by omega) (by omega) (by omega)).mono ?_; rintro e yB ⟨rfl, hextyB⟩; rw [HVN1.out, HVD1.out, HVN2.out, HVD2.out, HN1.out, HD1.out, HN2.out, HD2.out, HQV.out]; have EyB : Ext V14 yB := Ext.trans EyA hextyB)
        | (go_at_call 28; refine (rzero_calls (HXA.out.old EyB) (HXB.out.old EyB) (by omega) (by omega)).mono ?_; rintro e yC ⟨rfl, hextyC⟩; rw [val_lim, val_lim, HB2V.out]; have EyC : Ext V14 yC := EyB.trans hextyC)
        | (go_at_call 16; refine (rcmp_calls (HA1.out _ (E15.out.trans EyC)) (HB1.out _ (E15.out.trans EyC)) (HA2.out _ (E15.out.trans EyC)) (HB2.out _ (E15.out.trans EyC)) (by omega) (by omega) (by omega) (by omega)).mono ?_; rintro e yG ⟨rfl, hextyG⟩; rw [HVN1.out, HVD1.out, HVN2.out, HVD2.out, HN1.out, HD1.out, HN2.out, HD2.out, HQV.out]; have EyG : Ext V14 yG := Ext.trans EyC hextyG)
        | (go_at_call 27; refine (rofnat_nil _).mono ?_; rintro e yD ⟨aD, lD, cD, bD, mD, dD', rfl, oaD, obD, hextyD, hlD, hmD⟩; have EyD : Ext V14 yD := Ext.trans EyG hextyD)
        | (go_at_call 19; refine (rown_calls (HA2.out _ (E15.out.trans EyD)) (HB2.out _ (E15.out.trans EyD)) oaD.sl obD.sl (by omega) (by omega) (by omega) (by omega) (HTZ.out.old (E15.out.trans EyD)) (U := N2) (V := D2) (by rw [HVN2.out, HVD2.out]; exact HN2.out) (by rw [HVD2.out]; exact HD2.out)).mono ?_; rintro e yE ⟨aE, lE, cE, bE, mE, dE, rfl, oaE, obE, hextyE, hlE, hmE⟩; have EyE : Ext V14 yE := Ext.trans EyD hextyE)
        | (go_at_call_of 18 aE; refine (hrat_calls (HSU.out.old (EU.out.trans EyE)) (HSV.out.old (EU.out.trans EyE)) oaE.sl obE.sl (by omega) (by omega) (by omega) (by omega)).mono ?_; rintro e yF ⟨rfl, hextyF⟩; rw [HOE.out]; have EyF : Ext V14 yF := Ext.trans EyE hextyF))
    all_goals (
      have HEND := Lib.hid EyF
      go_wp2_with fail
      go_ret
      exact ⟨rfl, HEL.out.trans (E15.out.trans HEND.out)⟩)

end Go.Proofs.YtnfjfgfkeigkiaaGreatDoor
