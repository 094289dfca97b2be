/- gleanlaw3.RatSums: the walk. -/
import Derived.Test.YtnfjfgfkeigkiaaGreatDoorRefE
import Derived.Test.YtnfjfgfkeigkiaaGreatDoorRat2
import Derived.Test.YtnfjfgfkeigkiaaGreatDoorKnownR
namespace Go.Proofs.YtnfjfgfkeigkiaaGreatDoor
open Go.RowKit Go.Lib

theorem NewR.wide {w : World} {L M L' M' : Nat} {xs ys : List Nat} {e : Ending} {w' : World} (h : NewR w L M xs ys e w') (h1 : L ≤ L') (h2 : M ≤ M') : NewR w L' M' xs ys e w' := by
  obtain ⟨a, n, c, b, m, d, r, x, y, z, p, q⟩ := h
  exact ⟨a, n, c, b, m, d, r, x, y, z, by omega, by omega⟩
theorem NewRE.wide {w : World} {L M L' M' : Nat} {xs ys : List Nat} {er : Int} {e : Ending} {w' : World} (h : NewRE w L M xs ys er e w') (h1 : L ≤ L') (h2 : M ≤ M') : NewRE w L' M' xs ys er e w' := by
  obtain ⟨a, n, c, b, m, d, r, x, y, z, p, q⟩ := h
  exact ⟨a, n, c, b, m, d, r, x, y, z, by omega, by omega⟩
def sbC (X1 Y1 X2 Y2 : Nat) : Prop := dN X1 Y1 * dD Y2 < dN X2 Y2 * dD Y1
instance (X1 Y1 X2 Y2 : Nat) : Decidable (sbC X1 Y1 X2 Y2) := inferInstanceAs (Decidable (_ < _))
def sbL (X1 Y1 X2 Y2 : Nat) : List Nat := if sbC X1 Y1 X2 Y2 then [] else lim (rN (dN X1 Y1 * dD Y2 - dN X2 Y2 * dD Y1) (dD Y1 * dD Y2))
def sbM (X1 Y1 X2 Y2 : Nat) : List Nat := if sbC X1 Y1 X2 Y2 then [] else lim (rD (dN X1 Y1 * dD Y2 - dN X2 Y2 * dD Y1) (dD Y1 * dD Y2))
def sbE (X1 Y1 X2 Y2 : Nat) : Int := if sbC X1 Y1 X2 Y2 then 31 else 0
def qoL (X1 Y1 X2 Y2 : Nat) : List Nat := if dN X2 Y2 = 0 then [] else lim (rN (dN X1 Y1 * dD Y2) (dD Y1 * dN X2 Y2))
def qoM (X1 Y1 X2 Y2 : Nat) : List Nat := if dN X2 Y2 = 0 then [] else lim (rD (dN X1 Y1 * dD Y2) (dD Y1 * dN X2 Y2))
def qoE (X1 Y1 X2 Y2 : Nat) : Int := if dN X2 Y2 = 0 then 30 else 0

theorem sub_a {a1 b1 a2 b2 : Option Addr} {m1 n1 c1 d1 m2 n2 c2 d2 : Nat} {xs1 ys1 xs2 ys2 : List Nat} {w : World} (X1 Y1 X2 Y2 : Nat) (ha1 : Sl w a1 m1 c1 xs1) (hb1 : Sl w b1 n1 d1 ys1) (ha2 : Sl w a2 m2 c2 xs2) (hb2 : Sl w b2 n2 d2 ys2) (h1 : val xs1 = X1) (h2 : val ys1 = Y1) (h3 : val xs2 = X2) (h4 : val ys2 = Y2) (hm1 : m1 ≤ 10000) (hn1 : n1 ≤ 10000) (hm2 : m2 ≤ 10000) (hn2 : n2 ≤ 10000) (htz : TzTab w) : Calls Tryz.prog 12 #[RatV a1 m1 c1 b1 n1 d1, RatV a2 m2 c2 b2 n2 d2] w (NewRE w (64 * (m1 + n1 + m2 + n2) + 400) (64 * (m1 + n1 + m2 + n2) + 400) (sbL X1 Y1 X2 Y2) (sbM X1 Y1 X2 Y2) (sbE X1 Y1 X2 Y2)) := by
  subst h1 h2 h3 h4
  unfold sbL sbM sbE
  by_cases hc : sbC (val xs1) (val ys1) (val xs2) (val ys2)
  · rw [if_pos hc, if_pos hc, if_pos hc]
    exact (rsub_below ha1 hb1 ha2 hb2 (by omega) (by omega) (by omega) (by omega) hc).mono fun e w' h => h.wide (by omega) (by omega)
  · rw [if_neg hc, if_neg hc, if_neg hc]
    exact (rsub_ok ha1 hb1 ha2 hb2 (by omega) (by omega) (by omega) (by omega) htz (Nat.le_of_not_lt hc)).mono fun e w' h => h.wide (by omega) (by omega)

theorem sub_b {a1 b1 a2 b2 : Option Addr} {m1 n1 c1 d1 m2 n2 c2 d2 : Nat} {xs1 ys1 xs2 ys2 : List Nat} {w : World} (X1 Y1 X2 Y2 : Nat) (ha1 : Sl w a1 m1 c1 xs1) (hb1 : Sl w b1 n1 d1 ys1) (ha2 : Sl w a2 m2 c2 xs2) (hb2 : Sl w b2 n2 d2 ys2) (h1 : val xs1 = X1) (h2 : val ys1 = Y1) (h3 : val xs2 = X2) (h4 : val ys2 = Y2) (hm1 : m1 ≤ 10000) (hn1 : n1 ≤ 10000) (hm2 : m2 ≤ 10000) (hn2 : n2 ≤ 10000) : Calls Tryz.prog 13 #[RatV a1 m1 c1 b1 n1 d1, RatV a2 m2 c2 b2 n2 d2] w (NewRE w (64 * (m1 + n1 + m2 + n2) + 400) (64 * (m1 + n1 + m2 + n2) + 400) (sbL X1 Y1 X2 Y2) (sbM X1 Y1 X2 Y2) (sbE X1 Y1 X2 Y2)) := by
  subst h1 h2 h3 h4
  unfold sbL sbM sbE
  by_cases hc : sbC (val xs1) (val ys1) (val xs2) (val ys2)
  · rw [if_pos hc, if_pos hc, if_pos hc]
    exact (frsub_below ha1 hb1 ha2 hb2 (by omega) (by omega) (by omega) (by omega) hc).mono fun e w' h => h.wide (by omega) (by omega)
  · rw [if_neg hc, if_neg hc, if_neg hc]
    exact (frsub_ok ha1 hb1 ha2 hb2 (by omega) (by omega) (by omega) (by omega) (Nat.le_of_not_lt hc)).mono fun e w' h => h.wide (by omega) (by omega)

theorem quo_a {a1 b1 a2 b2 : Option Addr} {m1 n1 c1 d1 m2 n2 c2 d2 : Nat} {xs1 ys1 xs2 ys2 : List Nat} {w : World} (X1 Y1 X2 Y2 : Nat) (ha1 : Sl w a1 m1 c1 xs1) (hb1 : Sl w b1 n1 d1 ys1) (ha2 : Sl w a2 m2 c2 xs2) (hb2 : Sl w b2 n2 d2 ys2) (h1 : val xs1 = X1) (h2 : val ys1 = Y1) (h3 : val xs2 = X2) (h4 : val ys2 = Y2) (hm1 : m1 ≤ 10000) (hn1 : n1 ≤ 10000) (hm2 : m2 ≤ 10000) (hn2 : n2 ≤ 10000) (htz : TzTab w) : Calls Tryz.prog 14 #[RatV a1 m1 c1 b1 n1 d1, RatV a2 m2 c2 b2 n2 d2] w (NewRE w (64 * (m1 + n1 + m2 + n2) + 400) (64 * (m1 + n1 + m2 + n2) + 400) (qoL X1 Y1 X2 Y2) (qoM X1 Y1 X2 Y2) (qoE X1 Y1 X2 Y2)) := by
  subst h1 h2 h3 h4
  unfold qoL qoM qoE
  by_cases hc : dN (val xs2) (val ys2) = 0
  · rw [if_pos hc, if_pos hc, if_pos hc]
    exact (rquo_zero ha1 hb1 ha2 hb2 (by omega) (by omega) (by omega) (by omega) hc).mono fun e w' h => h.wide (by omega) (by omega)
  · rw [if_neg hc, if_neg hc, if_neg hc]
    exact (rquo_ok ha1 hb1 ha2 hb2 (by omega) (by omega) (by omega) (by omega) htz hc).mono fun e w' h => h.wide (by omega) (by omega)

theorem quo_b {a1 b1 a2 b2 : Option Addr} {m1 n1 c1 d1 m2 n2 c2 d2 : Nat} {xs1 ys1 xs2 ys2 : List Nat} {w : World} (X1 Y1 X2 Y2 : Nat) (ha1 : Sl w a1 m1 c1 xs1) (hb1 : Sl w b1 n1 d1 ys1) (ha2 : Sl w a2 m2 c2 xs2) (hb2 : Sl w b2 n2 d2 ys2) (h1 : val xs1 = X1) (h2 : val ys1 = Y1) (h3 : val xs2 = X2) (h4 : val ys2 = Y2) (hm1 : m1 ≤ 10000) (hn1 : n1 ≤ 10000) (hm2 : m2 ≤ 10000) (hn2 : n2 ≤ 10000) : Calls Tryz.prog 15 #[RatV a1 m1 c1 b1 n1 d1, RatV a2 m2 c2 b2 n2 d2] w (NewRE w (64 * (m1 + n1 + m2 + n2) + 400) (64 * (m1 + n1 + m2 + n2) + 400) (qoL X1 Y1 X2 Y2) (qoM X1 Y1 X2 Y2) (qoE X1 Y1 X2 Y2)) := by
  subst h1 h2 h3 h4
  unfold qoL qoM qoE
  by_cases hc : dN (val xs2) (val ys2) = 0
  · rw [if_pos hc, if_pos hc, if_pos hc]
    exact (frquo_zero ha1 hb1 ha2 hb2 (by omega) (by omega) (by omega) (by omega) hc).mono fun e w' h => h.wide (by omega) (by omega)
  · rw [if_neg hc, if_neg hc, if_neg hc]
    exact (frquo_ok ha1 hb1 ha2 hb2 (by omega) (by omega) (by omega) (by omega) hc).mono fun e w' h => h.wide (by omega) (by omega)

theorem rsl_lit2 (w : World) (a1 : Option Addr) (m1 c1 : Nat) (b1 : Option Addr) (n1 d1 : Nat) (a2 : Option Addr) (m2 c2 : Nat) (b2 : Option Addr) (n2 d2 : Nat) :
    RSl (w.alloc (.cells #[.slice a1 m1 c1, .slice b1 n1 d1, .slice a2 m2 c2, .slice b2 n2 d2] 25)) (some ⟨w.heap.size, 0, none⟩) 2 2
      [((a1, m1, c1), (b1, n1, d1)), ((a2, m2, c2), (b2, n2, d2))] := by
  have h := heap_alloc_new w (.cells #[.slice a1 m1 c1, .slice b1 n1 d1, .slice a2 m2 c2, .slice b2 n2 d2] 25)
  refine ⟨rfl, Nat.le_refl _, by decide, .inr ⟨w.heap.size, 0, rfl, fun i v hi => ?_⟩⟩
  rw [cell_of_row _ _ _ _ _ _ h, cell_of_row _ _ _ _ _ _ h]
  match i, hi with
  | 0, hi => simp at hi; subst hi; exact ⟨rfl, rfl⟩
  | 1, hi => simp at hi; subst hi; exact ⟨rfl, rfl⟩
theorem rsl_yes2 {a1 b1 a2 b2 : Option Addr} {m1 c1 n1 d1 m2 c2 n2 d2 : Nat} (h : (m1 ≤ 12 ∧ n1 ≤ 12) ∧ (m2 ≤ 12 ∧ n2 ≤ 12)) :
    ([((a1, m1, c1), (b1, n1, d1)), ((a2, m2, c2), (b2, n2, d2))] : List (Part × Part)).all twelveR = true := by
  simp [twelveR, h]
theorem rsl_no2 {a1 b1 a2 b2 : Option Addr} {m1 c1 n1 d1 m2 c2 n2 d2 : Nat} (h : ¬ ((m1 ≤ 12 ∧ n1 ≤ 12) ∧ (m2 ≤ 12 ∧ n2 ≤ 12))) :
    ([((a1, m1, c1), (b1, n1, d1)), ((a2, m2, c2), (b2, n2, d2))] : List (Part × Part)).all twelveR = false := by
  rw [Bool.eq_false_iff]
  intro h2
  apply h
  simpa [twelveR] using h2

set_option maxHeartbeats 16000000 in
set_option maxRecDepth 100000 in
theorem sums_law {a1 b1 a2 b2 : Option Addr} {m1 c1 n1 d1 m2 c2 n2 d2 : Nat} {xs1 ys1 xs2 ys2 : List Nat} {w : World} (ha1 : Sl w a1 m1 c1 xs1) (hb1 : Sl w b1 n1 d1 ys1) (ha2 : Sl w a2 m2 c2 xs2) (hb2 : Sl w b2 n2 d2 ys2) (htab : Tab w) (htz : TzTab w) :
    Calls Tryz.prog 3 #[RatV a1 m1 c1 b1 n1 d1, RatV a2 m2 c2 b2 n2 d2] w (RetE (.bool true) w) := by
  obtain ⟨X1, hX1⟩ : ∃ X, w.alloc (.cells #[.slice a1 m1 c1, .slice b1 n1 d1] 25) = X := ⟨_, rfl⟩
  obtain ⟨X3, hX3⟩ : ∃ X, X1.alloc (.cells #[.slice a2 m2 c2, .slice b2 n2 d2] 25) = X := ⟨_, rfl⟩
  have hsz1 : X1.heap.size = w.heap.size + 1 := by rw [← hX1, alloc_size]
  have E1 : Ext w X1 := by rw [← hX1]; exact (Ext.refl w).alloc _
  have E2 : Ext X1 X3 := by rw [← hX3]; exact (Ext.refl X1).alloc _
  have R1 : X3.heap[w.heap.size]? = some (.cells #[.slice a1 m1 c1, .slice b1 n1 d1] 25 (0, 0)) := box2_row (w := w) (by rw [hX1]; exact E2)
  have R2 : X3.heap[w.heap.size + 1]? = some (.cells #[.slice a2 m2 c2, .slice b2 n2 d2] 25 (0, 0)) := by rw [← hsz1]; exact box2_row (w := X1) (by rw [hX3]; exact Ext.refl _)
  have HS : Hid (∀ w', Ext X3 w' → w'.cell? ⟨w.heap.size, 0, none⟩ = some (.slice a1 m1 c1) ∧ w'.cell? ⟨w.heap.size, 1, none⟩ = some (.slice b1 n1 d1) ∧ w'.cell? ⟨w.heap.size + 1, 0, none⟩ = some (.slice a2 m2 c2) ∧ w'.cell? ⟨w.heap.size + 1, 1, none⟩ = some (.slice b2 n2 d2)) := Lib.hid (fun w' h => ⟨(row2_cells (rowE h R1)).1, (row2_cells (rowE h R1)).2.1, (row2_cells (rowE h R2)).1, (row2_cells (rowE h R2)).2.1⟩)
  have HEL := Lib.hid (E1.trans E2)
  have HA1 := Lib.hid (fun w' (h : Ext X3 w') => ha1.old (HEL.out.trans h)); have HB1 := Lib.hid (fun w' (h : Ext X3 w') => hb1.old (HEL.out.trans h))
  have HA2 := Lib.hid (fun w' (h : Ext X3 w') => ha2.old (HEL.out.trans h)); have HB2 := Lib.hid (fun w' (h : Ext X3 w') => hb2.old (HEL.out.trans h))
  have CK := Lib.hid (knownR_calls X3 (htab.old HEL.out) (htz.old HEL.out))
  have HTZ := Lib.hid (fun w' (h : Ext X3 w') => (htz.old HEL.out).old h)
  have HX1 := Lib.hid hX1; have HX3 := Lib.hid hX3
  clear hX1 hX3 E1 E2 R1 R2 ha1 hb1 ha2 hb2 htab htz hsz1
  go_enter Tryz.func3, Tryz.ntmps3
  have hszx1 : X1.heap.size = w.heap.size + 1 := by rw [← HX1.out, alloc_size]
  go_wp2_with (first | rw [HX1.out] | rw [HX3.out])
  refine CK.out.mono ?_
  rintro e w1 ⟨rfl, hext1⟩
  have E1 := Lib.hid hext1
  obtain ⟨Z, hZ⟩ : ∃ Z, w1.alloc (.cells #[.slice a1 m1 c1, .slice b1 n1 d1, .slice a2 m2 c2, .slice b2 n2 d2] 25) = Z := ⟨_, rfl⟩
  have EZ := Lib.hid (show Ext X3 Z by rw [← hZ]; exact hext1.alloc _)
  have HSM := Lib.hid (smallR_calls (rsl_lit2 w1 a1 m1 c1 b1 n1 d1 a2 m2 c2 b2 n2 d2))
  rw [hZ] at HSM
  have HZ := Lib.hid hZ
  obtain ⟨k1, k2, k3, k4⟩ := HS.out w1 hext1
  clear hext1 hZ
  by_cases h12 : (m1 ≤ 12 ∧ n1 ≤ 12) ∧ (m2 ≤ 12 ∧ n2 ≤ 12)
  rotate_left
  · rw [rsl_no2 h12] at HSM
    go_wp2_with (rw [HZ.out])
    refine HSM.out.mono ?_
    rintro e w2 ⟨rfl, rfl⟩
    go_wp2_with fail
    go_ret
    exact ⟨rfl, HEL.out.trans EZ.out⟩
  rw [rsl_yes2 h12] at HSM
  obtain ⟨⟨q1, q2⟩, ⟨q3, q4⟩⟩ := h12
  obtain ⟨j1, j2, j3, j4⟩ := HS.out Z EZ.out
  go_wp2_with (rw [HZ.out])
  refine HSM.out.mono ?_
  rintro e w2 ⟨rfl, rfl⟩
  clear k1 k2 k3 k4 HSM
  have C4 := Lib.hid (sub_a (val xs1) (val ys1) (val xs2) (val ys2) (HA1.out _ EZ.out) (HB1.out _ EZ.out) (HA2.out _ EZ.out) (HB2.out _ EZ.out) rfl rfl rfl rfl (by omega) (by omega) (by omega) (by omega) (HTZ.out _ EZ.out))
  obtain ⟨se, hse⟩ : ∃ e, sbE (val xs1) (val ys1) (val xs2) (val ys2) = e := ⟨_, rfl⟩
  have HSE := Lib.hid hse
  clear hse
  obtain ⟨qe, hqe⟩ : ∃ e, qoE (val xs1) (val ys1) (val xs2) (val ys2) = e := ⟨_, rfl⟩
  have HQE := Lib.hid hqe
  clear hqe
  rw [HSE.out] at C4
  go_wp2_with fail
  refine C4.out.mono ?_
  rintro e w4 ⟨p4, r4, s4, t4, u4, v4, rfl, hp4, ht4, hext4, hr4, hu4⟩
  obtain ⟨W4, hW4⟩ : ∃ W, w4.alloc (.cells #[.slice p4 r4 s4, .slice t4 u4 v4] 25) = W := ⟨_, rfl⟩
  have Y4 := Lib.hid (show Ext Z W4 by rw [← hW4]; exact hext4.alloc _)
  have E4 := Lib.hid (EZ.out.trans Y4.out)
  have P4 := Lib.hid (show Sl W4 p4 r4 s4 _ by rw [← hW4]; exact hp4.sl.old ((Ext.refl _).alloc _))
  have T4 := Lib.hid (show Sl W4 t4 u4 v4 _ by rw [← hW4]; exact ht4.sl.old ((Ext.refl _).alloc _))
  have R4 := Lib.hid (show W4.heap[w4.heap.size]? = some (.cells #[.slice p4 r4 s4, .slice t4 u4 v4] 25 (0, 0)) by rw [← hW4]; exact heap_alloc_new _ _)
  have HW4 := Lib.hid hW4
  clear hW4 hp4 ht4 hext4 C4 j1 j2 j3 j4
  obtain ⟨j1, j2, j3, j4⟩ := HS.out _ E4.out
  have C5 := Lib.hid (sub_b (val xs1) (val ys1) (val xs2) (val ys2) (HA1.out _ E4.out) (HB1.out _ E4.out) (HA2.out _ E4.out) (HB2.out _ E4.out) rfl rfl rfl rfl (by omega) (by omega) (by omega) (by omega))
  rw [HSE.out] at C5
  go_wp2_with (rw [HW4.out])
  refine C5.out.mono ?_
  rintro e w5 ⟨p5, r5, s5, t5, u5, v5, rfl, hp5, ht5, hext5, hr5, hu5⟩
  obtain ⟨W5, hW5⟩ : ∃ W, w5.alloc (.cells #[.slice p5 r5 s5, .slice t5 u5 v5] 25) = W := ⟨_, rfl⟩
  have Y5 := Lib.hid (show Ext W4 W5 by rw [← hW5]; exact hext5.alloc _)
  have E5 := Lib.hid (E4.out.trans Y5.out)
  have P5 := Lib.hid (show Sl W5 p5 r5 s5 _ by rw [← hW5]; exact hp5.sl.old ((Ext.refl _).alloc _))
  have T5 := Lib.hid (show Sl W5 t5 u5 v5 _ by rw [← hW5]; exact ht5.sl.old ((Ext.refl _).alloc _))
  have R5 := Lib.hid (show W5.heap[w5.heap.size]? = some (.cells #[.slice p5 r5 s5, .slice t5 u5 v5] 25 (0, 0)) by rw [← hW5]; exact heap_alloc_new _ _)
  have HW5 := Lib.hid hW5
  clear hW5 hp5 ht5 hext5 C5 j1 j2 j3 j4
  obtain ⟨j1, j2, j3, j4⟩ := HS.out _ E5.out
  have C6 := Lib.hid (quo_a (val xs1) (val ys1) (val xs2) (val ys2) (HA1.out _ E5.out) (HB1.out _ E5.out) (HA2.out _ E5.out) (HB2.out _ E5.out) rfl rfl rfl rfl (by omega) (by omega) (by omega) (by omega) (HTZ.out _ E5.out))
  rw [HQE.out] at C6
  go_wp2_with (rw [HW5.out])
  refine C6.out.mono ?_
  rintro e w6 ⟨p6, r6, s6, t6, u6, v6, rfl, hp6, ht6, hext6, hr6, hu6⟩
  obtain ⟨W6, hW6⟩ : ∃ W, w6.alloc (.cells #[.slice p6 r6 s6, .slice t6 u6 v6] 25) = W := ⟨_, rfl⟩
  have Y6 := Lib.hid (show Ext W5 W6 by rw [← hW6]; exact hext6.alloc _)
  have E6 := Lib.hid (E5.out.trans Y6.out)
  have P6 := Lib.hid (show Sl W6 p6 r6 s6 _ by rw [← hW6]; exact hp6.sl.old ((Ext.refl _).alloc _))
  have T6 := Lib.hid (show Sl W6 t6 u6 v6 _ by rw [← hW6]; exact ht6.sl.old ((Ext.refl _).alloc _))
  have R6 := Lib.hid (show W6.heap[w6.heap.size]? = some (.cells #[.slice p6 r6 s6, .slice t6 u6 v6] 25 (0, 0)) by rw [← hW6]; exact heap_alloc_new _ _)
  have HW6 := Lib.hid hW6
  clear hW6 hp6 ht6 hext6 C6 j1 j2 j3 j4
  obtain ⟨j1, j2, j3, j4⟩ := HS.out _ E6.out
  have C7 := Lib.hid (quo_b (val xs1) (val ys1) (val xs2) (val ys2) (HA1.out _ E6.out) (HB1.out _ E6.out) (HA2.out _ E6.out) (HB2.out _ E6.out) rfl rfl rfl rfl (by omega) (by omega) (by omega) (by omega))
  rw [HQE.out] at C7
  go_wp2_with (rw [HW6.out])
  refine C7.out.mono ?_
  rintro e w7 ⟨p7, r7, s7, t7, u7, v7, rfl, hp7, ht7, hext7, hr7, hu7⟩
  obtain ⟨W7, hW7⟩ : ∃ W, w7.alloc (.cells #[.slice p7 r7 s7, .slice t7 u7 v7] 25) = W := ⟨_, rfl⟩
  have Y7 := Lib.hid (show Ext W6 W7 by rw [← hW7]; exact hext7.alloc _)
  have E7 := Lib.hid (E6.out.trans Y7.out)
  have P7 := Lib.hid (show Sl W7 p7 r7 s7 _ by rw [← hW7]; exact hp7.sl.old ((Ext.refl _).alloc _))
  have T7 := Lib.hid (show Sl W7 t7 u7 v7 _ by rw [← hW7]; exact ht7.sl.old ((Ext.refl _).alloc _))
  have R7 := Lib.hid (show W7.heap[w7.heap.size]? = some (.cells #[.slice p7 r7 s7, .slice t7 u7 v7] 25 (0, 0)) by rw [← hW7]; exact heap_alloc_new _ _)
  have HW7 := Lib.hid hW7
  clear hW7 hp7 ht7 hext7 C7 j1 j2 j3 j4
  have P4' := Lib.hid (P4.out.old ((Y5.out.trans Y6.out).trans Y7.out)); have T4' := Lib.hid (T4.out.old ((Y5.out.trans Y6.out).trans Y7.out)); have R4' := Lib.hid (rowE ((Y5.out.trans Y6.out).trans Y7.out) R4.out)
  have P5' := Lib.hid (P5.out.old (Y6.out.trans Y7.out)); have T5' := Lib.hid (T5.out.old (Y6.out.trans Y7.out)); have R5' := Lib.hid (rowE (Y6.out.trans Y7.out) R5.out)
  have P6' := Lib.hid (P6.out.old Y7.out); have T6' := Lib.hid (T6.out.old Y7.out); have R6' := Lib.hid (rowE Y7.out R6.out)
  have HSS := Lib.hid (fun w' (h : Ext W7 w') => (⟨HS.out _ (E7.out.trans h), ⟨(row2_cells (rowE h R4'.out)).1, (row2_cells (rowE h R4'.out)).2.1⟩, ⟨(row2_cells (rowE h R5'.out)).1, (row2_cells (rowE h R5'.out)).2.1⟩, ⟨(row2_cells (rowE h R6'.out)).1, (row2_cells (rowE h R6'.out)).2.1⟩, ⟨(row2_cells (rowE h R7.out)).1, (row2_cells (rowE h R7.out)).2.1⟩⟩ : (w'.cell? ⟨w.heap.size, 0, none⟩ = some (.slice a1 m1 c1) ∧ w'.cell? ⟨w.heap.size, 1, none⟩ = some (.slice b1 n1 d1) ∧ w'.cell? ⟨w.heap.size + 1, 0, none⟩ = some (.slice a2 m2 c2) ∧ w'.cell? ⟨w.heap.size + 1, 1, none⟩ = some (.slice b2 n2 d2)) ∧ (w'.cell? ⟨w4.heap.size, 0, none⟩ = some (.slice p4 r4 s4) ∧ w'.cell? ⟨w4.heap.size, 1, none⟩ = some (.slice t4 u4 v4)) ∧ (w'.cell? ⟨w5.heap.size, 0, none⟩ = some (.slice p5 r5 s5) ∧ w'.cell? ⟨w5.heap.size, 1, none⟩ = some (.slice t5 u5 v5)) ∧ (w'.cell? ⟨w6.heap.size, 0, none⟩ = some (.slice p6 r6 s6) ∧ w'.cell? ⟨w6.heap.size, 1, none⟩ = some (.slice t6 u6 v6)) ∧ (w'.cell? ⟨w7.heap.size, 0, none⟩ = some (.slice p7 r7 s7) ∧ w'.cell? ⟨w7.heap.size, 1, none⟩ = some (.slice t7 u7 v7))))
  go_wp2_with (rw [HW7.out])
  go_region_held3 (fun w' => (w'.cell? ⟨w.heap.size, 0, none⟩ = some (.slice a1 m1 c1) ∧ w'.cell? ⟨w.heap.size, 1, none⟩ = some (.slice b1 n1 d1) ∧ w'.cell? ⟨w.heap.size + 1, 0, none⟩ = some (.slice a2 m2 c2) ∧ w'.cell? ⟨w.heap.size + 1, 1, none⟩ = some (.slice b2 n2 d2)) ∧ (w'.cell? ⟨w4.heap.size, 0, none⟩ = some (.slice p4 r4 s4) ∧ w'.cell? ⟨w4.heap.size, 1, none⟩ = some (.slice t4 u4 v4)) ∧ (w'.cell? ⟨w5.heap.size, 0, none⟩ = some (.slice p5 r5 s5) ∧ w'.cell? ⟨w5.heap.size, 1, none⟩ = some (.slice t5 u5 v5)) ∧ (w'.cell? ⟨w6.heap.size, 0, none⟩ = some (.slice p6 r6 s6) ∧ w'.cell? ⟨w6.heap.size, 1, none⟩ = some (.slice t6 u6 v6)) ∧ (w'.cell? ⟨w7.heap.size, 0, none⟩ = some (.slice p7 r7 s7) ∧ w'.cell? ⟨w7.heap.size, 1, none⟩ = some (.slice t7 u7 v7)))
    (first | exact HSS.out _ (Ext.refl _) | exact HSS.out _ ((Ext.refl _).drew) | exact HSS.out _ (by assumption))
    (first
      | (go_at_call 16; refine (rcmp_calls (HA1.out _ (E7.out.trans (Ext.refl W7).drew)) (HB1.out _ (E7.out.trans (Ext.refl W7).drew)) (HA2.out _ (E7.out.trans (Ext.refl W7).drew)) (HB2.out _ (E7.out.trans (Ext.refl W7).drew)) (by omega) (by omega) (by omega) (by omega)).mono ?_; rintro e wA ⟨rfl, hA⟩; have EA : Ext W7 wA := (Ext.refl W7).drew.trans hA)
      | (go_at_call 17; refine (frcmp_calls (HA1.out _ (E7.out.trans EA)) (HB1.out _ (E7.out.trans EA)) (HA2.out _ (E7.out.trans EA)) (HB2.out _ (E7.out.trans EA)) (by omega) (by omega) (by omega) (by omega)).mono ?_; rintro e wB ⟨rfl, hB⟩; have EB : Ext W7 wB := EA.trans hB)
      | (go_at_call 19; refine (radd_calls (HA1.out _ (E7.out.trans EB)) (HB1.out _ (E7.out.trans EB)) (HA2.out _ (E7.out.trans EB)) (HB2.out _ (E7.out.trans EB)) (by omega) (by omega) (by omega) (by omega) (HTZ.out _ (E7.out.trans EB))).mono ?_; rintro e wC ⟨pC, rC, sC, tC, uC, vC, rfl, hpC, htC, hxC, hrC, huC⟩; have EC : Ext W7 wC := EB.trans hxC)
      | (go_at_call 20; refine (fradd_calls (HA1.out _ (E7.out.trans EC)) (HB1.out _ (E7.out.trans EC)) (HA2.out _ (E7.out.trans EC)) (HB2.out _ (E7.out.trans EC)) (by omega) (by omega) (by omega) (by omega)).mono ?_; rintro e wD ⟨pD, rD, sD, tD, uD, vD, rfl, hpD, htD, hxD, hrD, huD⟩; have ED : Ext W7 wD := EC.trans hxD)
      | (go_at_call_of 18 pC; refine (hrat_at (hpC.sl.old hxD) (htC.sl.old hxD) hpD.sl htD.sl (by omega) (by omega) (by omega) (by omega)).mono ?_; rintro e wE ⟨rfl, hE⟩; have EE : Ext W7 wE := ED.trans hE)
      | (go_at_call 21; refine (rmul_calls (HA1.out _ (E7.out.trans EE)) (HB1.out _ (E7.out.trans EE)) (HA2.out _ (E7.out.trans EE)) (HB2.out _ (E7.out.trans EE)) (by omega) (by omega) (by omega) (by omega) (HTZ.out _ (E7.out.trans EE))).mono ?_; rintro e wF ⟨pF, rF, sF, tF, uF, vF, rfl, hpF, htF, hxF, hrF, huF⟩; have EF : Ext W7 wF := EE.trans hxF)
      | (go_at_call 22; refine (frmul_calls (HA1.out _ (E7.out.trans EF)) (HB1.out _ (E7.out.trans EF)) (HA2.out _ (E7.out.trans EF)) (HB2.out _ (E7.out.trans EF)) (by omega) (by omega) (by omega) (by omega)).mono ?_; rintro e wG ⟨pG, rG, sG, tG, uG, vG, rfl, hpG, htG, hxG, hrG, huG⟩; have EG : Ext W7 wG := EF.trans hxG)
      | (go_at_call_of 18 pF; refine (hrat_at (hpF.sl.old hxG) (htF.sl.old hxG) hpG.sl htG.sl (by omega) (by omega) (by omega) (by omega)).mono ?_; rintro e wH ⟨rfl, hH⟩; have EH : Ext W7 wH := EG.trans hH)
      | (go_at_call_of 18 p4; refine (hrat_at (P4'.out.old EH) (T4'.out.old EH) (P5'.out.old EH) (T5'.out.old EH) (by omega) (by omega) (by omega) (by omega)).mono ?_; rintro e wI ⟨rfl, hI⟩; have EI : Ext W7 wI := EH.trans hI)
      | (go_at_call_of 18 p6; refine (hrat_at (P6'.out.old EI) (T6'.out.old EI) (P7.out.old EI) (T7.out.old EI) (by omega) (by omega) (by omega) (by omega)).mono ?_; rintro e wJ ⟨rfl, hJ⟩; have EJ : Ext W7 wJ := EI.trans hJ))
  go_wp2_with fail
  go_ret
  exact ⟨rfl, HEL.out.trans (E7.out.trans EJ)⟩

end Go.Proofs.YtnfjfgfkeigkiaaGreatDoor
