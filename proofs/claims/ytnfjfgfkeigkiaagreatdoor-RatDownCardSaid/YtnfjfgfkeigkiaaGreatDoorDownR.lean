/- gleanlaw3.RatDown: the walk. -/
import Derived.Test.YtnfjfgfkeigkiaaGreatDoorQuo
import Derived.Test.YtnfjfgfkeigkiaaGreatDoorMid
namespace Go.Proofs.YtnfjfgfkeigkiaaGreatDoor
open Go.RowKit

theorem rdL_pos {P Z : Nat} (h : Z ≠ 0) : rdL false P Z = lim (P / Z) ∧ rdE Z = 0 := by
  unfold rdL rdE rdV
  rw [if_neg h, if_neg h]
  exact ⟨by simp, rfl⟩
theorem rsl_lit1 (w : World) (a1 : Option Addr) (m1 c1 : Nat) (b1 : Option Addr) (n1 d1 : Nat) :
    RSl (w.alloc (.cells #[.slice a1 m1 c1, .slice b1 n1 d1] 25)) (some ⟨w.heap.size, 0, none⟩) 1 1 [((a1, m1, c1), (b1, n1, d1))] := by
  have h := heap_alloc_new w (.cells #[.slice a1 m1 c1, .slice b1 n1 d1] 25)
  refine ⟨rfl, Nat.le_refl _, by decide, .inr ⟨w.heap.size, 0, rfl, fun i v hi => ?_⟩⟩
  rw [cell_of_row _ _ _ _ _ _ h, cell_of_row _ _ _ _ _ _ h]
  match i, hi with
  | 0, hi => simp at hi; subst hi; exact ⟨rfl, rfl⟩
theorem rsl1_all {a1 b1 : Option Addr} {m1 c1 n1 d1 : Nat} : ([((a1, m1, c1), (b1, n1, d1))] : List (Part × Part)).all twelveR = decide (m1 ≤ 12 ∧ n1 ≤ 12) := by
  simp [twelveR]

set_option maxHeartbeats 16000000 in
set_option maxRecDepth 100000 in
theorem ratdown_law {a1 b1 ax ay az : Option Addr} {m1 c1 n1 d1 mx cx my cy mz cz : Nat} {xs1 ys1 xx xy xz : List Nat} {w : World} (ha1 : Sl w a1 m1 c1 xs1) (hb1 : Sl w b1 n1 d1 ys1) (hx : Sl w ax mx cx xx) (hy : Sl w ay my cy xy) (hz : Sl w az mz cz xz) (htab : Tab w) (htz : TzTab w) :
    Calls Tryz.prog 9 #[RatV a1 m1 c1 b1 n1 d1, DecV ax mx cx, DecV ay my cy, DecV az mz cz] w (RetE (.bool true) w) := by
  obtain ⟨X1, hX1⟩ : ∃ X, w.alloc (.cells #[.slice a1 m1 c1, .slice b1 n1 d1] 25) = X := ⟨_, rfl⟩
  obtain ⟨X2, hX2⟩ : ∃ X, X1.alloc (.cells #[.slice ax mx cx] 50) = X := ⟨_, rfl⟩
  obtain ⟨X3, hX3⟩ : ∃ X, X2.alloc (.cells #[.slice ay my cy] 50) = X := ⟨_, rfl⟩
  obtain ⟨X4, hX4⟩ : ∃ X, X3.alloc (.cells #[.slice az mz cz] 50) = X := ⟨_, rfl⟩
  have hsz1 : X1.heap.size = w.heap.size + 1 := by rw [← hX1, alloc_size]
  have hsz2 : X2.heap.size = w.heap.size + 2 := by rw [← hX2, alloc_size, hsz1]
  have hsz3 : X3.heap.size = w.heap.size + 3 := by rw [← hX3, alloc_size, hsz2]
  have hsz4 : X4.heap.size = w.heap.size + 4 := by rw [← hX4, alloc_size, hsz3]
  have E1 : Ext w X1 := by rw [← hX1]; exact (Ext.refl w).alloc _
  have E2 : Ext X1 X2 := by rw [← hX2]; exact (Ext.refl X1).alloc _
  have E3 : Ext X2 X3 := by rw [← hX3]; exact (Ext.refl X2).alloc _
  have E4 : Ext X3 X4 := by rw [← hX4]; exact (Ext.refl X3).alloc _
  have R1 : X4.heap[w.heap.size]? = some (.cells #[.slice a1 m1 c1, .slice b1 n1 d1] 25 (0, 0)) := box2_row (w := w) (by rw [hX1]; exact E2.trans (E3.trans E4))
  have R2 : X4.heap[w.heap.size + 1]? = some (.cells #[.slice ax mx cx] 50 (0, 0)) := by rw [← hsz1]; exact box_row0 (w := X1) (by rw [hX2]; exact E3.trans E4)
  have R3 : X4.heap[w.heap.size + 2]? = some (.cells #[.slice ay my cy] 50 (0, 0)) := by rw [← hsz2]; exact box_row0 (w := X2) (by rw [hX3]; exact E4)
  have R4 : X4.heap[w.heap.size + 3]? = some (.cells #[.slice az mz cz] 50 (0, 0)) := by rw [← hsz3]; exact box_row0 (w := X3) (by rw [hX4]; exact Ext.refl _)
  have HEL := Lib.hid (E1.trans (E2.trans (E3.trans E4)))
  have HR1 := Lib.hid R1; have HR2 := Lib.hid R2; have HR3 := Lib.hid R3; have HR4 := Lib.hid R4
  have HA := Lib.hid (fun w' (h : Ext X4 w') => ha1.old (HEL.out.trans h))
  have HB := Lib.hid (fun w' (h : Ext X4 w') => hb1.old (HEL.out.trans h))
  have HX := Lib.hid (fun w' (h : Ext X4 w') => hx.old (HEL.out.trans h))
  have HY := Lib.hid (fun w' (h : Ext X4 w') => hy.old (HEL.out.trans h))
  have HZ := Lib.hid (fun w' (h : Ext X4 w') => hz.old (HEL.out.trans h))
  have CK := Lib.hid (knownR_calls X4 (htab.old HEL.out) (htz.old HEL.out))
  have HTZ := Lib.hid (htz.old HEL.out); have HSZ := Lib.hid hsz4
  have HXX1 := Lib.hid hX1; have HXX2 := Lib.hid hX2; have HXX3 := Lib.hid hX3; have HXX4 := Lib.hid hX4
  obtain ⟨Xa, hXa⟩ : ∃ X, val xs1 = X := ⟨_, rfl⟩
  have HVXa := Lib.hid hXa
  obtain ⟨Ya, hYa⟩ : ∃ X, val ys1 = X := ⟨_, rfl⟩
  have HVYa := Lib.hid hYa
  obtain ⟨Xx, hXx⟩ : ∃ X, val xx = X := ⟨_, rfl⟩
  have HVXx := Lib.hid hXx
  obtain ⟨Xy, hXy⟩ : ∃ X, val xy = X := ⟨_, rfl⟩
  have HVXy := Lib.hid hXy
  obtain ⟨Xz, hXz⟩ : ∃ X, val xz = X := ⟨_, rfl⟩
  have HVXz := Lib.hid hXz
  clear hX1 hX2 hX3 hX4 E1 E2 E3 E4 R1 R2 R3 R4 ha1 hb1 hx hy hz hXa hYa hXx hXy hXz htab htz hsz1 hsz2 hsz3 hsz4
  go_enter Tryz.func9, Tryz.ntmps9
  have hszx1 : X1.heap.size = w.heap.size + 1 := by rw [← HXX1.out, alloc_size]
  have hszx2 : X2.heap.size = w.heap.size + 2 := by rw [← HXX2.out, alloc_size, hszx1]
  have hszx3 : X3.heap.size = w.heap.size + 3 := by rw [← HXX3.out, alloc_size, hszx2]
  go_wp2_with (first | rw [HXX1.out] | rw [HXX2.out] | rw [HXX3.out] | rw [HXX4.out])
  refine CK.out.mono ?_
  rintro e w1 ⟨rfl, hext1⟩
  obtain ⟨Z, hZ⟩ : ∃ Z, w1.alloc (.cells #[.slice a1 m1 c1, .slice b1 n1 d1] 25) = Z := ⟨_, rfl⟩
  have EZ := Lib.hid (show Ext X4 Z by rw [← hZ]; exact hext1.alloc _)
  have HSM := Lib.hid (smallR_calls (rsl_lit1 w1 a1 m1 c1 b1 n1 d1))
  rw [hZ, rsl1_all] at HSM
  have HZZ := Lib.hid hZ
  obtain ⟨i1, i2, i3, i4⟩ := row2_cells (rowE hext1 HR1.out)
  obtain ⟨k1, k2, k3, k4⟩ := row2_cells (rowE EZ.out HR1.out)
  have g2 : Z.cell? ⟨w.heap.size + 1, 0, none⟩ = some (.slice ax mx cx) := by rw [cell_of_row _ _ _ _ _ _ (rowE EZ.out HR2.out)]; rfl
  have g3 : Z.cell? ⟨w.heap.size + 2, 0, none⟩ = some (.slice ay my cy) := by rw [cell_of_row _ _ _ _ _ _ (rowE EZ.out HR3.out)]; rfl
  have g4 : Z.cell? ⟨w.heap.size + 3, 0, none⟩ = some (.slice az mz cz) := by rw [cell_of_row _ _ _ _ _ _ (rowE EZ.out HR4.out)]; rfl
  clear hext1 hZ
  by_cases h12 : m1 ≤ 12 ∧ n1 ≤ 12
  rotate_left
  · rw [decide_eq_false h12] at HSM
    go_wp2_with (rw [HZZ.out])
    refine HSM.out.mono ?_
    rintro e w2 ⟨rfl, rfl⟩
    go_wp2_with fail
    go_ret
    exact ⟨rfl, HEL.out.trans EZ.out⟩
  rw [decide_eq_true h12] at HSM
  obtain ⟨q1, q2⟩ := h12
  by_cases hx : mx ≤ 12
  rotate_left
  · have g : (12 : Int) < (mx : Int) := by omega
    go_wp2_with (rw [HZZ.out])
    refine HSM.out.mono ?_
    rintro e w2 ⟨rfl, rfl⟩
    go_wp2_with fail
    go_ret
    exact ⟨rfl, HEL.out.trans EZ.out⟩
  have tx : ¬ (12 : Int) < (mx : Int) := by omega
  by_cases hy : my ≤ 12
  rotate_left
  · have g : (12 : Int) < (my : Int) := by omega
    go_wp2_with (rw [HZZ.out])
    refine HSM.out.mono ?_
    rintro e w2 ⟨rfl, rfl⟩
    go_wp2_with fail
    go_ret
    exact ⟨rfl, HEL.out.trans EZ.out⟩
  have ty : ¬ (12 : Int) < (my : Int) := by omega
  by_cases hz : mz ≤ 12
  rotate_left
  · have g : (12 : Int) < (mz : Int) := by omega
    go_wp2_with (rw [HZZ.out])
    refine HSM.out.mono ?_
    rintro e w2 ⟨rfl, rfl⟩
    go_wp2_with fail
    go_ret
    exact ⟨rfl, HEL.out.trans EZ.out⟩
  have tz : ¬ (12 : Int) < (mz : Int) := by omega
  go_wp2_with (rw [HZZ.out])
  refine HSM.out.mono ?_
  rintro e w2 ⟨rfl, rfl⟩
  clear i1 i2 i3 i4
  go_wp2_with fail
  obtain ⟨N, hN⟩ : ∃ N, dN Xa Ya = N := ⟨_, rfl⟩
  obtain ⟨D, hD⟩ : ∃ N, dD Ya = N := ⟨_, rfl⟩
  have HDP := Lib.hid (show 0 < D by rw [← hD]; exact dD_pos _)
  have HN := Lib.hid hN; have HD := Lib.hid hD
  clear hN hD
  refine (rdown_calls (HA.out _ EZ.out) (HB.out _ EZ.out) (by omega) (by omega)).mono ?_
  rintro e w3 ⟨od, ld, cd, rfl, hownd, hext3, hld⟩
  rw [HVXa.out, HVYa.out, HN.out, HD.out] at hownd
  obtain ⟨d0, hd0⟩ : ∃ d, N * U36 / D = d := ⟨_, rfl⟩
  have HD0 := Lib.hid hd0
  rw [hd0] at hownd
  obtain ⟨V9, hV9⟩ : ∃ V, w3.alloc (.cells #[.slice od ld cd] 50) = V := ⟨_, rfl⟩
  have E9 := Lib.hid (show Ext Z V9 by rw [← hV9]; exact hext3.alloc _)
  have R9 := Lib.hid (show V9.heap[w3.heap.size]? = some (.cells #[.slice od ld cd] 50 (0, 0)) by rw [← hV9]; exact heap_alloc_new w3 _)
  have HOD := Lib.hid (show Sl V9 od ld cd (lim d0) by rw [← hV9]; exact hownd.sl.old ((Ext.refl _).alloc _))
  have HV9 := Lib.hid hV9
  clear hd0 hownd hext3 hV9 k1 k2 k3 k4 g2 g3 g4
  go_wp2_with (rw [HV9.out])
  refine (of_calls 1 (by decide) _).mono ?_
  rintro e w4 ⟨ob, lb, cb, rfl, hownb, hext4, hlb⟩
  obtain ⟨V10, hV10⟩ : ∃ V, w4.alloc (.cells #[.slice ob lb cb] 50) = V := ⟨_, rfl⟩
  have E10 := Lib.hid (show Ext V9 V10 by rw [← hV10]; exact hext4.alloc _)
  have R10 := Lib.hid (show V10.heap[w4.heap.size]? = some (.cells #[.slice ob lb cb] 50 (0, 0)) by rw [← hV10]; exact heap_alloc_new w4 _)
  have HOB := Lib.hid (show Sl V10 ob lb cb (lim 1) by rw [← hV10]; exact hownb.sl.old ((Ext.refl _).alloc _))
  have HV10 := Lib.hid hV10
  clear hownb hext4 hV10
  have EB := Lib.hid (EZ.out.trans (E9.out.trans E10.out))
  have HS7 : Hid (∀ w', Ext V10 w' → w'.cell? ⟨w.heap.size, 0, none⟩ = some (.slice a1 m1 c1) ∧ w'.cell? ⟨w.heap.size, 1, none⟩ = some (.slice b1 n1 d1) ∧ w'.cell? ⟨w.heap.size + 1, 0, none⟩ = some (.slice ax mx cx) ∧ w'.cell? ⟨w3.heap.size, 0, none⟩ = some (.slice od ld cd) ∧ w'.cell? ⟨w4.heap.size, 0, none⟩ = some (.slice ob lb cb)) := Lib.hid (fun w' h => ⟨(row2_cells (rowE (EB.out.trans h) HR1.out)).1, (row2_cells (rowE (EB.out.trans h) HR1.out)).2.1, by rw [cell_of_row _ _ _ _ _ _ (rowE (EB.out.trans h) HR2.out)]; rfl, by rw [cell_of_row _ _ _ _ _ _ (rowE (E10.out.trans h) R9.out)]; rfl, by rw [cell_of_row _ _ _ _ _ _ (rowE h R10.out)]; rfl⟩)
  have hU : 0 < U36 := by unfold U36; decide
  have p1 := rD_pos (X := d0) hU; have p2 := rD_pos (X := d0 + 1) hU; have p3 := rD_pos (X := Xx) hU
  obtain ⟨q1v, hq1⟩ : ∃ q, cmpN (dN (rN d0 U36) (rD d0 U36) * D) (N * dD (rD d0 U36)) = q := ⟨_, rfl⟩
  obtain ⟨q2v, hq2⟩ : ∃ q, cmpN (dN (rN (d0 + 1) U36) (rD (d0 + 1) U36) * D) (N * dD (rD (d0 + 1) U36)) = q := ⟨_, rfl⟩
  have z1 : decide ((0 : Int) < q1v) = false := by
    apply decide_eq_false; rw [← hq1, dN_pos p1, dD_of_pos p1, ← HD0.out]
    have := down_le (N := N) (D := D)
    rcases Nat.lt_or_eq_of_le this with h | h
    · rw [cmpN_lt h]; decide
    · rw [cmpN_eq h]; decide
  have z2 : decide (q2v ≤ (0 : Int)) = false := by
    apply decide_eq_false; rw [← hq2, dN_pos p2, dD_of_pos p2, ← HD0.out]
    rw [cmpN_gt (down_gt (N := N) (D := D) HDP.out)]; decide
  have z1p : ¬ ((0 : Int) < q1v) := of_decide_eq_false z1
  have z2p : ¬ (q2v ≤ (0 : Int)) := of_decide_eq_false z2
  have hdx : dN (rN Xx U36) (rD Xx U36) * U36 / dD (rD Xx U36) = Xx := by rw [dN_pos p3, dD_of_pos p3]; exact down_dec Xx
  have HQ1 := Lib.hid hq1; have HQ2 := Lib.hid hq2; have HDX := Lib.hid hdx
  clear hq1 hq2 hdx p1 p2 p3 hU
  go_wp2_with (rw [HV10.out])
  go_region_held3 (fun w' => w'.cell? ⟨w.heap.size, 0, none⟩ = some (.slice a1 m1 c1) ∧ w'.cell? ⟨w.heap.size, 1, none⟩ = some (.slice b1 n1 d1) ∧ w'.cell? ⟨w.heap.size + 1, 0, none⟩ = some (.slice ax mx cx) ∧ w'.cell? ⟨w3.heap.size, 0, none⟩ = some (.slice od ld cd) ∧ w'.cell? ⟨w4.heap.size, 0, none⟩ = some (.slice ob lb cb))
    (first | exact HS7.out _ (Ext.refl _).drew | exact HS7.out _ (by assumption))
    (first
      | (go_at_call_of 36 od; refine (rofdec_calls (HOD.out.old (E10.out.trans (Ext.refl V10).drew)) (by omega) (HTZ.out.old (EB.out.trans (Ext.refl V10).drew))).mono ?_; rintro e wA ⟨aA, lA, cA, bA, mA, dA, rfl, oaA, obA, hextA, hlA, hmA⟩; rw [val_lim] at oaA obA; have EA : Ext V10 wA := (Ext.refl V10).drew.trans hextA)
      | (go_at_call_of 16 aA; refine (rcmp_calls oaA.sl obA.sl (HA.out _ (EB.out.trans EA)) (HB.out _ (EB.out.trans EA)) (by omega) (by omega) (by omega) (by omega)).mono ?_; rintro e wB ⟨rfl, hextB⟩; rw [val_lim, val_lim, HVXa.out, HVYa.out, HN.out, HD.out, HQ1.out]; have EB2 : Ext V10 wB := EA.trans hextB)
      | (go_at_call 45; refine (dadd_calls (HOD.out.old (E10.out.trans EB2)) (HOB.out.old EB2) (by omega) (by omega)).mono ?_; rintro e wC ⟨oC, lC, cC, rfl, hownC, hextC, hlC⟩; rw [val_lim, val_lim] at hownC; have EC : Ext V10 wC := EB2.trans hextC)
      | (go_at_call_of 36 oC; refine (rofdec_calls hownC.sl (by omega) (HTZ.out.old (EB.out.trans EC))).mono ?_; rintro e wD ⟨aD, lD, cD, bD, mD, dD', rfl, oaD, obD, hextD, hlD, hmD⟩; rw [val_lim] at oaD obD; have ED : Ext V10 wD := EC.trans hextD)
      | (go_at_call_of 16 aD; refine (rcmp_calls oaD.sl obD.sl (HA.out _ (EB.out.trans ED)) (HB.out _ (EB.out.trans ED)) (by omega) (by omega) (by omega) (by omega)).mono ?_; rintro e wE ⟨rfl, hextE⟩; rw [val_lim, val_lim, HVXa.out, HVYa.out, HN.out, HD.out, HQ2.out]; have EE : Ext V10 wE := ED.trans hextE)
      | (go_at_call_of 36 ax; refine (rofdec_calls (HX.out _ (EB.out.trans EE)) (by omega) (HTZ.out.old (EB.out.trans EE))).mono ?_; rintro e wF ⟨aF, lF, cF, bF, mF, dF, rfl, oaF, obF, hextF, hlF, hmF⟩; rw [HVXx.out] at oaF obF; have EF : Ext V10 wF := EE.trans hextF)
      | (go_at_call 41; refine (rdown_calls oaF.sl obF.sl (by omega) (by omega)).mono ?_; rintro e wG ⟨oG, lG, cG, rfl, hownG, hextG, hlG⟩; rw [val_lim, val_lim, HDX.out] at hownG; have EG : Ext V10 wG := EF.trans hextG)
      | (go_at_call 46; refine (dcmp_calls hownG.sl (HX.out _ (EB.out.trans EG)) (by omega) (by omega)).mono ?_; rintro e wH ⟨rfl, hextH⟩; rw [val_lim, HVXx.out, cmpN_eq rfl]; have EH : Ext V10 wH := EG.trans hextH))
  have E11 := Lib.hid (EB.out.trans EH)
  clear EH
  obtain ⟨k1, k2, k3, k4⟩ := row2_cells (rowE E11.out HR1.out)
  have g2 : wH.cell? ⟨w.heap.size + 1, 0, none⟩ = some (.slice ax mx cx) := by rw [cell_of_row _ _ _ _ _ _ (rowE E11.out HR2.out)]; rfl
  have g3 : wH.cell? ⟨w.heap.size + 2, 0, none⟩ = some (.slice ay my cy) := by rw [cell_of_row _ _ _ _ _ _ (rowE E11.out HR3.out)]; rfl
  have g4 : wH.cell? ⟨w.heap.size + 3, 0, none⟩ = some (.slice az mz cz) := by rw [cell_of_row _ _ _ _ _ _ (rowE E11.out HR4.out)]; rfl
  have CZ := dzero_calls (HY.out _ E11.out) (by omega)
  rw [HVXy.out] at CZ
  have HCZ := Lib.hid CZ
  clear CZ
  by_cases hy0 : Xy = 0
  · rw [decide_eq_true hy0] at HCZ
    clear hy0
    go_wp2_with fail
    refine HCZ.out.mono ?_
    rintro e w5 ⟨rfl, hext5⟩
    go_wp2_with fail
    go_ret
    exact ⟨rfl, HEL.out.trans (E11.out.trans hext5)⟩
  rw [decide_eq_false hy0] at HCZ
  have HY0 := Lib.hid hy0
  clear hy0
  go_wp2_with fail
  refine HCZ.out.mono ?_
  rintro e w5 ⟨rfl, hext5⟩
  have E12 := Lib.hid (E11.out.trans hext5)
  clear hext5 k1 k2 k3 k4 g2 g3 g4
  obtain ⟨k1, k2, k3, k4⟩ := row2_cells (rowE E12.out HR1.out)
  have g2 : w5.cell? ⟨w.heap.size + 1, 0, none⟩ = some (.slice ax mx cx) := by rw [cell_of_row _ _ _ _ _ _ (rowE E12.out HR2.out)]; rfl
  have g3 : w5.cell? ⟨w.heap.size + 2, 0, none⟩ = some (.slice ay my cy) := by rw [cell_of_row _ _ _ _ _ _ (rowE E12.out HR3.out)]; rfl
  have g4 : w5.cell? ⟨w.heap.size + 3, 0, none⟩ = some (.slice az mz cz) := by rw [cell_of_row _ _ _ _ _ _ (rowE E12.out HR4.out)]; rfl
  have CQ := dquo_calls (HX.out _ E12.out) (HY.out _ E12.out) (by omega) (by omega)
  rw [HVXx.out, HVXy.out, (rdL_pos HY0.out).1, (rdL_pos HY0.out (P := 0)).2] at CQ
  have HCQ := Lib.hid CQ
  clear CQ
  go_wp2_with fail
  refine HCQ.out.mono ?_
  rintro e w6 ⟨oq, lq, cq, rfl, hownq, hext6, hlq⟩
  obtain ⟨V11, hV11⟩ : ∃ V, w6.alloc (.cells #[.slice oq lq cq] 50) = V := ⟨_, rfl⟩
  have E13 := Lib.hid (show Ext X4 V11 by rw [← hV11]; exact (E12.out.trans hext6).alloc _)
  have R11 := Lib.hid (show V11.heap[w6.heap.size]? = some (.cells #[.slice oq lq cq] 50 (0, 0)) by rw [← hV11]; exact heap_alloc_new w6 _)
  have HOQ := Lib.hid (show Sl V11 oq lq cq (lim (Xx * U36 / Xy)) by rw [← hV11]; exact hownq.sl.old ((Ext.refl _).alloc _))
  have HV11 := Lib.hid hV11
  clear hownq hext6 hV11 k1 k2 k3 k4 g2 g3 g4
  go_wp2_with (rw [HV11.out])
  obtain ⟨hqe, hps⟩ := quo_exact (x := Xx) (Nat.pos_of_ne_zero HY0.out)
  have hU : 0 < U36 := by unfold U36; decide
  have p1 := rD_pos (X := Xx) hU; have p2 := rD_pos (X := Xy) hU
  obtain ⟨U, hUv⟩ : ∃ U, rN (rN Xx U36 * rD Xy U36) (rD Xx U36 * rN Xy U36) = U := ⟨_, rfl⟩
  obtain ⟨V, hVv⟩ : ∃ V, rD (rN Xx U36 * rD Xy U36) (rD Xx U36 * rN Xy U36) = V := ⟨_, rfl⟩
  have hVp : 0 < V := by rw [← hVv]; exact rD_pos (Nat.mul_pos p1 hps)
  rw [hUv, hVv] at hqe
  have HU1 : Hid (rN (dN (rN Xx U36) (rD Xx U36) * dD (rD Xy U36)) (dD (rD Xx U36) * dN (rN Xy U36) (rD Xy U36)) = U) := Lib.hid (by rw [dN_pos p1, dD_of_pos p1, dN_pos p2, dD_of_pos p2]; exact hUv)
  have HV1 : Hid (rD (dN (rN Xx U36) (rD Xx U36) * dD (rD Xy U36)) (dD (rD Xx U36) * dN (rN Xy U36) (rD Xy U36)) = V) := Lib.hid (by rw [dN_pos p1, dD_of_pos p1, dN_pos p2, dD_of_pos p2]; exact hVv)
  have HNZ : Hid (dN (rN Xy U36) (rD Xy U36) ≠ 0) := Lib.hid (by rw [dN_pos p2]; omega)
  have HQE := Lib.hid hqe; have HVP := Lib.hid hVp
  clear hqe hps hU p1 p2 hUv hVv hVp
  have HS12 : Hid (∀ w', Ext X4 w' → w'.cell? ⟨w.heap.size + 1, 0, none⟩ = some (.slice ax mx cx) ∧ w'.cell? ⟨w.heap.size + 2, 0, none⟩ = some (.slice ay my cy)) := Lib.hid (fun w' h => ⟨by rw [cell_of_row _ _ _ _ _ _ (rowE h HR2.out)]; rfl, by rw [cell_of_row _ _ _ _ _ _ (rowE h HR3.out)]; rfl⟩)
  have HS12' : Hid (∀ w' u v B, Ext X4 w' → X4.heap.size ≤ B → ((w'.setCell ⟨B, 0, none⟩ u).setCell ⟨B, 1, none⟩ v).cell? ⟨w.heap.size + 1, 0, none⟩ = some (.slice ax mx cx) ∧ ((w'.setCell ⟨B, 0, none⟩ u).setCell ⟨B, 1, none⟩ v).cell? ⟨w.heap.size + 2, 0, none⟩ = some (.slice ay my cy)) := Lib.hid (fun w' u v B h hB => by
    have hs := HSZ.out
    exact ⟨by rw [cell_of_row _ _ _ _ _ _ (set2_other (rowE h HR2.out) (by omega) u v)]; rfl, by rw [cell_of_row _ _ _ _ _ _ (set2_other (rowE h HR3.out) (by omega) u v)]; rfl⟩)
  refine wp_region_mid (fun A A' W' => ∃ (BX : Nat) (au : Option Addr) (lu cu : Nat) (av : Option Addr) (lv cv : Nat), A' = putsFrom A A' [13, 14, 75, 76, 77, 78, 79, 80, 81, 82] ∧ A'.tmps.getD 13 undef = .pointer (some ⟨BX, 0, none⟩) ∧ A'.tmps.getD 14 undef = .int .i64 0 ∧ Ext V11 W' ∧ W'.heap[BX]? = some (.cells #[.slice au lu cu, .slice av lv cv] 25 (0, 0)) ∧ Sl W' au lu cu (lim U) ∧ Sl W' av lv cv (lim V) ∧ lu ≤ 100 ∧ lv ≤ 100) ?_ ?_
  · skip
    go_region_held3 (fun w' => w'.cell? ⟨w.heap.size + 1, 0, none⟩ = some (.slice ax mx cx) ∧ w'.cell? ⟨w.heap.size + 2, 0, none⟩ = some (.slice ay my cy))
      (first | exact HS12.out _ (E13.out.trans (Ext.refl _).drew) | exact HS12.out _ (E13.out.trans ((Ext.refl _).drew.alloc _)) | exact HS12.out _ (E13.out.trans (by assumption)) | exact HS12.out _ (E13.out.trans (Ext.alloc (by assumption) _)) | exact HS12'.out _ _ _ _ (E13.out.trans (by assumption)) (Nat.le_trans E13.out.size (by first | exact Nat.le_refl _ | exact Ext.size (by assumption))))
      (first
        | (go_at_call_of 36 ax; refine (rofdec_calls (HX.out _ (E13.out.trans (by first | exact (Ext.refl V11).drew | exact Ext.alloc (Ext.refl V11).drew _))) (by omega) (HTZ.out.old (E13.out.trans (by first | exact (Ext.refl V11).drew | exact Ext.alloc (Ext.refl V11).drew _)))).mono ?_; rintro e wA ⟨aA, lA, cA, bA, mA, dA, rfl, oaA, obA, hextwA, hlA, hmA⟩; rw [HVXx.out] at oaA obA; have EwA : Ext V11 wA := (by first | exact Ext.trans (Ext.refl V11).drew hextwA | exact Ext.trans (Ext.alloc (Ext.refl V11).drew _) hextwA))
        | (go_at_call_of 36 ay; refine (rofdec_calls (HY.out _ (E13.out.trans (by first | exact EwA | exact Ext.alloc EwA _))) (by omega) (HTZ.out.old (E13.out.trans (by first | exact EwA | exact Ext.alloc EwA _)))).mono ?_; rintro e wB ⟨aB, lB, cB, bB, mB, dB, rfl, oaB, obB, hextwB, hlB, hmB⟩; rw [HVXy.out] at oaB obB; have EAB : Ext wA wB := (by first | exact hextwB | exact ((Ext.refl _).alloc _).trans hextwB); have EwB : Ext V11 wB := (by first | exact Ext.trans EwA hextwB | exact Ext.trans (Ext.alloc EwA _) hextwB))
        | (go_at_call 14; refine (rquo_ok (oaA.sl.old (by first | exact EAB | exact Ext.alloc EAB _)) (obA.sl.old (by first | exact EAB | exact Ext.alloc EAB _)) (oaB.sl.old (by first | exact Ext.refl _ | exact (Ext.refl _).alloc _)) (obB.sl.old (by first | exact Ext.refl _ | exact (Ext.refl _).alloc _)) (by omega) (by omega) (by omega) (by omega) (HTZ.out.old (E13.out.trans (by first | exact EwB | exact Ext.alloc EwB _))) (by rw [val_lim, val_lim]; exact HNZ.out)).mono ?_; rintro e wC ⟨aC, lC, cC, bC, mC, dC, rfl, oaC, obC, hextwC, hlC, hmC⟩; rw [val_lim, val_lim, val_lim, val_lim, HU1.out] at oaC; rw [val_lim, val_lim, val_lim, val_lim, HV1.out] at obC; have EwC : Ext V11 wC := (by first | exact Ext.trans EwB hextwC | exact Ext.trans (Ext.alloc EwB _) hextwC); (first | have R9' : Hid (wC.heap[V11.heap.size]? = some (.cells #[.slice none 0 0, .slice none 0 0] 25 (0, 0))) := Lib.hid (rowE (Ext.trans hextwA (Ext.trans hextwB hextwC)) (heap_alloc_new V11.drew (.cells #[.slice none 0 0, .slice none 0 0] 25))) | have R9' := Lib.hid (rowE (Ext.trans hextwB hextwC) (heap_alloc_new wA (.cells #[.slice none 0 0, .slice none 0 0] 25))) | have R9' := Lib.hid (rowE hextwC (heap_alloc_new wB (.cells #[.slice none 0 0, .slice none 0 0] 25))) | skip); (first | have y1 := (row2_cells R9'.out).1 | skip); (first | have y2 := (row2_cells R9'.out).2.1 | skip); (first | have y3 := (row2_cells R9'.out).2.2.1 | skip); (first | have y4 := (row2_cells R9'.out).2.2.2 | skip)))
    all_goals (
      have zA := EwA.size; have zB := EwB.size; have zC := EwC.size
      have zD : V11.drew.heap.size = V11.heap.size := rfl
      first
        | exact Mid.mk ⟨_, aC, lC, cC, bC, mC, dC, by first | kernel_rfl | rfl, by rfl, by rfl, set2_ext EwC (by first | exact Nat.le_refl _ | exact EwA.size | exact EwB.size) _ _, set2_row R9'.out _ _, (oaC.set2 _ _ (by first | (have h1 : (V11.alloc (.cells #[.slice none 0 0, .slice none 0 0] 25)).heap.size ≤ wA.heap.size := hextwA.size; have := alloc_size V11 (.cells #[.slice none 0 0, .slice none 0 0] 25); have := EAB.size; omega) | (have := alloc_size wB (.cells #[.slice none 0 0, .slice none 0 0] 25); have := alloc_size wA (.cells #[.slice none 0 0, .slice none 0 0] 25); have := alloc_size V11.drew (.cells #[.slice none 0 0, .slice none 0 0] 25); have := EAB.size; have := hextwC.size; have := hextwB.size; have := hextwA.size; omega))).sl, (obC.set2 _ _ (by first | (have h1 : (V11.alloc (.cells #[.slice none 0 0, .slice none 0 0] 25)).heap.size ≤ wA.heap.size := hextwA.size; have := alloc_size V11 (.cells #[.slice none 0 0, .slice none 0 0] 25); have := EAB.size; omega) | (have := alloc_size wB (.cells #[.slice none 0 0, .slice none 0 0] 25); have := alloc_size wA (.cells #[.slice none 0 0, .slice none 0 0] 25); have := alloc_size V11.drew (.cells #[.slice none 0 0, .slice none 0 0] 25); have := EAB.size; have := hextwC.size; have := hextwB.size; have := hextwA.size; omega))).sl, by omega, by omega⟩
        | exact Mid.mk ⟨_, aC, lC, cC, bC, mC, dC, by first | kernel_rfl | rfl, by rfl, by rfl, set2_ext EwC (by first | exact Nat.le_refl _ | exact EwA.size | exact EwB.size) _ _, set2_row R9'.out _ _, (oaC.set2 _ _ (by first | (have h1 : (V11.alloc (.cells #[.slice none 0 0, .slice none 0 0] 25)).heap.size ≤ wA.heap.size := hextwA.size; have := alloc_size V11 (.cells #[.slice none 0 0, .slice none 0 0] 25); have := EAB.size; omega) | (have := alloc_size wB (.cells #[.slice none 0 0, .slice none 0 0] 25); have := alloc_size wA (.cells #[.slice none 0 0, .slice none 0 0] 25); have := alloc_size V11.drew (.cells #[.slice none 0 0, .slice none 0 0] 25); have := EAB.size; have := hextwC.size; have := hextwB.size; have := hextwA.size; omega))).sl, (obC.set2 _ _ (by first | (have h1 : (V11.alloc (.cells #[.slice none 0 0, .slice none 0 0] 25)).heap.size ≤ wA.heap.size := hextwA.size; have := alloc_size V11 (.cells #[.slice none 0 0, .slice none 0 0] 25); have := EAB.size; omega) | (have := alloc_size wB (.cells #[.slice none 0 0, .slice none 0 0] 25); have := alloc_size wA (.cells #[.slice none 0 0, .slice none 0 0] 25); have := alloc_size V11.drew (.cells #[.slice none 0 0, .slice none 0 0] 25); have := EAB.size; have := hextwC.size; have := hextwB.size; have := hextwA.size; omega))).sl, by omega, by omega⟩
        | exact Mid.mk ⟨_, aC, lC, cC, bC, mC, dC, by first | kernel_rfl | rfl, by rfl, by rfl, set2_ext EwC (by first | exact Nat.le_refl _ | exact EwA.size | exact EwB.size) _ _, set2_row R9'.out _ _, (oaC.set2 _ _ (by first | (have h1 : (V11.alloc (.cells #[.slice none 0 0, .slice none 0 0] 25)).heap.size ≤ wA.heap.size := hextwA.size; have := alloc_size V11 (.cells #[.slice none 0 0, .slice none 0 0] 25); have := EAB.size; omega) | (have := alloc_size wB (.cells #[.slice none 0 0, .slice none 0 0] 25); have := alloc_size wA (.cells #[.slice none 0 0, .slice none 0 0] 25); have := alloc_size V11.drew (.cells #[.slice none 0 0, .slice none 0 0] 25); have := EAB.size; have := hextwC.size; have := hextwB.size; have := hextwA.size; omega))).sl, (obC.set2 _ _ (by first | (have h1 : (V11.alloc (.cells #[.slice none 0 0, .slice none 0 0] 25)).heap.size ≤ wA.heap.size := hextwA.size; have := alloc_size V11 (.cells #[.slice none 0 0, .slice none 0 0] 25); have := EAB.size; omega) | (have := alloc_size wB (.cells #[.slice none 0 0, .slice none 0 0] 25); have := alloc_size wA (.cells #[.slice none 0 0, .slice none 0 0] 25); have := alloc_size V11.drew (.cells #[.slice none 0 0, .slice none 0 0] 25); have := EAB.size; have := hextwC.size; have := hextwB.size; have := hextwA.size; omega))).sl, by omega, by omega⟩
        | exact Mid.mk ⟨_, aC, lC, cC, bC, mC, dC, by first | kernel_rfl | rfl, by rfl, by rfl, EwC.alloc _, heap_alloc_new wC _, oaC.sl.old ((Ext.refl _).alloc _), obC.sl.old ((Ext.refl _).alloc _), by omega, by omega⟩)
  rintro A' V13 ⟨BX, au, lu, cu, av, lv, cv, hA', hp13, hp14, hE13, hR13, hsu, hsv, hlu, hlv⟩
  simp only [putsFrom, List.foldl_cons, List.foldl_nil, hp13, hp14] at hA'
  clear hp13 hp14
  generalize A'.tmps.getD 75 undef = v75 at hA'
  generalize A'.tmps.getD 76 undef = v76 at hA'
  generalize A'.tmps.getD 77 undef = v77 at hA'
  generalize A'.tmps.getD 78 undef = v78 at hA'
  generalize A'.tmps.getD 79 undef = v79 at hA'
  generalize A'.tmps.getD 80 undef = v80 at hA'
  generalize A'.tmps.getD 81 undef = v81 at hA'
  generalize A'.tmps.getD 82 undef = v82 at hA'
  subst hA'
  simp only [Act.put, List.setIfInBounds_toArray, List.set_cons_zero, List.set_cons_succ]
  have E14 := Lib.hid (E13.out.trans hE13); have R13 := Lib.hid hR13; have HSU := Lib.hid hsu; have HSV := Lib.hid hsv; have E14q := Lib.hid hE13
  clear hE13 hR13 hsu hsv
  obtain ⟨k1, k2, k3, k4⟩ := row2_cells (rowE E14.out HR1.out)
  have g2 : V13.cell? ⟨w.heap.size + 1, 0, none⟩ = some (.slice ax mx cx) := by rw [cell_of_row _ _ _ _ _ _ (rowE E14.out HR2.out)]; rfl
  have g3 : V13.cell? ⟨w.heap.size + 2, 0, none⟩ = some (.slice ay my cy) := by rw [cell_of_row _ _ _ _ _ _ (rowE E14.out HR3.out)]; rfl
  have g4 : V13.cell? ⟨w.heap.size + 3, 0, none⟩ = some (.slice az mz cz) := by rw [cell_of_row _ _ _ _ _ _ (rowE E14.out HR4.out)]; rfl
  have CM := dmuldiv_calls (HX.out _ E14.out) (HZ.out _ E14.out) (HY.out _ E14.out) (by omega) (by omega) (by omega)
  rw [HVXx.out, HVXy.out, HVXz.out, (rdL_pos HY0.out).1, (rdL_pos HY0.out (P := 0)).2] at CM
  have HCM := Lib.hid CM
  clear CM
  go_wp2_with fail
  refine HCM.out.mono ?_
  rintro e w8 ⟨om, lm, cm, rfl, hownm, hext8, hlm⟩
  obtain ⟨V15, hV15⟩ : ∃ V, w8.alloc (.cells #[.slice om lm cm] 50) = V := ⟨_, rfl⟩
  have E15 := Lib.hid (show Ext V13 V15 by rw [← hV15]; exact hext8.alloc _)
  have R15 := Lib.hid (show V15.heap[w8.heap.size]? = some (.cells #[.slice om lm cm] 50 (0, 0)) by rw [← hV15]; exact heap_alloc_new w8 _)
  have HOM := Lib.hid (show Sl V15 om lm cm (lim (Xx * Xz / Xy)) by rw [← hV15]; exact hownm.sl.old ((Ext.refl _).alloc _))
  have HV15 := Lib.hid hV15
  clear hownm hext8 hV15 k1 k2 k3 k4 g2 g3 g4
  have hm1 : dN U V * U36 / dD V = Xx * U36 / Xy := by rw [dN_pos HVP.out, dD_of_pos HVP.out]; exact down_quo (Nat.pos_of_ne_zero HY0.out) HVP.out HQE.out
  have hm2 : dN (rN (dN U V * dN (rN Xz U36) (rD Xz U36)) (dD V * dD (rD Xz U36))) (rD (dN U V * dN (rN Xz U36) (rD Xz U36)) (dD V * dD (rD Xz U36))) * U36 / dD (rD (dN U V * dN (rN Xz U36) (rD Xz U36)) (dD V * dD (rD Xz U36))) = Xx * Xz / Xy := by
    have pz := rD_pos (X := Xz) (Y := U36) (by unfold U36; decide)
    rw [dN_pos HVP.out, dD_of_pos HVP.out, dN_pos pz, dD_of_pos pz]
    have pr := rD_pos (X := U * rN Xz U36) (Nat.mul_pos HVP.out pz)
    rw [dN_pos pr, dD_of_pos pr]
    exact down_mul (Nat.pos_of_ne_zero HY0.out) HVP.out HQE.out
  have HM1 := Lib.hid hm1; have HM2 := Lib.hid hm2
  clear hm1 hm2
  have HS14 : Hid (∀ w', Ext V15 w' → w'.cell? ⟨w6.heap.size, 0, none⟩ = some (.slice oq lq cq) ∧ w'.cell? ⟨BX, 0, none⟩ = some (.slice au lu cu) ∧ w'.cell? ⟨BX, 1, none⟩ = some (.slice av lv cv) ∧ w'.cell? ⟨w.heap.size + 3, 0, none⟩ = some (.slice az mz cz) ∧ w'.cell? ⟨w8.heap.size, 0, none⟩ = some (.slice om lm cm)) := Lib.hid (fun w' h => ⟨by rw [cell_of_row _ _ _ _ _ _ (rowE (E14q.out.trans (E15.out.trans h)) R11.out)]; rfl, (row2_cells (rowE (E15.out.trans h) R13.out)).1, (row2_cells (rowE (E15.out.trans h) R13.out)).2.1, by rw [cell_of_row _ _ _ _ _ _ (rowE (E14.out.trans (E15.out.trans h)) HR4.out)]; rfl, by rw [cell_of_row _ _ _ _ _ _ (rowE h R15.out)]; rfl⟩)
  have E16 := Lib.hid (E14.out.trans E15.out)
  go_wp2_with (rw [HV15.out])
  go_region_held3 (fun w' => w'.cell? ⟨w6.heap.size, 0, none⟩ = some (.slice oq lq cq) ∧ w'.cell? ⟨BX, 0, none⟩ = some (.slice au lu cu) ∧ w'.cell? ⟨BX, 1, none⟩ = some (.slice av lv cv) ∧ w'.cell? ⟨w.heap.size + 3, 0, none⟩ = some (.slice az mz cz) ∧ w'.cell? ⟨w8.heap.size, 0, none⟩ = some (.slice om lm cm))
    (first | exact HS14.out _ (Ext.refl _).drew | exact HS14.out _ (by assumption))
    (first
      | (go_at_call_of 41 au; refine (rdown_calls (HSU.out.old (E15.out.trans (Ext.refl V15).drew)) (HSV.out.old (E15.out.trans (Ext.refl V15).drew)) (by omega) (by omega)).mono ?_; rintro e yA ⟨oA, lA2, cA2, rfl, hownA, hextA2, hlA2⟩; rw [val_lim, val_lim, HM1.out] at hownA; have FA : Ext V15 yA := (Ext.refl V15).drew.trans hextA2)
      | (go_at_call_of 40 oq; refine (hdec_at (HOQ.out.old (E14q.out.trans (E15.out.trans FA))) hownA.sl (by omega) (by omega)).mono ?_; rintro e yB ⟨rfl, hextB2⟩; have FB : Ext V15 yB := FA.trans hextB2)
      | (go_at_call 36; refine (rofdec_calls (HZ.out _ (E16.out.trans FB)) (by omega) (HTZ.out.old (E16.out.trans FB))).mono ?_; rintro e yC ⟨aC2, lC2, cC2, bC2, mC2, dC2, rfl, oaC2, obC2, hextC2, hlC2, hmC2⟩; rw [HVXz.out] at oaC2 obC2; have FC : Ext V15 yC := FB.trans hextC2)
      | (go_at_call 21; refine (rmul_calls (HSU.out.old (E15.out.trans FC)) (HSV.out.old (E15.out.trans FC)) oaC2.sl obC2.sl (by omega) (by omega) (by omega) (by omega) (HTZ.out.old (E16.out.trans FC))).mono ?_; rintro e yD ⟨aD2, lD2, cD2, bD2, mD2, dD2, rfl, oaD2, obD2, hextD2, hlD2, hmD2⟩; rw [val_lim, val_lim, val_lim, val_lim] at oaD2 obD2; have FD : Ext V15 yD := FC.trans hextD2)
      | (go_at_call 41; refine (rdown_calls oaD2.sl obD2.sl (by omega) (by omega)).mono ?_; rintro e yE ⟨oE2, lE2, cE2, rfl, hownE2, hextE2, hlE2⟩; rw [val_lim, val_lim, HM2.out] at hownE2; have FE : Ext V15 yE := FD.trans hextE2)
      | (go_at_call 40; refine (hdec_at (HOM.out.old FE) hownE2.sl (by omega) (by omega)).mono ?_; rintro e yF ⟨rfl, hextF2⟩; have FF : Ext V15 yF := FE.trans hextF2))
  all_goals (
    have HEND := Lib.hid FF
    go_wp2_with fail
    go_ret
    exact ⟨rfl, HEL.out.trans (E16.out.trans HEND.out)⟩)

end Go.Proofs.YtnfjfgfkeigkiaaGreatDoor
