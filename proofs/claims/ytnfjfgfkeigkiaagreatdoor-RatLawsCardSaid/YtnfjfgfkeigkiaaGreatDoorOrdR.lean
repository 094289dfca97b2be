/- gleanlaw3.RatOrder: the walk. -/
import Derived.Test.YtnfjfgfkeigkiaaGreatDoorSpR
import Derived.Test.YtnfjfgfkeigkiaaGreatDoorMid
namespace Go.Proofs.YtnfjfgfkeigkiaaGreatDoor
open Go.RowKit

/-! Its numbers. -/
theorem ord_add {N1 D1 N2 D2 N3 D3 : Nat} (h1 : 0 < D1) (h2 : 0 < D2) (h3 : 0 < D3) :
    cmpN (dN (rN (N1 * D3 + N3 * D1) (D1 * D3)) (rD (N1 * D3 + N3 * D1) (D1 * D3)) * dD (rD (N2 * D3 + N3 * D2) (D2 * D3))) (dN (rN (N2 * D3 + N3 * D2) (D2 * D3)) (rD (N2 * D3 + N3 * D2) (D2 * D3)) * dD (rD (N1 * D3 + N3 * D1) (D1 * D3))) = cmpN (N1 * D2) (N2 * D1) := by
  have c1 := r_cross (N1 * D3 + N3 * D1) (D1 * D3)
  have c2 := r_cross (N2 * D3 + N3 * D2) (D2 * D3)
  have p1 := rD_pos (X := N1 * D3 + N3 * D1) (Nat.mul_pos h1 h3)
  have p2 := rD_pos (X := N2 * D3 + N3 * D2) (Nat.mul_pos h2 h3)
  rw [dN_pos p1, dN_pos p2, dD_of_pos p1, dD_of_pos p2]
  generalize rN (N1 * D3 + N3 * D1) (D1 * D3) = x at *
  generalize rD (N1 * D3 + N3 * D1) (D1 * D3) = y at *
  generalize rN (N2 * D3 + N3 * D2) (D2 * D3) = u at *
  generalize rD (N2 * D3 + N3 * D2) (D2 * D3) = v at *
  have k0 : 0 < D1 * D3 * (D2 * D3) := Nat.mul_pos (Nat.mul_pos h1 h3) (Nat.mul_pos h2 h3)
  have k1 : 0 < D3 * D3 * (y * v) := Nat.mul_pos (Nat.mul_pos h3 h3) (Nat.mul_pos p1 p2)
  rw [← cmpN_scale k0, ← cmpN_scale (a := N1 * D2) k1]
  have e1 : x * v * (D1 * D3 * (D2 * D3)) = N1 * D2 * (D3 * D3 * (y * v)) + N3 * D1 * D2 * D3 * y * v := by grind
  have e2 : u * y * (D1 * D3 * (D2 * D3)) = N2 * D1 * (D3 * D3 * (y * v)) + N3 * D1 * D2 * D3 * y * v := by grind
  rw [e1, e2, cmpN_addr]
theorem cmpN_le {a b : Nat} : cmpN a b ≤ 0 ↔ a ≤ b := by
  rcases Nat.lt_trichotomy a b with h | h | h
  · rw [cmpN_lt h]; omega
  · rw [cmpN_eq h]; omega
  · rw [cmpN_gt h]; omega
theorem ord_trans {N1 D1 N2 D2 N3 D3 : Nat} (h2 : 0 < D2) (h : N1 * D2 ≤ N2 * D1) (k : N2 * D3 ≤ N3 * D2) : N1 * D3 ≤ N3 * D1 := by
  have e1 : N1 * D2 * D3 ≤ N2 * D1 * D3 := Nat.mul_le_mul_right _ h
  have e2 : N2 * D3 * D1 ≤ N3 * D2 * D1 := Nat.mul_le_mul_right _ k
  have e3 : N1 * D3 * D2 ≤ N3 * D1 * D2 := by
    calc N1 * D3 * D2 = N1 * D2 * D3 := by grind
      _ ≤ N2 * D1 * D3 := e1
      _ = N2 * D3 * D1 := by grind
      _ ≤ N3 * D2 * D1 := e2
      _ = N3 * D1 * D2 := by grind
  exact Nat.le_of_mul_le_mul_right e3 h2
theorem cmpN_abs (a b : Nat) : -1 ≤ cmpN a b ∧ cmpN a b ≤ 1 := by
  rcases Nat.lt_trichotomy a b with h | h | h
  · rw [cmpN_lt h]; omega
  · rw [cmpN_eq h]; omega
  · rw [cmpN_gt h]; omega

theorem rsl_lit3 (w : World) (a1 : Option Addr) (m1 c1 : Nat) (b1 : Option Addr) (n1 d1 : Nat) (a2 : Option Addr) (m2 c2 : Nat) (b2 : Option Addr) (n2 d2 : Nat) (a3 : Option Addr) (m3 c3 : Nat) (b3 : Option Addr) (n3 d3 : Nat) :
    RSl (w.alloc (.cells #[.slice a1 m1 c1, .slice b1 n1 d1, .slice a2 m2 c2, .slice b2 n2 d2, .slice a3 m3 c3, .slice b3 n3 d3] 25)) (some ⟨w.heap.size, 0, none⟩) 3 3
      [((a1, m1, c1), (b1, n1, d1)), ((a2, m2, c2), (b2, n2, d2)), ((a3, m3, c3), (b3, n3, d3))] := by
  have h := heap_alloc_new w (.cells #[.slice a1 m1 c1, .slice b1 n1 d1, .slice a2 m2 c2, .slice b2 n2 d2, .slice a3 m3 c3, .slice b3 n3 d3] 25)
  refine ⟨rfl, Nat.le_refl _, by decide, .inr ⟨w.heap.size, 0, rfl, fun i v hi => ?_⟩⟩
  rw [cell_of_row _ _ _ _ _ _ h, cell_of_row _ _ _ _ _ _ h]
  match i, hi with
  | 0, hi => simp at hi; subst hi; exact ⟨rfl, rfl⟩
  | 1, hi => simp at hi; subst hi; exact ⟨rfl, rfl⟩
  | 2, hi => simp at hi; subst hi; exact ⟨rfl, rfl⟩
theorem rsl_yes {a1 b1 a2 b2 a3 b3 : Option Addr} {m1 c1 n1 d1 m2 c2 n2 d2 m3 c3 n3 d3 : Nat} (h : (m1 ≤ 12 ∧ n1 ≤ 12) ∧ (m2 ≤ 12 ∧ n2 ≤ 12) ∧ (m3 ≤ 12 ∧ n3 ≤ 12)) :
    ([((a1, m1, c1), (b1, n1, d1)), ((a2, m2, c2), (b2, n2, d2)), ((a3, m3, c3), (b3, n3, d3))] : List (Part × Part)).all twelveR = true := by
  simp [twelveR, h]
theorem rsl_no {a1 b1 a2 b2 a3 b3 : Option Addr} {m1 c1 n1 d1 m2 c2 n2 d2 m3 c3 n3 d3 : Nat} (h : ¬ ((m1 ≤ 12 ∧ n1 ≤ 12) ∧ (m2 ≤ 12 ∧ n2 ≤ 12) ∧ (m3 ≤ 12 ∧ n3 ≤ 12))) :
    ([((a1, m1, c1), (b1, n1, d1)), ((a2, m2, c2), (b2, n2, d2)), ((a3, m3, c3), (b3, n3, d3))] : List (Part × Part)).all twelveR = false := by
  rw [Bool.eq_false_iff]
  intro h2
  apply h
  simpa [twelveR] using h2

set_option maxHeartbeats 16000000 in
set_option maxRecDepth 100000 in
theorem ratorder_law {a1 b1 a2 b2 a3 b3 : Option Addr} {m1 c1 n1 d1 m2 c2 n2 d2 m3 c3 n3 d3 : Nat} {xs1 ys1 xs2 ys2 xs3 ys3 : List Nat} {w : World} (ha1 : Sl w a1 m1 c1 xs1) (hb1 : Sl w b1 n1 d1 ys1) (ha2 : Sl w a2 m2 c2 xs2) (hb2 : Sl w b2 n2 d2 ys2) (ha3 : Sl w a3 m3 c3 xs3) (hb3 : Sl w b3 n3 d3 ys3) (htab : Tab w) (htz : TzTab w) :
    Calls Tryz.prog 7 #[RatV a1 m1 c1 b1 n1 d1, RatV a2 m2 c2 b2 n2 d2, RatV a3 m3 c3 b3 n3 d3] w (RetE (.bool true) w) := by
  obtain ⟨X1, hX1⟩ : ∃ X, w.alloc (.cells #[.slice a1 m1 c1, .slice b1 n1 d1] 25) = X := ⟨_, rfl⟩
  obtain ⟨X2, hX2⟩ : ∃ X, X1.alloc (.cells #[.slice a2 m2 c2, .slice b2 n2 d2] 25) = X := ⟨_, rfl⟩
  obtain ⟨X3, hX3⟩ : ∃ X, X2.alloc (.cells #[.slice a3 m3 c3, .slice b3 n3 d3] 25) = X := ⟨_, rfl⟩
  have hsz1 : X1.heap.size = w.heap.size + 1 := by rw [← hX1, alloc_size]
  have hsz2 : X2.heap.size = w.heap.size + 2 := by rw [← hX2, alloc_size, hsz1]
  have hsz3 : X3.heap.size = w.heap.size + 3 := by rw [← hX3, alloc_size, hsz2]
  have E1 : Ext w X1 := by rw [← hX1]; exact (Ext.refl w).alloc _
  have E2 : Ext X1 X2 := by rw [← hX2]; exact (Ext.refl X1).alloc _
  have E3 : Ext X2 X3 := by rw [← hX3]; exact (Ext.refl X2).alloc _
  have R1 : X3.heap[w.heap.size]? = some (.cells #[.slice a1 m1 c1, .slice b1 n1 d1] 25 (0, 0)) := box2_row (w := w) (by rw [hX1]; exact E2.trans E3)
  have R2 : X3.heap[w.heap.size + 1]? = some (.cells #[.slice a2 m2 c2, .slice b2 n2 d2] 25 (0, 0)) := by rw [← hsz1]; exact box2_row (w := X1) (by rw [hX2]; exact E3)
  have R3 : X3.heap[w.heap.size + 2]? = some (.cells #[.slice a3 m3 c3, .slice b3 n3 d3] 25 (0, 0)) := by rw [← hsz2]; exact box2_row (w := X2) (by rw [hX3]; exact Ext.refl _)
  have HS : Hid (∀ w', Ext X3 w' → w'.cell? ⟨w.heap.size, 0, none⟩ = some (.slice a1 m1 c1) ∧ w'.cell? ⟨w.heap.size, 1, none⟩ = some (.slice b1 n1 d1) ∧ w'.cell? ⟨w.heap.size + 1, 0, none⟩ = some (.slice a2 m2 c2) ∧ w'.cell? ⟨w.heap.size + 1, 1, none⟩ = some (.slice b2 n2 d2) ∧ w'.cell? ⟨w.heap.size + 2, 0, none⟩ = some (.slice a3 m3 c3) ∧ w'.cell? ⟨w.heap.size + 2, 1, none⟩ = some (.slice b3 n3 d3)) := Lib.hid (fun w' h => ⟨(row2_cells (rowE h R1)).1, (row2_cells (rowE h R1)).2.1, (row2_cells (rowE h R2)).1, (row2_cells (rowE h R2)).2.1, (row2_cells (rowE h R3)).1, (row2_cells (rowE h R3)).2.1⟩)
  have HEL := Lib.hid ((E1.trans E2).trans E3)
  have HA1 := Lib.hid (fun w' (h : Ext X3 w') => ha1.old (HEL.out.trans h)); have HB1 := Lib.hid (fun w' (h : Ext X3 w') => hb1.old (HEL.out.trans h))
  have HA2 := Lib.hid (fun w' (h : Ext X3 w') => ha2.old (HEL.out.trans h)); have HB2 := Lib.hid (fun w' (h : Ext X3 w') => hb2.old (HEL.out.trans h))
  have HA3 := Lib.hid (fun w' (h : Ext X3 w') => ha3.old (HEL.out.trans h)); have HB3 := Lib.hid (fun w' (h : Ext X3 w') => hb3.old (HEL.out.trans h))
  have CK := Lib.hid (knownR_calls X3 (htab.old HEL.out) (htz.old HEL.out))
  have HTZ := Lib.hid (htz.old HEL.out); have HSZ := Lib.hid hsz3
  have HX1 := Lib.hid hX1; have HX2 := Lib.hid hX2; have HX3 := Lib.hid hX3
  obtain ⟨Xv1, hv1⟩ : ∃ X, val xs1 = X := ⟨_, rfl⟩
  obtain ⟨Yv1, hu1⟩ : ∃ X, val ys1 = X := ⟨_, rfl⟩
  have HVN1 := Lib.hid hv1; have HVD1 := Lib.hid hu1
  obtain ⟨Xv2, hv2⟩ : ∃ X, val xs2 = X := ⟨_, rfl⟩
  obtain ⟨Yv2, hu2⟩ : ∃ X, val ys2 = X := ⟨_, rfl⟩
  have HVN2 := Lib.hid hv2; have HVD2 := Lib.hid hu2
  obtain ⟨Xv3, hv3⟩ : ∃ X, val xs3 = X := ⟨_, rfl⟩
  obtain ⟨Yv3, hu3⟩ : ∃ X, val ys3 = X := ⟨_, rfl⟩
  have HVN3 := Lib.hid hv3; have HVD3 := Lib.hid hu3
  clear hX1 hX2 hX3 E1 E2 E3 R1 R2 R3 ha1 hb1 ha2 hb2 ha3 hb3 hv1 hv2 hv3 hu1 hu2 hu3 htab htz hsz1 hsz2 hsz3
  go_enter Tryz.func7, Tryz.ntmps7
  have hszx1 : X1.heap.size = w.heap.size + 1 := by rw [← HX1.out, alloc_size]
  have hszx2 : X2.heap.size = w.heap.size + 2 := by rw [← HX2.out, alloc_size, hszx1]
  go_wp2_with (first | rw [HX1.out] | rw [HX2.out] | rw [HX3.out])
  refine CK.out.mono ?_
  rintro e w1 ⟨rfl, hext1⟩
  have E1 := Lib.hid hext1
  obtain ⟨Z, hZ⟩ : ∃ Z, w1.alloc (.cells #[.slice a1 m1 c1, .slice b1 n1 d1, .slice a2 m2 c2, .slice b2 n2 d2, .slice a3 m3 c3, .slice b3 n3 d3] 25) = Z := ⟨_, rfl⟩
  have EZ := Lib.hid (show Ext X3 Z by rw [← hZ]; exact hext1.alloc _)
  have HSM := Lib.hid (smallR_calls (rsl_lit3 w1 a1 m1 c1 b1 n1 d1 a2 m2 c2 b2 n2 d2 a3 m3 c3 b3 n3 d3))
  rw [hZ] at HSM
  have HZ := Lib.hid hZ
  obtain ⟨k1, k2, k3, k4, k5, k6⟩ := HS.out w1 hext1
  clear hext1 hZ
  by_cases h12 : (m1 ≤ 12 ∧ n1 ≤ 12) ∧ (m2 ≤ 12 ∧ n2 ≤ 12) ∧ (m3 ≤ 12 ∧ n3 ≤ 12)
  rotate_left
  · rw [rsl_no h12] at HSM
    go_wp2_with (rw [HZ.out])
    refine HSM.out.mono ?_
    rintro e w2 ⟨rfl, rfl⟩
    go_wp2_with fail
    go_ret
    exact ⟨rfl, HEL.out.trans EZ.out⟩
  rw [rsl_yes h12] at HSM
  obtain ⟨⟨q1, q2⟩, ⟨q3, q4⟩, q5, q6⟩ := h12
  clear k1 k2 k3 k4 k5 k6
  obtain ⟨k1, k2, k3, k4, k5, k6⟩ := HS.out w1 E1.out
  obtain ⟨j1, j2, j3, j4, j5, j6⟩ := HS.out Z EZ.out
  go_wp2_with (rw [HZ.out])
  refine HSM.out.mono ?_
  rintro e w2 ⟨rfl, rfl⟩
  clear k1 k2 k3 k4 k5 k6
  obtain ⟨N1, hN1⟩ : ∃ N, dN Xv1 Yv1 = N := ⟨_, rfl⟩
  obtain ⟨D1, hD1⟩ : ∃ D, dD Yv1 = D := ⟨_, rfl⟩
  have HDP1 := Lib.hid (show 0 < D1 by rw [← hD1]; exact dD_pos _)
  have HN1 := Lib.hid hN1; have HD1 := Lib.hid hD1
  clear hN1 hD1
  obtain ⟨N2, hN2⟩ : ∃ N, dN Xv2 Yv2 = N := ⟨_, rfl⟩
  obtain ⟨D2, hD2⟩ : ∃ D, dD Yv2 = D := ⟨_, rfl⟩
  have HDP2 := Lib.hid (show 0 < D2 by rw [← hD2]; exact dD_pos _)
  have HN2 := Lib.hid hN2; have HD2 := Lib.hid hD2
  clear hN2 hD2
  obtain ⟨N3, hN3⟩ : ∃ N, dN Xv3 Yv3 = N := ⟨_, rfl⟩
  obtain ⟨D3, hD3⟩ : ∃ D, dD Yv3 = D := ⟨_, rfl⟩
  have HDP3 := Lib.hid (show 0 < D3 by rw [← hD3]; exact dD_pos _)
  have HN3 := Lib.hid hN3; have HD3 := Lib.hid hD3
  clear hN3 hD3
  obtain ⟨q, hq⟩ : ∃ q, cmpN (N1 * D2) (N2 * D1) = q := ⟨_, rfl⟩
  obtain ⟨qb, hqb⟩ : ∃ q, cmpN (N2 * D3) (N3 * D2) = q := ⟨_, rfl⟩
  obtain ⟨qc, hqc⟩ : ∃ q, cmpN (N1 * D3) (N3 * D1) = q := ⟨_, rfl⟩
  have hqr := cmpN_abs (N1 * D2) (N2 * D1)
  rw [hq] at hqr
  have hw1 : IntKind.i64.wrap q = q := IntWalk.i64_in _ (by omega)
  have HQ := Lib.hid hq; have HQB := Lib.hid hqb; have HQC := Lib.hid hqc
  have HQN : Hid (cmpN (N2 * D1) (N1 * D2) = -q) := Lib.hid (by rw [cmpN_neg, hq])
  have HQA : Hid (cmpN (dN (rN (N1 * D3 + N3 * D1) (D1 * D3)) (rD (N1 * D3 + N3 * D1) (D1 * D3)) * dD (rD (N2 * D3 + N3 * D2) (D2 * D3))) (dN (rN (N2 * D3 + N3 * D2) (D2 * D3)) (rD (N2 * D3 + N3 * D2) (D2 * D3)) * dD (rD (N1 * D3 + N3 * D1) (D1 * D3))) = q) := Lib.hid (by rw [ord_add HDP1.out HDP2.out HDP3.out, hq])
  have hcases : (decide (q ≤ (0 : Int)) = false ∧ ¬ q ≤ 0) ∨ (decide (q ≤ (0 : Int)) = true ∧ q ≤ 0 ∧ decide (qb ≤ (0 : Int)) = false ∧ ¬ qb ≤ 0) ∨ (decide (q ≤ (0 : Int)) = true ∧ q ≤ 0 ∧ decide (qb ≤ (0 : Int)) = true ∧ qb ≤ 0 ∧ decide ((0 : Int) < qc) = false ∧ ¬ (0 : Int) < qc) := by
    by_cases h1 : q ≤ 0
    · by_cases h2 : qb ≤ 0
      · have h3 : qc ≤ 0 := by
          rw [← hqc, cmpN_le]
          rw [← hq, cmpN_le] at h1
          rw [← hqb, cmpN_le] at h2
          exact ord_trans HDP2.out h1 h2
        exact .inr (.inr ⟨decide_eq_true h1, h1, decide_eq_true h2, h2, decide_eq_false (by omega), by omega⟩)
      · exact .inr (.inl ⟨decide_eq_true h1, h1, decide_eq_false h2, h2⟩)
    · exact .inl ⟨decide_eq_false h1, h1⟩
  have HCS := Lib.hid hcases
  clear hq hqb hqc hcases hqr
  go_wp2_with fail
  refine (rcmp_calls (HA1.out _ EZ.out) (HB1.out _ EZ.out) (HA2.out _ EZ.out) (HB2.out _ EZ.out) (by omega) (by omega) (by omega) (by omega)).mono ?_
  rintro e w3 ⟨rfl, hext3⟩
  rw [HVN1.out, HVD1.out, HVN2.out, HVD2.out, HN1.out, HD1.out, HN2.out, HD2.out, HQ.out]
  have E3 := Lib.hid (EZ.out.trans hext3)
  clear hext3 j1 j2 j3 j4 j5 j6
  go_wp2_with fail
  refine wp_region_mid (fun A A' W' => A' = putsFrom A A' [20, 21, 22, 23, 24, 25, 26, 27, 28, 29, 30, 31, 32, 33, 34, 35, 36, 37, 38, 39, 40, 41, 42, 43, 44, 45, 46, 47, 48, 49, 50, 51, 52] ∧ A'.tmps.getD 52 undef = .bool false ∧ Ext X3 W') ?_ ?_
  · rcases HCS.out with ⟨z1, z2⟩ | ⟨z1, z2, z3, z4⟩ | ⟨z1, z2, z3, z4, z5, z6⟩
    · skip
      refine wp_region_held_drew (S := (fun w' => w'.cell? ⟨w.heap.size, 0, none⟩ = some (.slice a1 m1 c1) ∧ w'.cell? ⟨w.heap.size, 1, none⟩ = some (.slice b1 n1 d1) ∧ w'.cell? ⟨w.heap.size + 1, 0, none⟩ = some (.slice a2 m2 c2) ∧ w'.cell? ⟨w.heap.size + 1, 1, none⟩ = some (.slice b2 n2 d2) ∧ w'.cell? ⟨w.heap.size + 2, 0, none⟩ = some (.slice a3 m3 c3) ∧ w'.cell? ⟨w.heap.size + 2, 1, none⟩ = some (.slice b3 n3 d3))) (by kernel_rfl) (HS.out _ E3.out.drew) (fun hHeld => ?_)
      refine takeW (i := 0) (v := ?_) rfl (by kernel_rfl) (by kernel_rfl) (by kernel_rfl) (fun _ _ _ h => h) (Or.inl ⟨by rfl, ?_⟩) (by assumption) ?_
      rotate_left
      · (intro wz hSw; (try dsimp only at hSw); go_simp <;> with_reducible rfl)
      try simp only [Act.put, List.setIfInBounds_toArray, List.set_cons_zero, List.set_cons_succ]
      refine takeW (i := 1) (v := ?_) rfl (by kernel_rfl) (by kernel_rfl) (by kernel_rfl) (fun _ _ _ h => h) (Or.inl ⟨by rfl, ?_⟩) (by assumption) ?_
      rotate_left
      · (intro wz hSw; (try dsimp only at hSw); go_simp <;> with_reducible rfl)
      try simp only [Act.put, List.setIfInBounds_toArray, List.set_cons_zero, List.set_cons_succ]
      refine takeW (i := 2) (v := ?_) rfl (by kernel_rfl) (by kernel_rfl) (by kernel_rfl) (fun _ _ _ h => h) (Or.inl ⟨by rfl, ?_⟩) (by assumption) ?_
      rotate_left
      · (intro wz hSw; (try dsimp only at hSw); go_simp <;> with_reducible rfl)
      try simp only [Act.put, List.setIfInBounds_toArray, List.set_cons_zero, List.set_cons_succ]
      refine wpAnyH_ready (rs := [3]) (by kernel_rfl) (by simp) ?_
      refine consW rfl (fun K hK => ?_) AllReadyH.nil
      go_simp
      go_at_call 16
      refine (rcmp_calls (HA2.out _ E3.out.drew) (HB2.out _ E3.out.drew) (HA1.out _ E3.out.drew) (HB1.out _ E3.out.drew) (by omega) (by omega) (by omega) (by omega)).mono ?_
      rintro e wA ⟨rfl, hextwA⟩
      rw [HVN2.out, HVD2.out, HVN1.out, HVD1.out, HN2.out, HD2.out, HN1.out, HD1.out, HQN.out]
      have EwA : Ext X3 wA := Ext.trans E3.out.drew hextwA
      try go_wp2_with fail
      refine hK.out _ _ ?_ (fun hHeld => ?_)
      · (try dsimp only); exact HS.out _ EwA
      clear hK K
      try simp only [Act.put, List.setIfInBounds_toArray, List.set_cons_zero, List.set_cons_succ]
      refine takeW (i := 4) (v := ?_) rfl (by kernel_rfl) (by kernel_rfl) (by kernel_rfl) (fun _ _ _ h => h) (Or.inl ⟨by rfl, ?_⟩) (by assumption) ?_
      rotate_left
      · (intro wz hSw; (try dsimp only at hSw); go_simp <;> with_reducible rfl)
      try simp only [Act.put, List.setIfInBounds_toArray, List.set_cons_zero, List.set_cons_succ]
      refine takeW (i := 5) (v := ?_) rfl (by kernel_rfl) (by kernel_rfl) (by kernel_rfl) (fun _ _ _ h => h) (Or.inl ⟨by rfl, ?_⟩) (by assumption) ?_
      rotate_left
      · (intro wz hSw; (try dsimp only at hSw); go_simp <;> with_reducible rfl)
      try simp only [Act.put, List.setIfInBounds_toArray, List.set_cons_zero, List.set_cons_succ]
      refine takeW (i := 6) (v := ?_) rfl (by kernel_rfl) (by kernel_rfl) (by kernel_rfl) (fun _ _ _ h => h) (Or.inl ⟨by rfl, ?_⟩) (by assumption) ?_
      rotate_left
      · (intro wz hSw; (try dsimp only at hSw); go_simp <;> with_reducible rfl)
      try simp only [Act.put, List.setIfInBounds_toArray, List.set_cons_zero, List.set_cons_succ]
      refine takeW (i := 7) (v := ?_) rfl (by kernel_rfl) (by kernel_rfl) (by kernel_rfl) (fun _ _ _ h => h) (Or.inl ⟨by rfl, ?_⟩) (by assumption) ?_
      rotate_left
      · (intro wz hSw; (try dsimp only at hSw); go_simp <;> with_reducible rfl)
      try simp only [Act.put, List.setIfInBounds_toArray, List.set_cons_zero, List.set_cons_succ]
      refine takeW (i := 8) (v := ?_) rfl (by kernel_rfl) (by kernel_rfl) (by kernel_rfl) (fun _ _ _ h => h) (Or.inl ⟨by rfl, ?_⟩) (by assumption) ?_
      rotate_left
      · (intro wz hSw; (try dsimp only at hSw); go_simp <;> with_reducible rfl)
      try simp only [Act.put, List.setIfInBounds_toArray, List.set_cons_zero, List.set_cons_succ]
      refine takeW (i := 10) (v := ?_) rfl (by kernel_rfl) (by kernel_rfl) (by kernel_rfl) (fun _ _ _ h => h) (Or.inl ⟨by rfl, ?_⟩) (by assumption) ?_
      rotate_left
      · (intro wz hSw; (try dsimp only at hSw); go_simp <;> with_reducible rfl)
      try simp only [Act.put, List.setIfInBounds_toArray, List.set_cons_zero, List.set_cons_succ]
      refine takeW (i := 11) (v := ?_) rfl (by kernel_rfl) (by kernel_rfl) (by kernel_rfl) (fun _ _ _ h => h) (Or.inl ⟨by rfl, ?_⟩) (by assumption) ?_
      rotate_left
      · (intro wz hSw; (try dsimp only at hSw); go_simp <;> with_reducible rfl)
      try simp only [Act.put, List.setIfInBounds_toArray, List.set_cons_zero, List.set_cons_succ]
      refine takeW (i := 14) (v := ?_) rfl (by kernel_rfl) (by kernel_rfl) (by kernel_rfl) (fun _ _ _ h => h) (Or.inl ⟨by rfl, ?_⟩) (by assumption) ?_
      rotate_left
      · (intro wz hSw; (try dsimp only at hSw); go_simp <;> with_reducible rfl)
      try simp only [Act.put, List.setIfInBounds_toArray, List.set_cons_zero, List.set_cons_succ]
      refine wpAnyH_ready (rs := [9]) (by kernel_rfl) (by simp) ?_
      refine consW rfl (fun K hK => ?_) AllReadyH.nil
      go_simp
      go_at_call 19
      refine (radd_calls (HA1.out _ EwA) (HB1.out _ EwA) (HA3.out _ EwA) (HB3.out _ EwA) (by omega) (by omega) (by omega) (by omega) (HTZ.out.old EwA)).mono ?_
      rintro e wB ⟨awB, lwB, cwB, bwB, mwB, dwB, rfl, oawB, obwB, hextwB, hlwB, hmwB⟩
      rw [HVN1.out, HVD1.out, HVN3.out, HVD3.out, HN1.out, HD1.out, HN3.out, HD3.out] at oawB obwB
      have EwB : Ext X3 wB := Ext.trans EwA hextwB
      try go_wp2_with fail
      refine hK.out _ _ ?_ (fun hHeld => ?_)
      · (try dsimp only); exact HS.out _ EwB
      clear hK K
      try simp only [Act.put, List.setIfInBounds_toArray, List.set_cons_zero, List.set_cons_succ]
      refine wpAnyH_ready (rs := [12]) (by kernel_rfl) (by simp) ?_
      refine consW rfl (fun K hK => ?_) AllReadyH.nil
      go_simp
      go_at_call 19
      refine (radd_calls (HA2.out _ EwB) (HB2.out _ EwB) (HA3.out _ EwB) (HB3.out _ EwB) (by omega) (by omega) (by omega) (by omega) (HTZ.out.old EwB)).mono ?_
      rintro e wC ⟨awC, lwC, cwC, bwC, mwC, dwC, rfl, oawC, obwC, hextwC, hlwC, hmwC⟩
      rw [HVN2.out, HVD2.out, HVN3.out, HVD3.out, HN2.out, HD2.out, HN3.out, HD3.out] at oawC obwC
      have EwC : Ext X3 wC := Ext.trans EwB hextwC
      try go_wp2_with fail
      refine hK.out _ _ ?_ (fun hHeld => ?_)
      · (try dsimp only); exact HS.out _ EwC
      clear hK K
      try simp only [Act.put, List.setIfInBounds_toArray, List.set_cons_zero, List.set_cons_succ]
      refine wpAnyH_ready (rs := [13]) (by kernel_rfl) (by simp) ?_
      refine consW rfl (fun K hK => ?_) AllReadyH.nil
      go_simp
      go_at_call 16
      refine (rcmp_calls (oawB.sl.old hextwC) (obwB.sl.old hextwC) oawC.sl obwC.sl (by omega) (by omega) (by omega) (by omega)).mono ?_
      rintro e wD ⟨rfl, hextwD⟩
      rw [val_lim, val_lim, val_lim, val_lim, HQA.out]
      have EwD : Ext X3 wD := Ext.trans EwC hextwD
      try go_wp2_with fail
      refine hK.out _ _ ?_ (fun hHeld => ?_)
      · (try dsimp only); exact HS.out _ EwD
      clear hK K
      try simp only [Act.put, List.setIfInBounds_toArray, List.set_cons_zero, List.set_cons_succ]
      refine takeW (i := 15) (v := ?_) rfl (by kernel_rfl) (by kernel_rfl) (by kernel_rfl) (fun _ _ _ h => h) (Or.inl ⟨by rfl, ?_⟩) (by assumption) ?_
      rotate_left
      · (intro wz hSw; (try dsimp only at hSw); go_simp <;> with_reducible rfl)
      try simp only [Act.put, List.setIfInBounds_toArray, List.set_cons_zero, List.set_cons_succ]
      refine takeW (i := 16) (v := ?_) rfl (by kernel_rfl) (by kernel_rfl) (by kernel_rfl) (fun _ _ _ h => h) (Or.inl ⟨by rfl, ?_⟩) (by assumption) ?_
      rotate_left
      · (intro wz hSw; (try dsimp only at hSw); go_simp <;> with_reducible rfl)
      try simp only [Act.put, List.setIfInBounds_toArray, List.set_cons_zero, List.set_cons_succ]
      refine takeW (i := 17) (v := ?_) rfl (by kernel_rfl) (by kernel_rfl) (by kernel_rfl) (fun _ _ _ h => h) (Or.inl ⟨by rfl, ?_⟩) (by assumption) ?_
      rotate_left
      · (intro wz hSw; (try dsimp only at hSw); go_simp <;> with_reducible rfl)
      try simp only [Act.put, List.setIfInBounds_toArray, List.set_cons_zero, List.set_cons_succ]
      refine takeW (i := 18) (v := ?_) rfl (by kernel_rfl) (by kernel_rfl) (by kernel_rfl) (fun _ _ _ h => h) (Or.inl ⟨by rfl, ?_⟩) (by assumption) ?_
      rotate_left
      · (intro wz hSw; (try dsimp only at hSw); go_simp <;> with_reducible rfl)
      try simp only [Act.put, List.setIfInBounds_toArray, List.set_cons_zero, List.set_cons_succ]
      refine takeW (i := 19) (v := ?_) rfl (by kernel_rfl) (by kernel_rfl) (by kernel_rfl) (fun _ _ _ h => h) (Or.inl ⟨by rfl, ?_⟩) (by assumption) ?_
      rotate_left
      · (intro wz hSw; (try dsimp only at hSw); go_simp <;> with_reducible rfl)
      try simp only [Act.put, List.setIfInBounds_toArray, List.set_cons_zero, List.set_cons_succ]
      refine takeW (i := 20) (v := ?_) rfl (by kernel_rfl) (by kernel_rfl) (by kernel_rfl) (fun _ _ _ h => h) (Or.inl ⟨by rfl, ?_⟩) (by assumption) ?_
      rotate_left
      · (intro wz hSw; (try dsimp only at hSw); go_simp <;> with_reducible rfl)
      try simp only [Act.put, List.setIfInBounds_toArray, List.set_cons_zero, List.set_cons_succ]
      refine skipW (i := 21) rfl (by kernel_rfl) (by kernel_rfl) (by kernel_rfl) (fun _ _ _ h => h) (by rfl) (by assumption) ?_
      try simp only [Act.put, List.setIfInBounds_toArray, List.set_cons_zero, List.set_cons_succ]
      refine skipW (i := 22) rfl (by kernel_rfl) (by kernel_rfl) (by kernel_rfl) (fun _ _ _ h => h) (by rfl) (by assumption) ?_
      try simp only [Act.put, List.setIfInBounds_toArray, List.set_cons_zero, List.set_cons_succ]
      refine skipW (i := 23) rfl (by kernel_rfl) (by kernel_rfl) (by kernel_rfl) (fun _ _ _ h => h) (by rfl) (by assumption) ?_
      try simp only [Act.put, List.setIfInBounds_toArray, List.set_cons_zero, List.set_cons_succ]
      refine skipW (i := 24) rfl (by kernel_rfl) (by kernel_rfl) (by kernel_rfl) (fun _ _ _ h => h) (by rfl) (by assumption) ?_
      try simp only [Act.put, List.setIfInBounds_toArray, List.set_cons_zero, List.set_cons_succ]
      refine takeW (i := 25) (v := ?_) rfl (by kernel_rfl) (by kernel_rfl) (by kernel_rfl) (fun _ _ _ h => h) (Or.inl ⟨by rfl, ?_⟩) (by assumption) ?_
      rotate_left
      · (intro wz hSw; (try dsimp only at hSw); go_simp <;> with_reducible rfl)
      try simp only [Act.put, List.setIfInBounds_toArray, List.set_cons_zero, List.set_cons_succ]
      refine takeW (i := 26) (v := ?_) rfl (by kernel_rfl) (by kernel_rfl) (by kernel_rfl) (fun _ _ _ h => h) (Or.inl ⟨by rfl, ?_⟩) (by assumption) ?_
      rotate_left
      · (intro wz hSw; (try dsimp only at hSw); go_simp <;> with_reducible rfl)
      try simp only [Act.put, List.setIfInBounds_toArray, List.set_cons_zero, List.set_cons_succ]
      refine skipW (i := 27) rfl (by kernel_rfl) (by kernel_rfl) (by kernel_rfl) (fun _ _ _ h => h) (by rfl) (by assumption) ?_
      try simp only [Act.put, List.setIfInBounds_toArray, List.set_cons_zero, List.set_cons_succ]
      refine skipW (i := 28) rfl (by kernel_rfl) (by kernel_rfl) (by kernel_rfl) (fun _ _ _ h => h) (by rfl) (by assumption) ?_
      try simp only [Act.put, List.setIfInBounds_toArray, List.set_cons_zero, List.set_cons_succ]
      refine skipW (i := 29) rfl (by kernel_rfl) (by kernel_rfl) (by kernel_rfl) (fun _ _ _ h => h) (by rfl) (by assumption) ?_
      try simp only [Act.put, List.setIfInBounds_toArray, List.set_cons_zero, List.set_cons_succ]
      refine skipW (i := 30) rfl (by kernel_rfl) (by kernel_rfl) (by kernel_rfl) (fun _ _ _ h => h) (by rfl) (by assumption) ?_
      try simp only [Act.put, List.setIfInBounds_toArray, List.set_cons_zero, List.set_cons_succ]
      refine takeW (i := 31) (v := ?_) rfl (by kernel_rfl) (by kernel_rfl) (by kernel_rfl) (fun _ _ _ h => h) (Or.inl ⟨by rfl, ?_⟩) (by assumption) ?_
      rotate_left
      · (intro wz hSw; (try dsimp only at hSw); go_simp <;> with_reducible rfl)
      try simp only [Act.put, List.setIfInBounds_toArray, List.set_cons_zero, List.set_cons_succ]
      refine takeW (i := 32) (v := ?_) rfl (by kernel_rfl) (by kernel_rfl) (by kernel_rfl) (fun _ _ _ h => h) (Or.inl ⟨by rfl, ?_⟩) (by assumption) ?_
      rotate_left
      · (intro wz hSw; (try dsimp only at hSw); go_simp <;> with_reducible rfl)
      try simp only [Act.put, List.setIfInBounds_toArray, List.set_cons_zero, List.set_cons_succ]
      refine wpAnyH_done (by kernel_rfl) ?_ _
      exact Mid.mk ⟨by first | kernel_rfl | rfl, by rfl, EwD⟩
    · skip
      refine wp_region_held_drew (S := (fun w' => w'.cell? ⟨w.heap.size, 0, none⟩ = some (.slice a1 m1 c1) ∧ w'.cell? ⟨w.heap.size, 1, none⟩ = some (.slice b1 n1 d1) ∧ w'.cell? ⟨w.heap.size + 1, 0, none⟩ = some (.slice a2 m2 c2) ∧ w'.cell? ⟨w.heap.size + 1, 1, none⟩ = some (.slice b2 n2 d2) ∧ w'.cell? ⟨w.heap.size + 2, 0, none⟩ = some (.slice a3 m3 c3) ∧ w'.cell? ⟨w.heap.size + 2, 1, none⟩ = some (.slice b3 n3 d3))) (by kernel_rfl) (HS.out _ E3.out.drew) (fun hHeld => ?_)
      refine takeW (i := 0) (v := ?_) rfl (by kernel_rfl) (by kernel_rfl) (by kernel_rfl) (fun _ _ _ h => h) (Or.inl ⟨by rfl, ?_⟩) (by assumption) ?_
      rotate_left
      · (intro wz hSw; (try dsimp only at hSw); go_simp <;> with_reducible rfl)
      try simp only [Act.put, List.setIfInBounds_toArray, List.set_cons_zero, List.set_cons_succ]
      refine takeW (i := 1) (v := ?_) rfl (by kernel_rfl) (by kernel_rfl) (by kernel_rfl) (fun _ _ _ h => h) (Or.inl ⟨by rfl, ?_⟩) (by assumption) ?_
      rotate_left
      · (intro wz hSw; (try dsimp only at hSw); go_simp <;> with_reducible rfl)
      try simp only [Act.put, List.setIfInBounds_toArray, List.set_cons_zero, List.set_cons_succ]
      refine takeW (i := 2) (v := ?_) rfl (by kernel_rfl) (by kernel_rfl) (by kernel_rfl) (fun _ _ _ h => h) (Or.inl ⟨by rfl, ?_⟩) (by assumption) ?_
      rotate_left
      · (intro wz hSw; (try dsimp only at hSw); go_simp <;> with_reducible rfl)
      try simp only [Act.put, List.setIfInBounds_toArray, List.set_cons_zero, List.set_cons_succ]
      refine wpAnyH_ready (rs := [3]) (by kernel_rfl) (by simp) ?_
      refine consW rfl (fun K hK => ?_) AllReadyH.nil
      go_simp
      go_at_call 16
      refine (rcmp_calls (HA2.out _ E3.out.drew) (HB2.out _ E3.out.drew) (HA1.out _ E3.out.drew) (HB1.out _ E3.out.drew) (by omega) (by omega) (by omega) (by omega)).mono ?_
      rintro e wA ⟨rfl, hextwA⟩
      rw [HVN2.out, HVD2.out, HVN1.out, HVD1.out, HN2.out, HD2.out, HN1.out, HD1.out, HQN.out]
      have EwA : Ext X3 wA := Ext.trans E3.out.drew hextwA
      try go_wp2_with fail
      refine hK.out _ _ ?_ (fun hHeld => ?_)
      · (try dsimp only); exact HS.out _ EwA
      clear hK K
      try simp only [Act.put, List.setIfInBounds_toArray, List.set_cons_zero, List.set_cons_succ]
      refine takeW (i := 4) (v := ?_) rfl (by kernel_rfl) (by kernel_rfl) (by kernel_rfl) (fun _ _ _ h => h) (Or.inl ⟨by rfl, ?_⟩) (by assumption) ?_
      rotate_left
      · (intro wz hSw; (try dsimp only at hSw); go_simp <;> with_reducible rfl)
      try simp only [Act.put, List.setIfInBounds_toArray, List.set_cons_zero, List.set_cons_succ]
      refine takeW (i := 5) (v := ?_) rfl (by kernel_rfl) (by kernel_rfl) (by kernel_rfl) (fun _ _ _ h => h) (Or.inl ⟨by rfl, ?_⟩) (by assumption) ?_
      rotate_left
      · (intro wz hSw; (try dsimp only at hSw); go_simp <;> with_reducible rfl)
      try simp only [Act.put, List.setIfInBounds_toArray, List.set_cons_zero, List.set_cons_succ]
      refine takeW (i := 6) (v := ?_) rfl (by kernel_rfl) (by kernel_rfl) (by kernel_rfl) (fun _ _ _ h => h) (Or.inl ⟨by rfl, ?_⟩) (by assumption) ?_
      rotate_left
      · (intro wz hSw; (try dsimp only at hSw); go_simp <;> with_reducible rfl)
      try simp only [Act.put, List.setIfInBounds_toArray, List.set_cons_zero, List.set_cons_succ]
      refine takeW (i := 7) (v := ?_) rfl (by kernel_rfl) (by kernel_rfl) (by kernel_rfl) (fun _ _ _ h => h) (Or.inl ⟨by rfl, ?_⟩) (by assumption) ?_
      rotate_left
      · (intro wz hSw; (try dsimp only at hSw); go_simp <;> with_reducible rfl)
      try simp only [Act.put, List.setIfInBounds_toArray, List.set_cons_zero, List.set_cons_succ]
      refine takeW (i := 8) (v := ?_) rfl (by kernel_rfl) (by kernel_rfl) (by kernel_rfl) (fun _ _ _ h => h) (Or.inl ⟨by rfl, ?_⟩) (by assumption) ?_
      rotate_left
      · (intro wz hSw; (try dsimp only at hSw); go_simp <;> with_reducible rfl)
      try simp only [Act.put, List.setIfInBounds_toArray, List.set_cons_zero, List.set_cons_succ]
      refine takeW (i := 10) (v := ?_) rfl (by kernel_rfl) (by kernel_rfl) (by kernel_rfl) (fun _ _ _ h => h) (Or.inl ⟨by rfl, ?_⟩) (by assumption) ?_
      rotate_left
      · (intro wz hSw; (try dsimp only at hSw); go_simp <;> with_reducible rfl)
      try simp only [Act.put, List.setIfInBounds_toArray, List.set_cons_zero, List.set_cons_succ]
      refine takeW (i := 11) (v := ?_) rfl (by kernel_rfl) (by kernel_rfl) (by kernel_rfl) (fun _ _ _ h => h) (Or.inl ⟨by rfl, ?_⟩) (by assumption) ?_
      rotate_left
      · (intro wz hSw; (try dsimp only at hSw); go_simp <;> with_reducible rfl)
      try simp only [Act.put, List.setIfInBounds_toArray, List.set_cons_zero, List.set_cons_succ]
      refine takeW (i := 14) (v := ?_) rfl (by kernel_rfl) (by kernel_rfl) (by kernel_rfl) (fun _ _ _ h => h) (Or.inl ⟨by rfl, ?_⟩) (by assumption) ?_
      rotate_left
      · (intro wz hSw; (try dsimp only at hSw); go_simp <;> with_reducible rfl)
      try simp only [Act.put, List.setIfInBounds_toArray, List.set_cons_zero, List.set_cons_succ]
      refine wpAnyH_ready (rs := [9]) (by kernel_rfl) (by simp) ?_
      refine consW rfl (fun K hK => ?_) AllReadyH.nil
      go_simp
      go_at_call 19
      refine (radd_calls (HA1.out _ EwA) (HB1.out _ EwA) (HA3.out _ EwA) (HB3.out _ EwA) (by omega) (by omega) (by omega) (by omega) (HTZ.out.old EwA)).mono ?_
      rintro e wB ⟨awB, lwB, cwB, bwB, mwB, dwB, rfl, oawB, obwB, hextwB, hlwB, hmwB⟩
      rw [HVN1.out, HVD1.out, HVN3.out, HVD3.out, HN1.out, HD1.out, HN3.out, HD3.out] at oawB obwB
      have EwB : Ext X3 wB := Ext.trans EwA hextwB
      try go_wp2_with fail
      refine hK.out _ _ ?_ (fun hHeld => ?_)
      · (try dsimp only); exact HS.out _ EwB
      clear hK K
      try simp only [Act.put, List.setIfInBounds_toArray, List.set_cons_zero, List.set_cons_succ]
      refine wpAnyH_ready (rs := [12]) (by kernel_rfl) (by simp) ?_
      refine consW rfl (fun K hK => ?_) AllReadyH.nil
      go_simp
      go_at_call 19
      refine (radd_calls (HA2.out _ EwB) (HB2.out _ EwB) (HA3.out _ EwB) (HB3.out _ EwB) (by omega) (by omega) (by omega) (by omega) (HTZ.out.old EwB)).mono ?_
      rintro e wC ⟨awC, lwC, cwC, bwC, mwC, dwC, rfl, oawC, obwC, hextwC, hlwC, hmwC⟩
      rw [HVN2.out, HVD2.out, HVN3.out, HVD3.out, HN2.out, HD2.out, HN3.out, HD3.out] at oawC obwC
      have EwC : Ext X3 wC := Ext.trans EwB hextwC
      try go_wp2_with fail
      refine hK.out _ _ ?_ (fun hHeld => ?_)
      · (try dsimp only); exact HS.out _ EwC
      clear hK K
      try simp only [Act.put, List.setIfInBounds_toArray, List.set_cons_zero, List.set_cons_succ]
      refine wpAnyH_ready (rs := [13]) (by kernel_rfl) (by simp) ?_
      refine consW rfl (fun K hK => ?_) AllReadyH.nil
      go_simp
      go_at_call 16
      refine (rcmp_calls (oawB.sl.old hextwC) (obwB.sl.old hextwC) oawC.sl obwC.sl (by omega) (by omega) (by omega) (by omega)).mono ?_
      rintro e wD ⟨rfl, hextwD⟩
      rw [val_lim, val_lim, val_lim, val_lim, HQA.out]
      have EwD : Ext X3 wD := Ext.trans EwC hextwD
      try go_wp2_with fail
      refine hK.out _ _ ?_ (fun hHeld => ?_)
      · (try dsimp only); exact HS.out _ EwD
      clear hK K
      try simp only [Act.put, List.setIfInBounds_toArray, List.set_cons_zero, List.set_cons_succ]
      refine takeW (i := 15) (v := ?_) rfl (by kernel_rfl) (by kernel_rfl) (by kernel_rfl) (fun _ _ _ h => h) (Or.inl ⟨by rfl, ?_⟩) (by assumption) ?_
      rotate_left
      · (intro wz hSw; (try dsimp only at hSw); go_simp <;> with_reducible rfl)
      try simp only [Act.put, List.setIfInBounds_toArray, List.set_cons_zero, List.set_cons_succ]
      refine takeW (i := 16) (v := ?_) rfl (by kernel_rfl) (by kernel_rfl) (by kernel_rfl) (fun _ _ _ h => h) (Or.inl ⟨by rfl, ?_⟩) (by assumption) ?_
      rotate_left
      · (intro wz hSw; (try dsimp only at hSw); go_simp <;> with_reducible rfl)
      try simp only [Act.put, List.setIfInBounds_toArray, List.set_cons_zero, List.set_cons_succ]
      refine takeW (i := 17) (v := ?_) rfl (by kernel_rfl) (by kernel_rfl) (by kernel_rfl) (fun _ _ _ h => h) (Or.inl ⟨by rfl, ?_⟩) (by assumption) ?_
      rotate_left
      · (intro wz hSw; (try dsimp only at hSw); go_simp <;> with_reducible rfl)
      try simp only [Act.put, List.setIfInBounds_toArray, List.set_cons_zero, List.set_cons_succ]
      refine takeW (i := 18) (v := ?_) rfl (by kernel_rfl) (by kernel_rfl) (by kernel_rfl) (fun _ _ _ h => h) (Or.inl ⟨by rfl, ?_⟩) (by assumption) ?_
      rotate_left
      · (intro wz hSw; (try dsimp only at hSw); go_simp <;> with_reducible rfl)
      try simp only [Act.put, List.setIfInBounds_toArray, List.set_cons_zero, List.set_cons_succ]
      refine takeW (i := 19) (v := ?_) rfl (by kernel_rfl) (by kernel_rfl) (by kernel_rfl) (fun _ _ _ h => h) (Or.inl ⟨by rfl, ?_⟩) (by assumption) ?_
      rotate_left
      · (intro wz hSw; (try dsimp only at hSw); go_simp <;> with_reducible rfl)
      try simp only [Act.put, List.setIfInBounds_toArray, List.set_cons_zero, List.set_cons_succ]
      refine takeW (i := 20) (v := ?_) rfl (by kernel_rfl) (by kernel_rfl) (by kernel_rfl) (fun _ _ _ h => h) (Or.inl ⟨by rfl, ?_⟩) (by assumption) ?_
      rotate_left
      · (intro wz hSw; (try dsimp only at hSw); go_simp <;> with_reducible rfl)
      try simp only [Act.put, List.setIfInBounds_toArray, List.set_cons_zero, List.set_cons_succ]
      refine takeW (i := 21) (v := ?_) rfl (by kernel_rfl) (by kernel_rfl) (by kernel_rfl) (fun _ _ _ h => h) (Or.inl ⟨by rfl, ?_⟩) (by assumption) ?_
      rotate_left
      · (intro wz hSw; (try dsimp only at hSw); go_simp <;> with_reducible rfl)
      try simp only [Act.put, List.setIfInBounds_toArray, List.set_cons_zero, List.set_cons_succ]
      refine takeW (i := 22) (v := ?_) rfl (by kernel_rfl) (by kernel_rfl) (by kernel_rfl) (fun _ _ _ h => h) (Or.inl ⟨by rfl, ?_⟩) (by assumption) ?_
      rotate_left
      · (intro wz hSw; (try dsimp only at hSw); go_simp <;> with_reducible rfl)
      try simp only [Act.put, List.setIfInBounds_toArray, List.set_cons_zero, List.set_cons_succ]
      refine wpAnyH_ready (rs := [23]) (by kernel_rfl) (by simp) ?_
      refine consW rfl (fun K hK => ?_) AllReadyH.nil
      go_simp
      go_at_call 16
      refine (rcmp_calls (HA2.out _ EwD) (HB2.out _ EwD) (HA3.out _ EwD) (HB3.out _ EwD) (by omega) (by omega) (by omega) (by omega)).mono ?_
      rintro e wE ⟨rfl, hextwE⟩
      rw [HVN2.out, HVD2.out, HVN3.out, HVD3.out, HN2.out, HD2.out, HN3.out, HD3.out, HQB.out]
      have EwE : Ext X3 wE := Ext.trans EwD hextwE
      try go_wp2_with fail
      refine hK.out _ _ ?_ (fun hHeld => ?_)
      · (try dsimp only); exact HS.out _ EwE
      clear hK K
      try simp only [Act.put, List.setIfInBounds_toArray, List.set_cons_zero, List.set_cons_succ]
      refine takeW (i := 24) (v := ?_) rfl (by kernel_rfl) (by kernel_rfl) (by kernel_rfl) (fun _ _ _ h => h) (Or.inl ⟨by rfl, ?_⟩) (by assumption) ?_
      rotate_left
      · (intro wz hSw; (try dsimp only at hSw); go_simp <;> with_reducible rfl)
      try simp only [Act.put, List.setIfInBounds_toArray, List.set_cons_zero, List.set_cons_succ]
      refine takeW (i := 25) (v := ?_) rfl (by kernel_rfl) (by kernel_rfl) (by kernel_rfl) (fun _ _ _ h => h) (Or.inl ⟨by rfl, ?_⟩) (by assumption) ?_
      rotate_left
      · (intro wz hSw; (try dsimp only at hSw); go_simp <;> with_reducible rfl)
      try simp only [Act.put, List.setIfInBounds_toArray, List.set_cons_zero, List.set_cons_succ]
      refine takeW (i := 26) (v := ?_) rfl (by kernel_rfl) (by kernel_rfl) (by kernel_rfl) (fun _ _ _ h => h) (Or.inl ⟨by rfl, ?_⟩) (by assumption) ?_
      rotate_left
      · (intro wz hSw; (try dsimp only at hSw); go_simp <;> with_reducible rfl)
      try simp only [Act.put, List.setIfInBounds_toArray, List.set_cons_zero, List.set_cons_succ]
      refine skipW (i := 27) rfl (by kernel_rfl) (by kernel_rfl) (by kernel_rfl) (fun _ _ _ h => h) (by rfl) (by assumption) ?_
      try simp only [Act.put, List.setIfInBounds_toArray, List.set_cons_zero, List.set_cons_succ]
      refine skipW (i := 28) rfl (by kernel_rfl) (by kernel_rfl) (by kernel_rfl) (fun _ _ _ h => h) (by rfl) (by assumption) ?_
      try simp only [Act.put, List.setIfInBounds_toArray, List.set_cons_zero, List.set_cons_succ]
      refine skipW (i := 29) rfl (by kernel_rfl) (by kernel_rfl) (by kernel_rfl) (fun _ _ _ h => h) (by rfl) (by assumption) ?_
      try simp only [Act.put, List.setIfInBounds_toArray, List.set_cons_zero, List.set_cons_succ]
      refine skipW (i := 30) rfl (by kernel_rfl) (by kernel_rfl) (by kernel_rfl) (fun _ _ _ h => h) (by rfl) (by assumption) ?_
      try simp only [Act.put, List.setIfInBounds_toArray, List.set_cons_zero, List.set_cons_succ]
      refine takeW (i := 31) (v := ?_) rfl (by kernel_rfl) (by kernel_rfl) (by kernel_rfl) (fun _ _ _ h => h) (Or.inl ⟨by rfl, ?_⟩) (by assumption) ?_
      rotate_left
      · (intro wz hSw; (try dsimp only at hSw); go_simp <;> with_reducible rfl)
      try simp only [Act.put, List.setIfInBounds_toArray, List.set_cons_zero, List.set_cons_succ]
      refine takeW (i := 32) (v := ?_) rfl (by kernel_rfl) (by kernel_rfl) (by kernel_rfl) (fun _ _ _ h => h) (Or.inl ⟨by rfl, ?_⟩) (by assumption) ?_
      rotate_left
      · (intro wz hSw; (try dsimp only at hSw); go_simp <;> with_reducible rfl)
      try simp only [Act.put, List.setIfInBounds_toArray, List.set_cons_zero, List.set_cons_succ]
      refine wpAnyH_done (by kernel_rfl) ?_ _
      exact Mid.mk ⟨by first | kernel_rfl | rfl, by rfl, EwE⟩
    · skip
      refine wp_region_held_drew (S := (fun w' => w'.cell? ⟨w.heap.size, 0, none⟩ = some (.slice a1 m1 c1) ∧ w'.cell? ⟨w.heap.size, 1, none⟩ = some (.slice b1 n1 d1) ∧ w'.cell? ⟨w.heap.size + 1, 0, none⟩ = some (.slice a2 m2 c2) ∧ w'.cell? ⟨w.heap.size + 1, 1, none⟩ = some (.slice b2 n2 d2) ∧ w'.cell? ⟨w.heap.size + 2, 0, none⟩ = some (.slice a3 m3 c3) ∧ w'.cell? ⟨w.heap.size + 2, 1, none⟩ = some (.slice b3 n3 d3))) (by kernel_rfl) (HS.out _ E3.out.drew) (fun hHeld => ?_)
      refine takeW (i := 0) (v := ?_) rfl (by kernel_rfl) (by kernel_rfl) (by kernel_rfl) (fun _ _ _ h => h) (Or.inl ⟨by rfl, ?_⟩) (by assumption) ?_
      rotate_left
      · (intro wz hSw; (try dsimp only at hSw); go_simp <;> with_reducible rfl)
      try simp only [Act.put, List.setIfInBounds_toArray, List.set_cons_zero, List.set_cons_succ]
      refine takeW (i := 1) (v := ?_) rfl (by kernel_rfl) (by kernel_rfl) (by kernel_rfl) (fun _ _ _ h => h) (Or.inl ⟨by rfl, ?_⟩) (by assumption) ?_
      rotate_left
      · (intro wz hSw; (try dsimp only at hSw); go_simp <;> with_reducible rfl)
      try simp only [Act.put, List.setIfInBounds_toArray, List.set_cons_zero, List.set_cons_succ]
      refine takeW (i := 2) (v := ?_) rfl (by kernel_rfl) (by kernel_rfl) (by kernel_rfl) (fun _ _ _ h => h) (Or.inl ⟨by rfl, ?_⟩) (by assumption) ?_
      rotate_left
      · (intro wz hSw; (try dsimp only at hSw); go_simp <;> with_reducible rfl)
      try simp only [Act.put, List.setIfInBounds_toArray, List.set_cons_zero, List.set_cons_succ]
      refine wpAnyH_ready (rs := [3]) (by kernel_rfl) (by simp) ?_
      refine consW rfl (fun K hK => ?_) AllReadyH.nil
      go_simp
      go_at_call 16
      refine (rcmp_calls (HA2.out _ E3.out.drew) (HB2.out _ E3.out.drew) (HA1.out _ E3.out.drew) (HB1.out _ E3.out.drew) (by omega) (by omega) (by omega) (by omega)).mono ?_
      rintro e wA ⟨rfl, hextwA⟩
      rw [HVN2.out, HVD2.out, HVN1.out, HVD1.out, HN2.out, HD2.out, HN1.out, HD1.out, HQN.out]
      have EwA : Ext X3 wA := Ext.trans E3.out.drew hextwA
      try go_wp2_with fail
      refine hK.out _ _ ?_ (fun hHeld => ?_)
      · (try dsimp only); exact HS.out _ EwA
      clear hK K
      try simp only [Act.put, List.setIfInBounds_toArray, List.set_cons_zero, List.set_cons_succ]
      refine takeW (i := 4) (v := ?_) rfl (by kernel_rfl) (by kernel_rfl) (by kernel_rfl) (fun _ _ _ h => h) (Or.inl ⟨by rfl, ?_⟩) (by assumption) ?_
      rotate_left
      · (intro wz hSw; (try dsimp only at hSw); go_simp <;> with_reducible rfl)
      try simp only [Act.put, List.setIfInBounds_toArray, List.set_cons_zero, List.set_cons_succ]
      refine takeW (i := 5) (v := ?_) rfl (by kernel_rfl) (by kernel_rfl) (by kernel_rfl) (fun _ _ _ h => h) (Or.inl ⟨by rfl, ?_⟩) (by assumption) ?_
      rotate_left
      · (intro wz hSw; (try dsimp only at hSw); go_simp <;> with_reducible rfl)
      try simp only [Act.put, List.setIfInBounds_toArray, List.set_cons_zero, List.set_cons_succ]
      refine takeW (i := 6) (v := ?_) rfl (by kernel_rfl) (by kernel_rfl) (by kernel_rfl) (fun _ _ _ h => h) (Or.inl ⟨by rfl, ?_⟩) (by assumption) ?_
      rotate_left
      · (intro wz hSw; (try dsimp only at hSw); go_simp <;> with_reducible rfl)
      try simp only [Act.put, List.setIfInBounds_toArray, List.set_cons_zero, List.set_cons_succ]
      refine takeW (i := 7) (v := ?_) rfl (by kernel_rfl) (by kernel_rfl) (by kernel_rfl) (fun _ _ _ h => h) (Or.inl ⟨by rfl, ?_⟩) (by assumption) ?_
      rotate_left
      · (intro wz hSw; (try dsimp only at hSw); go_simp <;> with_reducible rfl)
      try simp only [Act.put, List.setIfInBounds_toArray, List.set_cons_zero, List.set_cons_succ]
      refine takeW (i := 8) (v := ?_) rfl (by kernel_rfl) (by kernel_rfl) (by kernel_rfl) (fun _ _ _ h => h) (Or.inl ⟨by rfl, ?_⟩) (by assumption) ?_
      rotate_left
      · (intro wz hSw; (try dsimp only at hSw); go_simp <;> with_reducible rfl)
      try simp only [Act.put, List.setIfInBounds_toArray, List.set_cons_zero, List.set_cons_succ]
      refine takeW (i := 10) (v := ?_) rfl (by kernel_rfl) (by kernel_rfl) (by kernel_rfl) (fun _ _ _ h => h) (Or.inl ⟨by rfl, ?_⟩) (by assumption) ?_
      rotate_left
      · (intro wz hSw; (try dsimp only at hSw); go_simp <;> with_reducible rfl)
      try simp only [Act.put, List.setIfInBounds_toArray, List.set_cons_zero, List.set_cons_succ]
      refine takeW (i := 11) (v := ?_) rfl (by kernel_rfl) (by kernel_rfl) (by kernel_rfl) (fun _ _ _ h => h) (Or.inl ⟨by rfl, ?_⟩) (by assumption) ?_
      rotate_left
      · (intro wz hSw; (try dsimp only at hSw); go_simp <;> with_reducible rfl)
      try simp only [Act.put, List.setIfInBounds_toArray, List.set_cons_zero, List.set_cons_succ]
      refine takeW (i := 14) (v := ?_) rfl (by kernel_rfl) (by kernel_rfl) (by kernel_rfl) (fun _ _ _ h => h) (Or.inl ⟨by rfl, ?_⟩) (by assumption) ?_
      rotate_left
      · (intro wz hSw; (try dsimp only at hSw); go_simp <;> with_reducible rfl)
      try simp only [Act.put, List.setIfInBounds_toArray, List.set_cons_zero, List.set_cons_succ]
      refine wpAnyH_ready (rs := [9]) (by kernel_rfl) (by simp) ?_
      refine consW rfl (fun K hK => ?_) AllReadyH.nil
      go_simp
      go_at_call 19
      refine (radd_calls (HA1.out _ EwA) (HB1.out _ EwA) (HA3.out _ EwA) (HB3.out _ EwA) (by omega) (by omega) (by omega) (by omega) (HTZ.out.old EwA)).mono ?_
      rintro e wB ⟨awB, lwB, cwB, bwB, mwB, dwB, rfl, oawB, obwB, hextwB, hlwB, hmwB⟩
      rw [HVN1.out, HVD1.out, HVN3.out, HVD3.out, HN1.out, HD1.out, HN3.out, HD3.out] at oawB obwB
      have EwB : Ext X3 wB := Ext.trans EwA hextwB
      try go_wp2_with fail
      refine hK.out _ _ ?_ (fun hHeld => ?_)
      · (try dsimp only); exact HS.out _ EwB
      clear hK K
      try simp only [Act.put, List.setIfInBounds_toArray, List.set_cons_zero, List.set_cons_succ]
      refine wpAnyH_ready (rs := [12]) (by kernel_rfl) (by simp) ?_
      refine consW rfl (fun K hK => ?_) AllReadyH.nil
      go_simp
      go_at_call 19
      refine (radd_calls (HA2.out _ EwB) (HB2.out _ EwB) (HA3.out _ EwB) (HB3.out _ EwB) (by omega) (by omega) (by omega) (by omega) (HTZ.out.old EwB)).mono ?_
      rintro e wC ⟨awC, lwC, cwC, bwC, mwC, dwC, rfl, oawC, obwC, hextwC, hlwC, hmwC⟩
      rw [HVN2.out, HVD2.out, HVN3.out, HVD3.out, HN2.out, HD2.out, HN3.out, HD3.out] at oawC obwC
      have EwC : Ext X3 wC := Ext.trans EwB hextwC
      try go_wp2_with fail
      refine hK.out _ _ ?_ (fun hHeld => ?_)
      · (try dsimp only); exact HS.out _ EwC
      clear hK K
      try simp only [Act.put, List.setIfInBounds_toArray, List.set_cons_zero, List.set_cons_succ]
      refine wpAnyH_ready (rs := [13]) (by kernel_rfl) (by simp) ?_
      refine consW rfl (fun K hK => ?_) AllReadyH.nil
      go_simp
      go_at_call 16
      refine (rcmp_calls (oawB.sl.old hextwC) (obwB.sl.old hextwC) oawC.sl obwC.sl (by omega) (by omega) (by omega) (by omega)).mono ?_
      rintro e wD ⟨rfl, hextwD⟩
      rw [val_lim, val_lim, val_lim, val_lim, HQA.out]
      have EwD : Ext X3 wD := Ext.trans EwC hextwD
      try go_wp2_with fail
      refine hK.out _ _ ?_ (fun hHeld => ?_)
      · (try dsimp only); exact HS.out _ EwD
      clear hK K
      try simp only [Act.put, List.setIfInBounds_toArray, List.set_cons_zero, List.set_cons_succ]
      refine takeW (i := 15) (v := ?_) rfl (by kernel_rfl) (by kernel_rfl) (by kernel_rfl) (fun _ _ _ h => h) (Or.inl ⟨by rfl, ?_⟩) (by assumption) ?_
      rotate_left
      · (intro wz hSw; (try dsimp only at hSw); go_simp <;> with_reducible rfl)
      try simp only [Act.put, List.setIfInBounds_toArray, List.set_cons_zero, List.set_cons_succ]
      refine takeW (i := 16) (v := ?_) rfl (by kernel_rfl) (by kernel_rfl) (by kernel_rfl) (fun _ _ _ h => h) (Or.inl ⟨by rfl, ?_⟩) (by assumption) ?_
      rotate_left
      · (intro wz hSw; (try dsimp only at hSw); go_simp <;> with_reducible rfl)
      try simp only [Act.put, List.setIfInBounds_toArray, List.set_cons_zero, List.set_cons_succ]
      refine takeW (i := 17) (v := ?_) rfl (by kernel_rfl) (by kernel_rfl) (by kernel_rfl) (fun _ _ _ h => h) (Or.inl ⟨by rfl, ?_⟩) (by assumption) ?_
      rotate_left
      · (intro wz hSw; (try dsimp only at hSw); go_simp <;> with_reducible rfl)
      try simp only [Act.put, List.setIfInBounds_toArray, List.set_cons_zero, List.set_cons_succ]
      refine takeW (i := 18) (v := ?_) rfl (by kernel_rfl) (by kernel_rfl) (by kernel_rfl) (fun _ _ _ h => h) (Or.inl ⟨by rfl, ?_⟩) (by assumption) ?_
      rotate_left
      · (intro wz hSw; (try dsimp only at hSw); go_simp <;> with_reducible rfl)
      try simp only [Act.put, List.setIfInBounds_toArray, List.set_cons_zero, List.set_cons_succ]
      refine takeW (i := 19) (v := ?_) rfl (by kernel_rfl) (by kernel_rfl) (by kernel_rfl) (fun _ _ _ h => h) (Or.inl ⟨by rfl, ?_⟩) (by assumption) ?_
      rotate_left
      · (intro wz hSw; (try dsimp only at hSw); go_simp <;> with_reducible rfl)
      try simp only [Act.put, List.setIfInBounds_toArray, List.set_cons_zero, List.set_cons_succ]
      refine takeW (i := 20) (v := ?_) rfl (by kernel_rfl) (by kernel_rfl) (by kernel_rfl) (fun _ _ _ h => h) (Or.inl ⟨by rfl, ?_⟩) (by assumption) ?_
      rotate_left
      · (intro wz hSw; (try dsimp only at hSw); go_simp <;> with_reducible rfl)
      try simp only [Act.put, List.setIfInBounds_toArray, List.set_cons_zero, List.set_cons_succ]
      refine takeW (i := 21) (v := ?_) rfl (by kernel_rfl) (by kernel_rfl) (by kernel_rfl) (fun _ _ _ h => h) (Or.inl ⟨by rfl, ?_⟩) (by assumption) ?_
      rotate_left
      · (intro wz hSw; (try dsimp only at hSw); go_simp <;> with_reducible rfl)
      try simp only [Act.put, List.setIfInBounds_toArray, List.set_cons_zero, List.set_cons_succ]
      refine takeW (i := 22) (v := ?_) rfl (by kernel_rfl) (by kernel_rfl) (by kernel_rfl) (fun _ _ _ h => h) (Or.inl ⟨by rfl, ?_⟩) (by assumption) ?_
      rotate_left
      · (intro wz hSw; (try dsimp only at hSw); go_simp <;> with_reducible rfl)
      try simp only [Act.put, List.setIfInBounds_toArray, List.set_cons_zero, List.set_cons_succ]
      refine wpAnyH_ready (rs := [23]) (by kernel_rfl) (by simp) ?_
      refine consW rfl (fun K hK => ?_) AllReadyH.nil
      go_simp
      go_at_call 16
      refine (rcmp_calls (HA2.out _ EwD) (HB2.out _ EwD) (HA3.out _ EwD) (HB3.out _ EwD) (by omega) (by omega) (by omega) (by omega)).mono ?_
      rintro e wE ⟨rfl, hextwE⟩
      rw [HVN2.out, HVD2.out, HVN3.out, HVD3.out, HN2.out, HD2.out, HN3.out, HD3.out, HQB.out]
      have EwE : Ext X3 wE := Ext.trans EwD hextwE
      try go_wp2_with fail
      refine hK.out _ _ ?_ (fun hHeld => ?_)
      · (try dsimp only); exact HS.out _ EwE
      clear hK K
      try simp only [Act.put, List.setIfInBounds_toArray, List.set_cons_zero, List.set_cons_succ]
      refine takeW (i := 24) (v := ?_) rfl (by kernel_rfl) (by kernel_rfl) (by kernel_rfl) (fun _ _ _ h => h) (Or.inl ⟨by rfl, ?_⟩) (by assumption) ?_
      rotate_left
      · (intro wz hSw; (try dsimp only at hSw); go_simp <;> with_reducible rfl)
      try simp only [Act.put, List.setIfInBounds_toArray, List.set_cons_zero, List.set_cons_succ]
      refine takeW (i := 25) (v := ?_) rfl (by kernel_rfl) (by kernel_rfl) (by kernel_rfl) (fun _ _ _ h => h) (Or.inl ⟨by rfl, ?_⟩) (by assumption) ?_
      rotate_left
      · (intro wz hSw; (try dsimp only at hSw); go_simp <;> with_reducible rfl)
      try simp only [Act.put, List.setIfInBounds_toArray, List.set_cons_zero, List.set_cons_succ]
      refine takeW (i := 26) (v := ?_) rfl (by kernel_rfl) (by kernel_rfl) (by kernel_rfl) (fun _ _ _ h => h) (Or.inl ⟨by rfl, ?_⟩) (by assumption) ?_
      rotate_left
      · (intro wz hSw; (try dsimp only at hSw); go_simp <;> with_reducible rfl)
      try simp only [Act.put, List.setIfInBounds_toArray, List.set_cons_zero, List.set_cons_succ]
      refine takeW (i := 27) (v := ?_) rfl (by kernel_rfl) (by kernel_rfl) (by kernel_rfl) (fun _ _ _ h => h) (Or.inl ⟨by rfl, ?_⟩) (by assumption) ?_
      rotate_left
      · (intro wz hSw; (try dsimp only at hSw); go_simp <;> with_reducible rfl)
      try simp only [Act.put, List.setIfInBounds_toArray, List.set_cons_zero, List.set_cons_succ]
      refine takeW (i := 28) (v := ?_) rfl (by kernel_rfl) (by kernel_rfl) (by kernel_rfl) (fun _ _ _ h => h) (Or.inl ⟨by rfl, ?_⟩) (by assumption) ?_
      rotate_left
      · (intro wz hSw; (try dsimp only at hSw); go_simp <;> with_reducible rfl)
      try simp only [Act.put, List.setIfInBounds_toArray, List.set_cons_zero, List.set_cons_succ]
      refine wpAnyH_ready (rs := [29]) (by kernel_rfl) (by simp) ?_
      refine consW rfl (fun K hK => ?_) AllReadyH.nil
      go_simp
      go_at_call 16
      refine (rcmp_calls (HA1.out _ EwE) (HB1.out _ EwE) (HA3.out _ EwE) (HB3.out _ EwE) (by omega) (by omega) (by omega) (by omega)).mono ?_
      rintro e wF ⟨rfl, hextwF⟩
      rw [HVN1.out, HVD1.out, HVN3.out, HVD3.out, HN1.out, HD1.out, HN3.out, HD3.out, HQC.out]
      have EwF : Ext X3 wF := Ext.trans EwE hextwF
      try go_wp2_with fail
      refine hK.out _ _ ?_ (fun hHeld => ?_)
      · (try dsimp only); exact HS.out _ EwF
      clear hK K
      try simp only [Act.put, List.setIfInBounds_toArray, List.set_cons_zero, List.set_cons_succ]
      refine takeW (i := 30) (v := ?_) rfl (by kernel_rfl) (by kernel_rfl) (by kernel_rfl) (fun _ _ _ h => h) (Or.inl ⟨by rfl, ?_⟩) (by assumption) ?_
      rotate_left
      · (intro wz hSw; (try dsimp only at hSw); go_simp <;> with_reducible rfl)
      try simp only [Act.put, List.setIfInBounds_toArray, List.set_cons_zero, List.set_cons_succ]
      refine takeW (i := 31) (v := ?_) rfl (by kernel_rfl) (by kernel_rfl) (by kernel_rfl) (fun _ _ _ h => h) (Or.inl ⟨by rfl, ?_⟩) (by assumption) ?_
      rotate_left
      · (intro wz hSw; (try dsimp only at hSw); go_simp <;> with_reducible rfl)
      try simp only [Act.put, List.setIfInBounds_toArray, List.set_cons_zero, List.set_cons_succ]
      refine takeW (i := 32) (v := ?_) rfl (by kernel_rfl) (by kernel_rfl) (by kernel_rfl) (fun _ _ _ h => h) (Or.inl ⟨by rfl, ?_⟩) (by assumption) ?_
      rotate_left
      · (intro wz hSw; (try dsimp only at hSw); go_simp <;> with_reducible rfl)
      try simp only [Act.put, List.setIfInBounds_toArray, List.set_cons_zero, List.set_cons_succ]
      refine wpAnyH_done (by kernel_rfl) ?_ _
      exact Mid.mk ⟨by first | kernel_rfl | rfl, by rfl, EwF⟩
  rintro A' w4 ⟨hA', hp, hE4⟩
  simp only [putsFrom, List.foldl_cons, List.foldl_nil, hp] at hA'
  have E4 := Lib.hid hE4
  clear hp hE4
  generalize A'.tmps.getD 20 undef = v20 at hA'
  generalize A'.tmps.getD 21 undef = v21 at hA'
  generalize A'.tmps.getD 22 undef = v22 at hA'
  generalize A'.tmps.getD 23 undef = v23 at hA'
  generalize A'.tmps.getD 24 undef = v24 at hA'
  generalize A'.tmps.getD 25 undef = v25 at hA'
  generalize A'.tmps.getD 26 undef = v26 at hA'
  generalize A'.tmps.getD 27 undef = v27 at hA'
  generalize A'.tmps.getD 28 undef = v28 at hA'
  generalize A'.tmps.getD 29 undef = v29 at hA'
  generalize A'.tmps.getD 30 undef = v30 at hA'
  generalize A'.tmps.getD 31 undef = v31 at hA'
  generalize A'.tmps.getD 32 undef = v32 at hA'
  generalize A'.tmps.getD 33 undef = v33 at hA'
  generalize A'.tmps.getD 34 undef = v34 at hA'
  generalize A'.tmps.getD 35 undef = v35 at hA'
  generalize A'.tmps.getD 36 undef = v36 at hA'
  generalize A'.tmps.getD 37 undef = v37 at hA'
  generalize A'.tmps.getD 38 undef = v38 at hA'
  generalize A'.tmps.getD 39 undef = v39 at hA'
  generalize A'.tmps.getD 40 undef = v40 at hA'
  generalize A'.tmps.getD 41 undef = v41 at hA'
  generalize A'.tmps.getD 42 undef = v42 at hA'
  generalize A'.tmps.getD 43 undef = v43 at hA'
  generalize A'.tmps.getD 44 undef = v44 at hA'
  generalize A'.tmps.getD 45 undef = v45 at hA'
  generalize A'.tmps.getD 46 undef = v46 at hA'
  generalize A'.tmps.getD 47 undef = v47 at hA'
  generalize A'.tmps.getD 48 undef = v48 at hA'
  generalize A'.tmps.getD 49 undef = v49 at hA'
  generalize A'.tmps.getD 50 undef = v50 at hA'
  generalize A'.tmps.getD 51 undef = v51 at hA'
  subst hA'
  simp only [Act.put, List.setIfInBounds_toArray, List.set_cons_zero, List.set_cons_succ]
  obtain ⟨F, hF⟩ : ∃ F, N1 / D1 = F := ⟨_, rfl⟩
  have hF1 : cmpN (F * D1) (N1 * 1) ≤ 0 := by rw [cmpN_le, ← hF, Nat.mul_one]; exact Nat.div_mul_le_self _ _
  have hF2 : cmpN (N1 * 1) ((F + 1) * D1) < 0 := by
    have : N1 * 1 < (F + 1) * D1 := by rw [Nat.mul_one, ← hF, Nat.mul_comm]; exact Nat.lt_mul_div_succ _ HDP1.out
    rw [cmpN_lt this]; decide
  obtain ⟨qf, hqf⟩ : ∃ q, cmpN (F * D1) (N1 * 1) = q := ⟨_, rfl⟩
  obtain ⟨qg, hqg⟩ : ∃ q, cmpN (N1 * 1) ((F + 1) * D1) = q := ⟨_, rfl⟩
  rw [hqf] at hF1; rw [hqg] at hF2
  have z1 : decide (qf ≤ (0 : Int)) = true := decide_eq_true hF1
  have z2 : decide (qg < (0 : Int)) = true := decide_eq_true hF2
  obtain ⟨qz, hqz⟩ : ∃ q, cmpN (N1 * 1) (0 * D1) = q := ⟨_, rfl⟩
  obtain ⟨bz, hbz⟩ : ∃ b, decide (N1 = 0) = b := ⟨_, rfl⟩
  have z3 : (qz == (0 : Int)) = bz := by
    rw [← hqz, ← hbz, Nat.mul_one, Nat.zero_mul]
    rcases Nat.eq_zero_or_pos N1 with h | h
    · rw [h]; rfl
    · rw [cmpN_gt h, decide_eq_false (by omega)]; rfl
  have HF := Lib.hid hF; have HQF := Lib.hid hqf; have HQG := Lib.hid hqg; have HQZ := Lib.hid hqz; have HBZ := Lib.hid hbz
  clear hF hqf hqg hqz hbz
  obtain ⟨j1, j2, j3, j4, j5, j6⟩ := HS.out w4 E4.out
  go_wp2_with fail
  refine (rfloor_calls (HA1.out _ E4.out) (HB1.out _ E4.out) (by omega) (by omega)).mono ?_
  rintro e w5 ⟨of, lf, cf, rfl, hownf, hext5, hlf⟩
  rw [HVN1.out, HVD1.out, HN1.out, HD1.out, HF.out] at hownf
  have E5 := Lib.hid (E4.out.trans hext5); have HOF := Lib.hid hownf.sl
  clear hownf hext5 j1 j2 j3 j4 j5 j6
  go_wp2_with fail
  go_region_held3 (fun w' => w'.cell? ⟨w.heap.size, 0, none⟩ = some (.slice a1 m1 c1) ∧ w'.cell? ⟨w.heap.size, 1, none⟩ = some (.slice b1 n1 d1) ∧ w'.cell? ⟨w.heap.size + 1, 0, none⟩ = some (.slice a2 m2 c2) ∧ w'.cell? ⟨w.heap.size + 1, 1, none⟩ = some (.slice b2 n2 d2) ∧ w'.cell? ⟨w.heap.size + 2, 0, none⟩ = some (.slice a3 m3 c3) ∧ w'.cell? ⟨w.heap.size + 2, 1, none⟩ = some (.slice b3 n3 d3))
    (first | exact HS.out _ E5.out.drew | exact HS.out _ (by assumption))
    (first
      | (go_at_call_of 27 of; refine (rofnat_calls (HOF.out.old (Ext.refl _).drew) (by omega)).mono ?_; rintro e wA ⟨aA, lA, cA, bA, mA, dA, rfl, oaA, obA, hextA, hlA, hmA⟩; rw [val_lim] at oaA; have EA : Ext X3 wA := E5.out.drew.trans hextA; have EA5 : Ext w5 wA := (Ext.refl w5).drew.trans hextA)
      | (go_at_call_of 16 aA; refine (rcmp_calls oaA.sl obA.sl (HA1.out _ EA) (HB1.out _ EA) (by omega) (by omega) (by omega) (by omega)).mono ?_; rintro e wB ⟨rfl, hextB⟩; rw [val_lim, val_lim, HVN1.out, HVD1.out, HN1.out, HD1.out, show dN F 1 = F from rfl, show dD 1 = 1 from rfl, HQF.out]; have EB : Ext X3 wB := EA.trans hextB; have EB5 : Ext w5 wB := EA5.trans hextB)
      | (go_at_call 31; refine (of_calls 1 (by decide) _).mono ?_; rintro e wC ⟨oC, lC, cC, rfl, hownC, hextC, hlC⟩; have EC : Ext X3 wC := EB.trans hextC; have EC5 : Ext w5 wC := EB5.trans hextC)
      | (go_at_call 30; refine (add_calls (HOF.out.old EC5) hownC.sl (by omega) (by omega)).mono ?_; rintro e wD ⟨oD, lD, cD, rfl, hownD, hextD, hlD⟩; rw [val_lim, val_lim] at hownD; have ED : Ext X3 wD := EC.trans hextD)
      | (go_at_call_of 27 oD; refine (rofnat_calls hownD.sl (by omega)).mono ?_; rintro e wE ⟨aE, lE, cE, bE, mE, dE, rfl, oaE, obE, hextE, hlE, hmE⟩; rw [val_lim] at oaE; have EE : Ext X3 wE := ED.trans hextE)
      | (go_at_call_of 16 aE; refine (rcmp_calls (HA1.out _ EE) (HB1.out _ EE) oaE.sl obE.sl (by omega) (by omega) (by omega) (by omega)).mono ?_; rintro e wF ⟨rfl, hextF⟩; rw [val_lim, val_lim, HVN1.out, HVD1.out, HN1.out, HD1.out, show dN (F + 1) 1 = F + 1 from rfl, show dD 1 = 1 from rfl, HQG.out]; have EF : Ext X3 wF := EE.trans hextF)
      | (go_at_call 28; refine (rzero_calls (HA1.out _ EF) (HB1.out _ EF) (by omega) (by omega)).mono ?_; rintro e wG ⟨rfl, hextG⟩; rw [HVN1.out, HVD1.out, HN1.out, HBZ.out]; have EG : Ext X3 wG := EF.trans hextG)
      | (go_at_call 16; refine (rcmp_calls (HA1.out _ EG) (HB1.out _ EG) (Sl.nil _) (Sl.nil _) (by omega) (by omega) (by omega) (by omega)).mono ?_; rintro e wH ⟨rfl, hextH⟩; rw [HVN1.out, HVD1.out, HN1.out, HD1.out, show dN (val []) (val []) = 0 from rfl, show dD (val []) = 1 from rfl, HQZ.out]; have EH : Ext X3 wH := EG.trans hextH))
  all_goals (
    have HEND := Lib.hid EH
    go_wp2_with fail
    go_ret
    exact ⟨rfl, HEL.out.trans HEND.out⟩)

end Go.Proofs.YtnfjfgfkeigkiaaGreatDoor
