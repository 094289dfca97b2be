/- gleanlaw2.DecOrder: the walk. -/
import Derived.Test.YtdafjajleglccaaGreatDoorKnown2
import Derived.Test.YtdafjajleglccaaGreatDoorHelp2
import Derived.Test.YtdafjajleglccaaGreatDoorDGen
import Derived.Test.YtdafjajleglccaaGreatDoorMid
namespace Go.Proofs.YtdafjajleglccaaGreatDoor
open Go.RowKit Go.Lib

theorem cmpN_add (A B C : Nat) : cmpN (A + C) (B + C) = cmpN A B := by
  rcases Nat.lt_trichotomy A B with h | h | h
  · rw [cmpN_lt h, cmpN_lt (by omega)]
  · rw [cmpN_eq h, cmpN_eq (by omega)]
  · rw [cmpN_gt h, cmpN_gt (by omega)]
theorem cmpN_neg (A B : Nat) : IntKind.i64.wrap (-(cmpN B A)) = cmpN A B := by
  rcases Nat.lt_trichotomy A B with h | h | h
  · rw [cmpN_lt h, cmpN_gt h]; decide
  · rw [cmpN_eq h, cmpN_eq h.symm]; decide
  · rw [cmpN_gt h, cmpN_lt h]; decide
theorem basis_parts (n : Nat) : U36 / 10000 * n * 10000 = n * U36 := by
  have h : U36 = U36 / 10000 * 10000 := by decide +kernel
  generalize U36 / 10000 = u at *
  rw [h]; grind
theorem order_ge {A B : Nat} (h : B ≤ A) : decide (cmpN A B < 0) = false ∧ (∃ y, decide (0 < cmpN A B) = y ∧ (!decide (A - B = 0)) = y) ∧ True := by
  rcases Nat.lt_or_eq_of_le h with h | h
  · rw [cmpN_gt h]; exact ⟨rfl, ⟨true, rfl, by simp; omega⟩, trivial⟩
  · rw [cmpN_eq h.symm]; exact ⟨rfl, ⟨false, rfl, by simp; omega⟩, trivial⟩

set_option maxHeartbeats 16000000 in
set_option maxRecDepth 100000 in
theorem dord_law {a1 a2 a3 : Option Addr} {m1 c1 m2 c2 m3 c3 : Nat} {xs1 xs2 xs3 : List Nat} {w : World} (ha1 : Sl w a1 m1 c1 xs1) (ha2 : Sl w a2 m2 c2 xs2) (ha3 : Sl w a3 m3 c3 xs3) {nn : Nat} (hnn : nn < B64) (htab : Tab w) (hM : MaxL w) :
    Calls Tryz.prog 10 #[DecV a1 m1 c1, DecV a2 m2 c2, DecV a3 m3 c3, .int .u64 (nn : Int)] w (RetE (.bool true) w) := by
  obtain ⟨A, hv1⟩ : ∃ X, val xs1 = X := ⟨_, rfl⟩
  obtain ⟨B, hv2⟩ : ∃ X, val xs2 = X := ⟨_, rfl⟩
  obtain ⟨C, hv3⟩ : ∃ X, val xs3 = X := ⟨_, rfl⟩
  have HQ1 := Lib.hid hv1; have HA1 := Lib.hid ha1
  have HQ2 := Lib.hid hv2; have HA2 := Lib.hid ha2
  have HQ3 := Lib.hid hv3; have HA3 := Lib.hid ha3
  have HT := Lib.hid htab; have HM := Lib.hid hM
  clear hv1 ha1 hv2 ha2 hv3 ha3 htab hM
  have HN := Lib.hid hnn; clear hnn
  obtain ⟨V1, hV⟩ : ∃ V, w.alloc (.cells #[.slice a1 m1 c1] 25) = V := ⟨_, rfl⟩
  have R1 := Lib.hid (show V1.heap[w.heap.size]? = some (.cells #[.slice a1 m1 c1] 25 (0, 0)) by rw [← hV]; exact heap_alloc_new w _)
  have x1 : Ext w V1 := by rw [← hV]; exact (Ext.refl _).alloc _
  have HV1 := Lib.hid hV
  clear hV
  have D1 := Lib.hid x1
  have EX1 := Lib.hid x1
  clear x1
  obtain ⟨V2, hV⟩ : ∃ V, V1.alloc (.cells #[.slice a2 m2 c2] 25) = V := ⟨_, rfl⟩
  have R2 := Lib.hid (show V2.heap[V1.heap.size]? = some (.cells #[.slice a2 m2 c2] 25 (0, 0)) by rw [← hV]; exact heap_alloc_new V1 _)
  have x2 : Ext V1 V2 := by rw [← hV]; exact (Ext.refl _).alloc _
  have HV2 := Lib.hid hV
  clear hV
  have D2 := Lib.hid x2
  have EX2 := Lib.hid (EX1.out.trans x2)
  clear x2
  obtain ⟨V3, hV⟩ : ∃ V, V2.alloc (.cells #[.slice a3 m3 c3] 25) = V := ⟨_, rfl⟩
  have R3 := Lib.hid (show V3.heap[V2.heap.size]? = some (.cells #[.slice a3 m3 c3] 25 (0, 0)) by rw [← hV]; exact heap_alloc_new V2 _)
  have x3 : Ext V2 V3 := by rw [← hV]; exact (Ext.refl _).alloc _
  have HV3 := Lib.hid hV
  clear hV
  have D3 := Lib.hid x3
  have EX3 := Lib.hid (EX2.out.trans x3)
  clear x3
  go_enter Tryz.func10, Tryz.ntmps10
  have C4 := Lib.hid (known2_calls V3 (HT.out.old EX3.out) (HM.out.old EX3.out))
  go_wp2_with (first | rw [HV1.out] | rw [HV2.out] | rw [HV3.out])
  refine C4.out.mono ?_
  rintro e w4 ⟨rfl, x4⟩
  have D4 := Lib.hid x4
  have EX4 := Lib.hid (EX3.out.trans x4)
  clear x4
  clear C4
  obtain ⟨Z, hZ⟩ : ∃ Z, w4.alloc (.cells #[.slice a1 m1 c1, .slice a2 m2 c2, .slice a3 m3 c3] 25) = Z := ⟨_, rfl⟩
  have hxz : Ext w4 Z := by rw [← hZ]; exact (Ext.refl _).alloc _
  by_cases h60 : m1 ≤ 40 ∧ m2 ≤ 40 ∧ m3 ≤ 40
  rotate_left
  · have HSM := Lib.hid (sd_no3 w4 (a1 := a1) (m1 := m1) (c1 := c1) (a2 := a2) (m2 := m2) (c2 := c2) (a3 := a3) (m3 := m3) (c3 := c3) h60)
    rw [hZ] at HSM
    have HZ := Lib.hid hZ; have HEZ := Lib.hid (EX4.out.trans hxz)
    clear hZ hxz
    have ja := drow_cell (rowE (Ext.trans D2.out (Ext.trans D3.out D4.out)) R1.out)
    have jb := drow_cell (rowE (Ext.trans D3.out D4.out) R2.out)
    have jc := drow_cell (rowE D4.out R3.out)
    go_wp2_with (rw [HZ.out])
    refine HSM.out.mono ?_
    rintro e w' ⟨rfl, rfl⟩
    go_wp2_with fail
    go_ret
    exact ⟨rfl, HEZ.out⟩
  have HSM := Lib.hid (sd_yes3 w4 (a1 := a1) (m1 := m1) (c1 := c1) (a2 := a2) (m2 := m2) (c2 := c2) (a3 := a3) (m3 := m3) (c3 := c3) h60)
  rw [hZ] at HSM
  have HZ := Lib.hid hZ
  obtain ⟨q1, q2, q3⟩ := h60
  clear hZ
  have ja := drow_cell (rowE (Ext.trans D2.out (Ext.trans D3.out D4.out)) R1.out)
  have jb := drow_cell (rowE (Ext.trans D3.out D4.out) R2.out)
  have jc := drow_cell (rowE D4.out R3.out)
  have D5 := Lib.hid hxz
  have EX5 := Lib.hid (EX4.out.trans hxz)
  clear hxz
  go_wp2_with (rw [HZ.out])
  refine HSM.out.mono ?_
  rintro e w' ⟨rfl, rfl⟩
  clear HSM ja jb jc
  obtain ⟨S, h_S⟩ : ∃ x, A + C = x := ⟨_, rfl⟩
  have H_S := Lib.hid h_S
  clear h_S
  obtain ⟨T, h_T⟩ : ∃ x, B + C = x := ⟨_, rfl⟩
  have H_T := Lib.hid h_T
  clear h_T
  obtain ⟨D, h_D⟩ : ∃ x, A - B = x := ⟨_, rfl⟩
  have H_D := Lib.hid h_D
  clear h_D
  obtain ⟨q, h_q⟩ : ∃ x, cmpN A B = x := ⟨_, rfl⟩
  have H_q := Lib.hid h_q
  clear h_q
  obtain ⟨q2, h_q2⟩ : ∃ x, cmpN B A = x := ⟨_, rfl⟩
  have H_q2 := Lib.hid h_q2
  clear h_q2
  obtain ⟨zD, h_zD⟩ : ∃ x, decide (A - B = 0) = x := ⟨_, rfl⟩
  have H_zD := Lib.hid h_zD
  clear h_zD
  obtain ⟨BN, h_BN⟩ : ∃ x, U36 / 10000 * nn = x := ⟨_, rfl⟩
  have H_BN := Lib.hid h_BN
  clear h_BN
  obtain ⟨NN, h_NN⟩ : ∃ x, nn * U36 = x := ⟨_, rfl⟩
  have H_NN := Lib.hid h_NN
  clear h_NN
  have F1 := Lib.hid (show cmpN S T = q from by rw [← H_S.out, ← H_T.out, ← H_q.out]; exact cmpN_add A B C)
  have F2 := Lib.hid (show IntKind.i64.wrap (-q2) = q from by rw [← H_q2.out, ← H_q.out]; exact cmpN_neg A B)
  have F3 := Lib.hid (show BN * 10000 = NN from by rw [← H_BN.out, ← H_NN.out]; exact basis_parts nn)
  have F4 := Lib.hid (show U36 / 10000 * 10000 = U36 from by decide +kernel)
  have F5 := Lib.hid (show 1 * U36 = U36 from Nat.one_mul _)
  have F6 := Lib.hid (show decide (D = 0) = zD from by rw [← H_D.out]; exact H_zD.out)
  by_cases hAB : A < B
  · have HAB := Lib.hid hAB; clear hAB
    obtain ⟨er, her, e1, e2, e3, e4⟩ : ∃ er : Int, (if A < B then (20 : Int) else 0) = er ∧ (er == 0) = false ∧ (er == 20) = true ∧ decide (er = 0) = false ∧ decide (er = 20) = true := ⟨20, by rw [if_pos HAB.out], rfl, rfl, rfl, rfl⟩
    obtain ⟨e5, e6⟩ : decide (q < 0) = true ∧ decide (0 < q) = false := by rw [← H_q.out, cmpN_lt HAB.out]; exact ⟨rfl, rfl⟩
    have HER := Lib.hid her; clear her
    have W2 := F2.out
    have ja := drow_cell (rowE (Ext.trans D2.out (Ext.trans D3.out (Ext.trans D4.out D5.out))) R1.out)
    have jb := drow_cell (rowE (Ext.trans D3.out (Ext.trans D4.out D5.out)) R2.out)
    have C5 := Lib.hid (dcmp_at A B q (HA1.out.old (Ext.trans D1.out (Ext.trans D2.out (Ext.trans D3.out (Ext.trans D4.out D5.out))))) (HA2.out.old (Ext.trans D1.out (Ext.trans D2.out (Ext.trans D3.out (Ext.trans D4.out D5.out))))) HQ1.out HQ2.out H_q.out (by omega) (by omega))
    go_wp2_with fail
    refine C5.out.mono ?_
    rintro e w5 ⟨rfl, x5⟩
    clear ja jb
    have D6 := Lib.hid x5
    have EX6 := Lib.hid (EX5.out.trans x5)
    clear x5
    clear C5
    have ja := drow_cell (rowE (Ext.trans D2.out (Ext.trans D3.out (Ext.trans D4.out (Ext.trans D5.out D6.out)))) R1.out)
    have jb := drow_cell (rowE (Ext.trans D3.out (Ext.trans D4.out (Ext.trans D5.out D6.out))) R2.out)
    have C6 := Lib.hid (dsub_gen A B D er (HA1.out.old (Ext.trans D1.out (Ext.trans D2.out (Ext.trans D3.out (Ext.trans D4.out (Ext.trans D5.out D6.out)))))) (HA2.out.old (Ext.trans D1.out (Ext.trans D2.out (Ext.trans D3.out (Ext.trans D4.out (Ext.trans D5.out D6.out)))))) HQ1.out HQ2.out H_D.out HER.out (by omega) (by omega))
    go_wp2_with fail
    refine C6.out.mono ?_
    rintro e w6 ⟨p6, n6, c6, rfl, o6, x6, l6⟩
    clear ja jb
    have S6 := Lib.hid o6.sl
    clear o6
    have D7 := Lib.hid x6
    have EX7 := Lib.hid (EX6.out.trans x6)
    clear x6
    clear C6
    obtain ⟨V7, hV⟩ : ∃ V, w6.alloc (.cells #[.slice p6 n6 c6] 25) = V := ⟨_, rfl⟩
    have R7 := Lib.hid (show V7.heap[w6.heap.size]? = some (.cells #[.slice p6 n6 c6] 25 (0, 0)) by rw [← hV]; exact heap_alloc_new w6 _)
    have x7 : Ext w6 V7 := by rw [← hV]; exact (Ext.refl _).alloc _
    have HV7 := Lib.hid hV
    clear hV
    have D8 := Lib.hid x7
    have EX8 := Lib.hid (EX7.out.trans x7)
    clear x7
    have H8 : Hid (∀ w', Ext V7 w' → w'.cell? ⟨w.heap.size, 0, none⟩ = some (.slice a1 m1 c1) ∧ w'.cell? ⟨V1.heap.size, 0, none⟩ = some (.slice a2 m2 c2) ∧ w'.cell? ⟨V2.heap.size, 0, none⟩ = some (.slice a3 m3 c3) ∧ w'.cell? ⟨w6.heap.size, 0, none⟩ = some (.slice p6 n6 c6)) := Lib.hid (fun w' h => ⟨drow_cell (rowE (Ext.trans (Ext.trans D2.out (Ext.trans D3.out (Ext.trans D4.out (Ext.trans D5.out (Ext.trans D6.out (Ext.trans D7.out D8.out)))))) h) R1.out), drow_cell (rowE (Ext.trans (Ext.trans D3.out (Ext.trans D4.out (Ext.trans D5.out (Ext.trans D6.out (Ext.trans D7.out D8.out))))) h) R2.out), drow_cell (rowE (Ext.trans (Ext.trans D4.out (Ext.trans D5.out (Ext.trans D6.out (Ext.trans D7.out D8.out)))) h) R3.out), drow_cell (rowE h R7.out)⟩)
    go_wp2_with (rw [HV7.out])
    refine wp_region_held_drew (S := fun w' => w'.cell? ⟨w.heap.size, 0, none⟩ = some (.slice a1 m1 c1) ∧ w'.cell? ⟨V1.heap.size, 0, none⟩ = some (.slice a2 m2 c2) ∧ w'.cell? ⟨V2.heap.size, 0, none⟩ = some (.slice a3 m3 c3) ∧ w'.cell? ⟨w6.heap.size, 0, none⟩ = some (.slice p6 n6 c6)) (by kernel_rfl) (H8.out _ (Ext.refl _).drew) (fun hHeld => ?_)
    refine takeW (i := 0) (v := ?_) rfl (by kernel_rfl) (by kernel_rfl) (by kernel_rfl) (fun _ _ _ h => h) (Or.inl ⟨by rfl, ?_⟩) (by assumption) ?_
    rotate_left
    · (intro wz hSw; (try dsimp only at hSw); go_simp <;> with_reducible rfl)
    try simp only [Act.put, List.setIfInBounds_toArray, List.set_cons_zero, List.set_cons_succ]
    refine takeW (i := 1) (v := ?_) rfl (by kernel_rfl) (by kernel_rfl) (by kernel_rfl) (fun _ _ _ h => h) (Or.inl ⟨by rfl, ?_⟩) (by assumption) ?_
    rotate_left
    · (intro wz hSw; (try dsimp only at hSw); go_simp <;> with_reducible rfl)
    try simp only [Act.put, List.setIfInBounds_toArray, List.set_cons_zero, List.set_cons_succ]
    refine takeW (i := 2) (v := ?_) rfl (by kernel_rfl) (by kernel_rfl) (by kernel_rfl) (fun _ _ _ h => h) (Or.inl ⟨by rfl, ?_⟩) (by assumption) ?_
    rotate_left
    · (intro wz hSw; (try dsimp only at hSw); go_simp <;> with_reducible rfl)
    try simp only [Act.put, List.setIfInBounds_toArray, List.set_cons_zero, List.set_cons_succ]
    refine wpAnyH_ready (rs := [3]) (by kernel_rfl) (by simp) ?_
    refine consW rfl (fun K hK => ?_) AllReadyH.nil
    go_simp
    go_at_call_of 29 a2
    refine (dcmp_at B A q2 (HA2.out.old ((Ext.trans D1.out (Ext.trans D2.out (Ext.trans D3.out (Ext.trans D4.out (Ext.trans D5.out (Ext.trans D6.out (Ext.trans D7.out D8.out))))))).trans (Ext.refl V7).drew)) (HA1.out.old ((Ext.trans D1.out (Ext.trans D2.out (Ext.trans D3.out (Ext.trans D4.out (Ext.trans D5.out (Ext.trans D6.out (Ext.trans D7.out D8.out))))))).trans (Ext.refl V7).drew)) HQ2.out HQ1.out H_q2.out (by omega) (by omega)).mono ?_
    rintro e wr8_0 ⟨rfl, xr8_0⟩
    have Er8_0 : Ext V7 wr8_0 := (Ext.refl V7).drew.trans xr8_0
    try go_wp2_with fail
    refine hK.out _ _ ?_ (fun hHeld => ?_)
    · (try dsimp only); exact H8.out _ Er8_0
    clear hK K
    try simp only [Act.put, List.setIfInBounds_toArray, List.set_cons_zero, List.set_cons_succ]
    refine takeW (i := 4) (v := ?_) rfl (by kernel_rfl) (by kernel_rfl) (by kernel_rfl) (fun _ _ _ h => h) (Or.inl ⟨by rfl, ?_⟩) (by assumption) ?_
    rotate_left
    · (intro wz hSw; (try dsimp only at hSw); go_simp <;> with_reducible rfl)
    try simp only [Act.put, List.setIfInBounds_toArray, List.set_cons_zero, List.set_cons_succ]
    refine takeW (i := 5) (v := ?_) rfl (by kernel_rfl) (by kernel_rfl) (by kernel_rfl) (fun _ _ _ h => h) (Or.inl ⟨by rfl, ?_⟩) (by assumption) ?_
    rotate_left
    · (intro wz hSw; (try dsimp only at hSw); go_simp <;> with_reducible rfl)
    try simp only [Act.put, List.setIfInBounds_toArray, List.set_cons_zero, List.set_cons_succ]
    refine takeW (i := 6) (v := ?_) rfl (by kernel_rfl) (by kernel_rfl) (by kernel_rfl) (fun _ _ _ h => h) (Or.inl ⟨by rfl, ?_⟩) (by assumption) ?_
    rotate_left
    · (intro wz hSw; (try dsimp only at hSw); go_simp <;> with_reducible rfl)
    try simp only [Act.put, List.setIfInBounds_toArray, List.set_cons_zero, List.set_cons_succ]
    refine takeW (i := 7) (v := ?_) rfl (by kernel_rfl) (by kernel_rfl) (by kernel_rfl) (fun _ _ _ h => h) (Or.inl ⟨by rfl, ?_⟩) (by assumption) ?_
    rotate_left
    · (intro wz hSw; (try dsimp only at hSw); go_simp <;> with_reducible rfl)
    try simp only [Act.put, List.setIfInBounds_toArray, List.set_cons_zero, List.set_cons_succ]
    refine takeW (i := 8) (v := ?_) rfl (by kernel_rfl) (by kernel_rfl) (by kernel_rfl) (fun _ _ _ h => h) (Or.inl ⟨by rfl, ?_⟩) (by assumption) ?_
    rotate_left
    · (intro wz hSw; (try dsimp only at hSw); go_simp <;> with_reducible rfl)
    try simp only [Act.put, List.setIfInBounds_toArray, List.set_cons_zero, List.set_cons_succ]
    refine takeW (i := 10) (v := ?_) rfl (by kernel_rfl) (by kernel_rfl) (by kernel_rfl) (fun _ _ _ h => h) (Or.inl ⟨by rfl, ?_⟩) (by assumption) ?_
    rotate_left
    · (intro wz hSw; (try dsimp only at hSw); go_simp <;> with_reducible rfl)
    try simp only [Act.put, List.setIfInBounds_toArray, List.set_cons_zero, List.set_cons_succ]
    refine takeW (i := 11) (v := ?_) rfl (by kernel_rfl) (by kernel_rfl) (by kernel_rfl) (fun _ _ _ h => h) (Or.inl ⟨by rfl, ?_⟩) (by assumption) ?_
    rotate_left
    · (intro wz hSw; (try dsimp only at hSw); go_simp <;> with_reducible rfl)
    try simp only [Act.put, List.setIfInBounds_toArray, List.set_cons_zero, List.set_cons_succ]
    refine takeW (i := 14) (v := ?_) rfl (by kernel_rfl) (by kernel_rfl) (by kernel_rfl) (fun _ _ _ h => h) (Or.inl ⟨by rfl, ?_⟩) (by assumption) ?_
    rotate_left
    · (intro wz hSw; (try dsimp only at hSw); go_simp <;> with_reducible rfl)
    try simp only [Act.put, List.setIfInBounds_toArray, List.set_cons_zero, List.set_cons_succ]
    refine wpAnyH_ready (rs := [9]) (by kernel_rfl) (by simp) ?_
    refine consW rfl (fun K hK => ?_) AllReadyH.nil
    go_simp
    go_at_call_of 14 a1
    refine (dadd_at A C S (HA1.out.old ((Ext.trans D1.out (Ext.trans D2.out (Ext.trans D3.out (Ext.trans D4.out (Ext.trans D5.out (Ext.trans D6.out (Ext.trans D7.out D8.out))))))).trans Er8_0)) (HA3.out.old ((Ext.trans D1.out (Ext.trans D2.out (Ext.trans D3.out (Ext.trans D4.out (Ext.trans D5.out (Ext.trans D6.out (Ext.trans D7.out D8.out))))))).trans Er8_0)) HQ1.out HQ3.out H_S.out (by omega) (by omega)).mono ?_
    rintro e wr8_1 ⟨pr8_1, nr8_1, cr8_1, rfl, or8_1, xr8_1, lr8_1⟩
    have Er8_1 : Ext V7 wr8_1 := Er8_0.trans xr8_1
    try go_wp2_with fail
    refine hK.out _ _ ?_ (fun hHeld => ?_)
    · (try dsimp only); exact H8.out _ Er8_1
    clear hK K
    try simp only [Act.put, List.setIfInBounds_toArray, List.set_cons_zero, List.set_cons_succ]
    refine wpAnyH_ready (rs := [12]) (by kernel_rfl) (by simp) ?_
    refine consW rfl (fun K hK => ?_) AllReadyH.nil
    go_simp
    go_at_call_of 14 a2
    refine (dadd_at B C T (HA2.out.old ((Ext.trans D1.out (Ext.trans D2.out (Ext.trans D3.out (Ext.trans D4.out (Ext.trans D5.out (Ext.trans D6.out (Ext.trans D7.out D8.out))))))).trans Er8_1)) (HA3.out.old ((Ext.trans D1.out (Ext.trans D2.out (Ext.trans D3.out (Ext.trans D4.out (Ext.trans D5.out (Ext.trans D6.out (Ext.trans D7.out D8.out))))))).trans Er8_1)) HQ2.out HQ3.out H_T.out (by omega) (by omega)).mono ?_
    rintro e wr8_2 ⟨pr8_2, nr8_2, cr8_2, rfl, or8_2, xr8_2, lr8_2⟩
    have Er8_2 : Ext V7 wr8_2 := Er8_1.trans xr8_2
    try go_wp2_with fail
    refine hK.out _ _ ?_ (fun hHeld => ?_)
    · (try dsimp only); exact H8.out _ Er8_2
    clear hK K
    try simp only [Act.put, List.setIfInBounds_toArray, List.set_cons_zero, List.set_cons_succ]
    refine wpAnyH_ready (rs := [13]) (by kernel_rfl) (by simp) ?_
    refine consW rfl (fun K hK => ?_) AllReadyH.nil
    go_simp
    go_at_call_of 29 pr8_1
    refine (dcmp_at S T q (or8_1.sl.old xr8_2) or8_2.sl (val_lim _) (val_lim _) F1.out (by omega) (by omega)).mono ?_
    rintro e wr8_3 ⟨rfl, xr8_3⟩
    have Er8_3 : Ext V7 wr8_3 := Er8_2.trans xr8_3
    try go_wp2_with fail
    refine hK.out _ _ ?_ (fun hHeld => ?_)
    · (try dsimp only); exact H8.out _ Er8_3
    clear hK K
    try simp only [Act.put, List.setIfInBounds_toArray, List.set_cons_zero, List.set_cons_succ]
    refine takeW (i := 15) (v := ?_) rfl (by kernel_rfl) (by kernel_rfl) (by kernel_rfl) (fun _ _ _ h => h) (Or.inl ⟨by rfl, ?_⟩) (by assumption) ?_
    rotate_left
    · (intro wz hSw; (try dsimp only at hSw); go_simp <;> with_reducible rfl)
    try simp only [Act.put, List.setIfInBounds_toArray, List.set_cons_zero, List.set_cons_succ]
    refine takeW (i := 16) (v := ?_) rfl (by kernel_rfl) (by kernel_rfl) (by kernel_rfl) (fun _ _ _ h => h) (Or.inl ⟨by rfl, ?_⟩) (by assumption) ?_
    rotate_left
    · (intro wz hSw; (try dsimp only at hSw); go_simp <;> with_reducible rfl)
    try simp only [Act.put, List.setIfInBounds_toArray, List.set_cons_zero, List.set_cons_succ]
    refine takeW (i := 17) (v := ?_) rfl (by kernel_rfl) (by kernel_rfl) (by kernel_rfl) (fun _ _ _ h => h) (Or.inl ⟨by rfl, ?_⟩) (by assumption) ?_
    rotate_left
    · (intro wz hSw; (try dsimp only at hSw); go_simp <;> with_reducible rfl)
    try simp only [Act.put, List.setIfInBounds_toArray, List.set_cons_zero, List.set_cons_succ]
    refine takeW (i := 18) (v := ?_) rfl (by kernel_rfl) (by kernel_rfl) (by kernel_rfl) (fun _ _ _ h => h) (Or.inl ⟨by rfl, ?_⟩) (by assumption) ?_
    rotate_left
    · (intro wz hSw; (try dsimp only at hSw); go_simp <;> with_reducible rfl)
    try simp only [Act.put, List.setIfInBounds_toArray, List.set_cons_zero, List.set_cons_succ]
    refine takeW (i := 19) (v := ?_) rfl (by kernel_rfl) (by kernel_rfl) (by kernel_rfl) (fun _ _ _ h => h) (Or.inl ⟨by rfl, ?_⟩) (by assumption) ?_
    rotate_left
    · (intro wz hSw; (try dsimp only at hSw); go_simp <;> with_reducible rfl)
    try simp only [Act.put, List.setIfInBounds_toArray, List.set_cons_zero, List.set_cons_succ]
    refine takeW (i := 20) (v := ?_) rfl (by kernel_rfl) (by kernel_rfl) (by kernel_rfl) (fun _ _ _ h => h) (Or.inl ⟨by rfl, ?_⟩) (by assumption) ?_
    rotate_left
    · (intro wz hSw; (try dsimp only at hSw); go_simp <;> with_reducible rfl)
    try simp only [Act.put, List.setIfInBounds_toArray, List.set_cons_zero, List.set_cons_succ]
    refine takeW (i := 21) (v := ?_) rfl (by kernel_rfl) (by kernel_rfl) (by kernel_rfl) (fun _ _ _ h => h) (Or.inl ⟨by rfl, ?_⟩) (by assumption) ?_
    rotate_left
    · (intro wz hSw; (try dsimp only at hSw); go_simp <;> with_reducible rfl)
    try simp only [Act.put, List.setIfInBounds_toArray, List.set_cons_zero, List.set_cons_succ]
    refine takeW (i := 22) (v := ?_) rfl (by kernel_rfl) (by kernel_rfl) (by kernel_rfl) (fun _ _ _ h => h) (Or.inl ⟨by rfl, ?_⟩) (by assumption) ?_
    rotate_left
    · (intro wz hSw; (try dsimp only at hSw); go_simp <;> with_reducible rfl)
    try simp only [Act.put, List.setIfInBounds_toArray, List.set_cons_zero, List.set_cons_succ]
    refine takeW (i := 23) (v := ?_) rfl (by kernel_rfl) (by kernel_rfl) (by kernel_rfl) (fun _ _ _ h => h) (Or.inl ⟨by rfl, ?_⟩) (by assumption) ?_
    rotate_left
    · (intro wz hSw; (try dsimp only at hSw); go_simp <;> with_reducible rfl)
    try simp only [Act.put, List.setIfInBounds_toArray, List.set_cons_zero, List.set_cons_succ]
    refine takeW (i := 24) (v := ?_) rfl (by kernel_rfl) (by kernel_rfl) (by kernel_rfl) (fun _ _ _ h => h) (Or.inl ⟨by rfl, ?_⟩) (by assumption) ?_
    rotate_left
    · (intro wz hSw; (try dsimp only at hSw); go_simp <;> with_reducible rfl)
    try simp only [Act.put, List.setIfInBounds_toArray, List.set_cons_zero, List.set_cons_succ]
    refine takeW (i := 25) (v := ?_) rfl (by kernel_rfl) (by kernel_rfl) (by kernel_rfl) (fun _ _ _ h => h) (Or.inl ⟨by rfl, ?_⟩) (by assumption) ?_
    rotate_left
    · (intro wz hSw; (try dsimp only at hSw); go_simp <;> with_reducible rfl)
    try simp only [Act.put, List.setIfInBounds_toArray, List.set_cons_zero, List.set_cons_succ]
    refine takeW (i := 26) (v := ?_) rfl (by kernel_rfl) (by kernel_rfl) (by kernel_rfl) (fun _ _ _ h => h) (Or.inl ⟨by rfl, ?_⟩) (by assumption) ?_
    rotate_left
    · (intro wz hSw; (try dsimp only at hSw); go_simp <;> with_reducible rfl)
    try simp only [Act.put, List.setIfInBounds_toArray, List.set_cons_zero, List.set_cons_succ]
    refine takeW (i := 27) (v := ?_) rfl (by kernel_rfl) (by kernel_rfl) (by kernel_rfl) (fun _ _ _ h => h) (Or.inl ⟨by rfl, ?_⟩) (by assumption) ?_
    rotate_left
    · (intro wz hSw; (try dsimp only at hSw); go_simp <;> with_reducible rfl)
    try simp only [Act.put, List.setIfInBounds_toArray, List.set_cons_zero, List.set_cons_succ]
    refine takeW (i := 28) (v := ?_) rfl (by kernel_rfl) (by kernel_rfl) (by kernel_rfl) (fun _ _ _ h => h) (Or.inl ⟨by rfl, ?_⟩) (by assumption) ?_
    rotate_left
    · (intro wz hSw; (try dsimp only at hSw); go_simp <;> with_reducible rfl)
    try simp only [Act.put, List.setIfInBounds_toArray, List.set_cons_zero, List.set_cons_succ]
    refine takeW (i := 29) (v := ?_) rfl (by kernel_rfl) (by kernel_rfl) (by kernel_rfl) (fun _ _ _ h => h) (Or.inl ⟨by rfl, ?_⟩) (by assumption) ?_
    rotate_left
    · (intro wz hSw; (try dsimp only at hSw); go_simp <;> with_reducible rfl)
    try simp only [Act.put, List.setIfInBounds_toArray, List.set_cons_zero, List.set_cons_succ]
    refine skipW (i := 30) rfl (by kernel_rfl) (by kernel_rfl) (by kernel_rfl) (fun _ _ _ h => h) (by rfl) (by assumption) ?_
    try simp only [Act.put, List.setIfInBounds_toArray, List.set_cons_zero, List.set_cons_succ]
    refine skipW (i := 31) rfl (by kernel_rfl) (by kernel_rfl) (by kernel_rfl) (fun _ _ _ h => h) (by rfl) (by assumption) ?_
    try simp only [Act.put, List.setIfInBounds_toArray, List.set_cons_zero, List.set_cons_succ]
    refine skipW (i := 32) rfl (by kernel_rfl) (by kernel_rfl) (by kernel_rfl) (fun _ _ _ h => h) (by rfl) (by assumption) ?_
    try simp only [Act.put, List.setIfInBounds_toArray, List.set_cons_zero, List.set_cons_succ]
    refine takeW (i := 33) (v := ?_) rfl (by kernel_rfl) (by kernel_rfl) (by kernel_rfl) (fun _ _ _ h => h) (Or.inl ⟨by rfl, ?_⟩) (by assumption) ?_
    rotate_left
    · (intro wz hSw; (try dsimp only at hSw); go_simp <;> with_reducible rfl)
    try simp only [Act.put, List.setIfInBounds_toArray, List.set_cons_zero, List.set_cons_succ]
    refine takeW (i := 34) (v := ?_) rfl (by kernel_rfl) (by kernel_rfl) (by kernel_rfl) (fun _ _ _ h => h) (Or.inl ⟨by rfl, ?_⟩) (by assumption) ?_
    rotate_left
    · (intro wz hSw; (try dsimp only at hSw); go_simp <;> with_reducible rfl)
    try simp only [Act.put, List.setIfInBounds_toArray, List.set_cons_zero, List.set_cons_succ]
    refine takeW (i := 35) (v := ?_) rfl (by kernel_rfl) (by kernel_rfl) (by kernel_rfl) (fun _ _ _ h => h) (Or.inl ⟨by rfl, ?_⟩) (by assumption) ?_
    rotate_left
    · (intro wz hSw; (try dsimp only at hSw); go_simp <;> with_reducible rfl)
    try simp only [Act.put, List.setIfInBounds_toArray, List.set_cons_zero, List.set_cons_succ]
    refine wpAnyH_done (by kernel_rfl) ?_ _
    have x8 := Er8_3
    clear xr8_0 Er8_0 xr8_1 or8_1 Er8_1 xr8_2 or8_2 Er8_2 xr8_3 Er8_3
    have D9 := Lib.hid x8
    have EX9 := Lib.hid (EX8.out.trans x8)
    clear x8
    try clear W2
    have C9 := Lib.hid (dbasis_at nn BN HN.out H_BN.out wr8_3)
    go_wp2_with fail
    refine C9.out.mono ?_
    rintro e w9 ⟨p9, n9, c9, rfl, o9, x9, l9⟩
    have S9 := Lib.hid o9.sl
    clear o9
    have D10 := Lib.hid x9
    have EX10 := Lib.hid (EX9.out.trans x9)
    clear x9
    clear C9
    have C10 := Lib.hid (dtimes_at BN 10000 NN S9.out (val_lim _) F3.out (by omega) (by decide))
    go_wp2_with fail
    refine C10.out.mono ?_
    rintro e w10 ⟨p10, n10, c10, rfl, o10, x10, l10⟩
    have S10 := Lib.hid o10.sl
    clear o10
    have D11 := Lib.hid x10
    have EX11 := Lib.hid (EX10.out.trans x10)
    clear x10
    clear C10
    obtain ⟨V11, hV⟩ : ∃ V, w10.alloc (.cells #[.slice p10 n10 c10] 25) = V := ⟨_, rfl⟩
    have R11 := Lib.hid (show V11.heap[w10.heap.size]? = some (.cells #[.slice p10 n10 c10] 25 (0, 0)) by rw [← hV]; exact heap_alloc_new w10 _)
    have x11 : Ext w10 V11 := by rw [← hV]; exact (Ext.refl _).alloc _
    have HV11 := Lib.hid hV
    clear hV
    have D12 := Lib.hid x11
    have EX12 := Lib.hid (EX11.out.trans x11)
    clear x11
    have H12 : Hid (∀ w', Ext V11 w' → w'.cell? ⟨w10.heap.size, 0, none⟩ = some (.slice p10 n10 c10)) := Lib.hid (fun w' h => drow_cell (rowE h R11.out))
    go_wp2_with (rw [HV11.out])
    go_region_held3 (fun w' => w'.cell? ⟨w10.heap.size, 0, none⟩ = some (.slice p10 n10 c10))
      (first | exact H12.out _ (Ext.refl _) | exact H12.out _ (Ext.refl _).drew | exact H12.out _ (by assumption))
      (first
        | (go_at_call_of 21 nn; refine (dof_at nn NN HN.out H_NN.out _).mono ?_; rintro e wr12_0 ⟨pr12_0, nr12_0, cr12_0, rfl, or12_0, xr12_0, lr12_0⟩; have Er12_0 : Ext V11 wr12_0 := (Ext.refl V11).drew.trans xr12_0)
        | (go_at_call_of 29 p10; refine (dcmp_at NN NN 0 (S10.out.old (D12.out.trans Er12_0)) or12_0.sl (val_lim _) (val_lim _) (cmpN_eq rfl) (by omega) (by omega)).mono ?_; rintro e wr12_1 ⟨rfl, xr12_1⟩; have Er12_1 : Ext V11 wr12_1 := Er12_0.trans xr12_1)
        | (go_at_call 23; refine (dbasis_at 10000 U36 (by decide) F4.out _).mono ?_; rintro e wr12_2 ⟨pr12_2, nr12_2, cr12_2, rfl, or12_2, xr12_2, lr12_2⟩; have Er12_2 : Ext V11 wr12_2 := Er12_1.trans xr12_2)
        | (go_at_call 21; refine (dof_at 1 U36 (by decide) F5.out _).mono ?_; rintro e wr12_3 ⟨pr12_3, nr12_3, cr12_3, rfl, or12_3, xr12_3, lr12_3⟩; have Er12_3 : Ext V11 wr12_3 := Er12_2.trans xr12_3)
        | (go_at_call_of 29 pr12_2; refine (dcmp_at U36 U36 0 (or12_2.sl.old xr12_3) or12_3.sl (val_lim _) (val_lim _) (cmpN_eq rfl) (by omega) (by omega)).mono ?_; rintro e wr12_4 ⟨rfl, xr12_4⟩; have Er12_4 : Ext V11 wr12_4 := Er12_3.trans xr12_4))
    have x12 := Er12_4
    clear xr12_0 or12_0 Er12_0 xr12_1 Er12_1 xr12_2 or12_2 Er12_2 xr12_3 or12_3 Er12_3 xr12_4 Er12_4
    have D13 := Lib.hid x12
    have EX13 := Lib.hid (EX12.out.trans x12)
    clear x12
    go_wp2_with fail
    go_ret
    exact ⟨rfl, EX13.out⟩
  · have HAB := Lib.hid hAB; clear hAB
    obtain ⟨er, her, e1, e2, e3, e4⟩ : ∃ er : Int, (if A < B then (20 : Int) else 0) = er ∧ (er == 0) = true ∧ (er == 20) = false ∧ decide (er = 0) = true ∧ decide (er = 20) = false := ⟨0, by rw [if_neg HAB.out], rfl, rfl, rfl, rfl⟩
    obtain ⟨e5, e6, e7⟩ : decide (q < 0) = false ∧ (∃ y, decide (0 < q) = y ∧ (!zD) = y) ∧ True := by rw [← H_q.out, ← H_zD.out]; exact order_ge (Nat.le_of_not_lt HAB.out)
    obtain ⟨y, e8, e9⟩ := e6; clear e7
    have HER := Lib.hid her; clear her
    have W2 := F2.out
    have ja := drow_cell (rowE (Ext.trans D2.out (Ext.trans D3.out (Ext.trans D4.out D5.out))) R1.out)
    have jb := drow_cell (rowE (Ext.trans D3.out (Ext.trans D4.out D5.out)) R2.out)
    have C5 := Lib.hid (dcmp_at A B q (HA1.out.old (Ext.trans D1.out (Ext.trans D2.out (Ext.trans D3.out (Ext.trans D4.out D5.out))))) (HA2.out.old (Ext.trans D1.out (Ext.trans D2.out (Ext.trans D3.out (Ext.trans D4.out D5.out))))) HQ1.out HQ2.out H_q.out (by omega) (by omega))
    go_wp2_with fail
    refine C5.out.mono ?_
    rintro e w5 ⟨rfl, x5⟩
    clear ja jb
    have D6 := Lib.hid x5
    have EX6 := Lib.hid (EX5.out.trans x5)
    clear x5
    clear C5
    have ja := drow_cell (rowE (Ext.trans D2.out (Ext.trans D3.out (Ext.trans D4.out (Ext.trans D5.out D6.out)))) R1.out)
    have jb := drow_cell (rowE (Ext.trans D3.out (Ext.trans D4.out (Ext.trans D5.out D6.out))) R2.out)
    have C6 := Lib.hid (dsub_gen A B D er (HA1.out.old (Ext.trans D1.out (Ext.trans D2.out (Ext.trans D3.out (Ext.trans D4.out (Ext.trans D5.out D6.out)))))) (HA2.out.old (Ext.trans D1.out (Ext.trans D2.out (Ext.trans D3.out (Ext.trans D4.out (Ext.trans D5.out D6.out)))))) HQ1.out HQ2.out H_D.out HER.out (by omega) (by omega))
    go_wp2_with fail
    refine C6.out.mono ?_
    rintro e w6 ⟨p6, n6, c6, rfl, o6, x6, l6⟩
    clear ja jb
    have S6 := Lib.hid o6.sl
    clear o6
    have D7 := Lib.hid x6
    have EX7 := Lib.hid (EX6.out.trans x6)
    clear x6
    clear C6
    obtain ⟨V7, hV⟩ : ∃ V, w6.alloc (.cells #[.slice p6 n6 c6] 25) = V := ⟨_, rfl⟩
    have R7 := Lib.hid (show V7.heap[w6.heap.size]? = some (.cells #[.slice p6 n6 c6] 25 (0, 0)) by rw [← hV]; exact heap_alloc_new w6 _)
    have x7 : Ext w6 V7 := by rw [← hV]; exact (Ext.refl _).alloc _
    have HV7 := Lib.hid hV
    clear hV
    have D8 := Lib.hid x7
    have EX8 := Lib.hid (EX7.out.trans x7)
    clear x7
    have H8 : Hid (∀ w', Ext V7 w' → w'.cell? ⟨w.heap.size, 0, none⟩ = some (.slice a1 m1 c1) ∧ w'.cell? ⟨V1.heap.size, 0, none⟩ = some (.slice a2 m2 c2) ∧ w'.cell? ⟨V2.heap.size, 0, none⟩ = some (.slice a3 m3 c3) ∧ w'.cell? ⟨w6.heap.size, 0, none⟩ = some (.slice p6 n6 c6)) := Lib.hid (fun w' h => ⟨drow_cell (rowE (Ext.trans (Ext.trans D2.out (Ext.trans D3.out (Ext.trans D4.out (Ext.trans D5.out (Ext.trans D6.out (Ext.trans D7.out D8.out)))))) h) R1.out), drow_cell (rowE (Ext.trans (Ext.trans D3.out (Ext.trans D4.out (Ext.trans D5.out (Ext.trans D6.out (Ext.trans D7.out D8.out))))) h) R2.out), drow_cell (rowE (Ext.trans (Ext.trans D4.out (Ext.trans D5.out (Ext.trans D6.out (Ext.trans D7.out D8.out)))) h) R3.out), drow_cell (rowE h R7.out)⟩)
    go_wp2_with (rw [HV7.out])
    go_region_held3 (fun w' => w'.cell? ⟨w.heap.size, 0, none⟩ = some (.slice a1 m1 c1) ∧ w'.cell? ⟨V1.heap.size, 0, none⟩ = some (.slice a2 m2 c2) ∧ w'.cell? ⟨V2.heap.size, 0, none⟩ = some (.slice a3 m3 c3) ∧ w'.cell? ⟨w6.heap.size, 0, none⟩ = some (.slice p6 n6 c6))
      (first | exact H8.out _ (Ext.refl _) | exact H8.out _ (Ext.refl _).drew | exact H8.out _ (by assumption))
      (first
        | (go_at_call_of 29 a2; refine (dcmp_at B A q2 (HA2.out.old ((Ext.trans D1.out (Ext.trans D2.out (Ext.trans D3.out (Ext.trans D4.out (Ext.trans D5.out (Ext.trans D6.out (Ext.trans D7.out D8.out))))))).trans (Ext.refl V7).drew)) (HA1.out.old ((Ext.trans D1.out (Ext.trans D2.out (Ext.trans D3.out (Ext.trans D4.out (Ext.trans D5.out (Ext.trans D6.out (Ext.trans D7.out D8.out))))))).trans (Ext.refl V7).drew)) HQ2.out HQ1.out H_q2.out (by omega) (by omega)).mono ?_; rintro e wr8_0 ⟨rfl, xr8_0⟩; have Er8_0 : Ext V7 wr8_0 := (Ext.refl V7).drew.trans xr8_0)
        | (go_at_call_of 14 a1; refine (dadd_at A C S (HA1.out.old ((Ext.trans D1.out (Ext.trans D2.out (Ext.trans D3.out (Ext.trans D4.out (Ext.trans D5.out (Ext.trans D6.out (Ext.trans D7.out D8.out))))))).trans Er8_0)) (HA3.out.old ((Ext.trans D1.out (Ext.trans D2.out (Ext.trans D3.out (Ext.trans D4.out (Ext.trans D5.out (Ext.trans D6.out (Ext.trans D7.out D8.out))))))).trans Er8_0)) HQ1.out HQ3.out H_S.out (by omega) (by omega)).mono ?_; rintro e wr8_1 ⟨pr8_1, nr8_1, cr8_1, rfl, or8_1, xr8_1, lr8_1⟩; have Er8_1 : Ext V7 wr8_1 := Er8_0.trans xr8_1)
        | (go_at_call_of 14 a2; refine (dadd_at B C T (HA2.out.old ((Ext.trans D1.out (Ext.trans D2.out (Ext.trans D3.out (Ext.trans D4.out (Ext.trans D5.out (Ext.trans D6.out (Ext.trans D7.out D8.out))))))).trans Er8_1)) (HA3.out.old ((Ext.trans D1.out (Ext.trans D2.out (Ext.trans D3.out (Ext.trans D4.out (Ext.trans D5.out (Ext.trans D6.out (Ext.trans D7.out D8.out))))))).trans Er8_1)) HQ2.out HQ3.out H_T.out (by omega) (by omega)).mono ?_; rintro e wr8_2 ⟨pr8_2, nr8_2, cr8_2, rfl, or8_2, xr8_2, lr8_2⟩; have Er8_2 : Ext V7 wr8_2 := Er8_1.trans xr8_2)
        | (go_at_call_of 29 pr8_1; refine (dcmp_at S T q (or8_1.sl.old xr8_2) or8_2.sl (val_lim _) (val_lim _) F1.out (by omega) (by omega)).mono ?_; rintro e wr8_3 ⟨rfl, xr8_3⟩; have Er8_3 : Ext V7 wr8_3 := Er8_2.trans xr8_3)
        | (go_at_call 27; refine (dzero_at D zD (S6.out.old (D8.out.trans Er8_3)) (val_lim _) F6.out (by omega)).mono ?_; rintro e wr8_4 ⟨rfl, xr8_4⟩; have Er8_4 : Ext V7 wr8_4 := Er8_3.trans xr8_4))
    have x8 := Er8_4
    clear xr8_0 Er8_0 xr8_1 or8_1 Er8_1 xr8_2 or8_2 Er8_2 xr8_3 Er8_3 xr8_4 Er8_4
    have D9 := Lib.hid x8
    have EX9 := Lib.hid (EX8.out.trans x8)
    clear x8
    try clear W2
    have C9 := Lib.hid (dbasis_at nn BN HN.out H_BN.out wr8_4)
    go_wp2_with fail
    refine C9.out.mono ?_
    rintro e w9 ⟨p9, n9, c9, rfl, o9, x9, l9⟩
    have S9 := Lib.hid o9.sl
    clear o9
    have D10 := Lib.hid x9
    have EX10 := Lib.hid (EX9.out.trans x9)
    clear x9
    clear C9
    have C10 := Lib.hid (dtimes_at BN 10000 NN S9.out (val_lim _) F3.out (by omega) (by decide))
    go_wp2_with fail
    refine C10.out.mono ?_
    rintro e w10 ⟨p10, n10, c10, rfl, o10, x10, l10⟩
    have S10 := Lib.hid o10.sl
    clear o10
    have D11 := Lib.hid x10
    have EX11 := Lib.hid (EX10.out.trans x10)
    clear x10
    clear C10
    obtain ⟨V11, hV⟩ : ∃ V, w10.alloc (.cells #[.slice p10 n10 c10] 25) = V := ⟨_, rfl⟩
    have R11 := Lib.hid (show V11.heap[w10.heap.size]? = some (.cells #[.slice p10 n10 c10] 25 (0, 0)) by rw [← hV]; exact heap_alloc_new w10 _)
    have x11 : Ext w10 V11 := by rw [← hV]; exact (Ext.refl _).alloc _
    have HV11 := Lib.hid hV
    clear hV
    have D12 := Lib.hid x11
    have EX12 := Lib.hid (EX11.out.trans x11)
    clear x11
    have H12 : Hid (∀ w', Ext V11 w' → w'.cell? ⟨w10.heap.size, 0, none⟩ = some (.slice p10 n10 c10)) := Lib.hid (fun w' h => drow_cell (rowE h R11.out))
    go_wp2_with (rw [HV11.out])
    go_region_held3 (fun w' => w'.cell? ⟨w10.heap.size, 0, none⟩ = some (.slice p10 n10 c10))
      (first | exact H12.out _ (Ext.refl _) | exact H12.out _ (Ext.refl _).drew | exact H12.out _ (by assumption))
      (first
        | (go_at_call_of 21 nn; refine (dof_at nn NN HN.out H_NN.out _).mono ?_; rintro e wr12_0 ⟨pr12_0, nr12_0, cr12_0, rfl, or12_0, xr12_0, lr12_0⟩; have Er12_0 : Ext V11 wr12_0 := (Ext.refl V11).drew.trans xr12_0)
        | (go_at_call_of 29 p10; refine (dcmp_at NN NN 0 (S10.out.old (D12.out.trans Er12_0)) or12_0.sl (val_lim _) (val_lim _) (cmpN_eq rfl) (by omega) (by omega)).mono ?_; rintro e wr12_1 ⟨rfl, xr12_1⟩; have Er12_1 : Ext V11 wr12_1 := Er12_0.trans xr12_1)
        | (go_at_call 23; refine (dbasis_at 10000 U36 (by decide) F4.out _).mono ?_; rintro e wr12_2 ⟨pr12_2, nr12_2, cr12_2, rfl, or12_2, xr12_2, lr12_2⟩; have Er12_2 : Ext V11 wr12_2 := Er12_1.trans xr12_2)
        | (go_at_call 21; refine (dof_at 1 U36 (by decide) F5.out _).mono ?_; rintro e wr12_3 ⟨pr12_3, nr12_3, cr12_3, rfl, or12_3, xr12_3, lr12_3⟩; have Er12_3 : Ext V11 wr12_3 := Er12_2.trans xr12_3)
        | (go_at_call_of 29 pr12_2; refine (dcmp_at U36 U36 0 (or12_2.sl.old xr12_3) or12_3.sl (val_lim _) (val_lim _) (cmpN_eq rfl) (by omega) (by omega)).mono ?_; rintro e wr12_4 ⟨rfl, xr12_4⟩; have Er12_4 : Ext V11 wr12_4 := Er12_3.trans xr12_4))
    have x12 := Er12_4
    clear xr12_0 or12_0 Er12_0 xr12_1 Er12_1 xr12_2 or12_2 Er12_2 xr12_3 or12_3 Er12_3 xr12_4 Er12_4
    have D13 := Lib.hid x12
    have EX13 := Lib.hid (EX12.out.trans x12)
    clear x12
    go_wp2_with fail
    go_ret
    exact ⟨rfl, EX13.out⟩

end Go.Proofs.YtdafjajleglccaaGreatDoor
