/- gleanlaw2.DecRises: the walk. -/
import Derived.Test.YtdafjajleglccaaGreatDoorKnown2
import Derived.Test.YtdafjajleglccaaGreatDoorHelp2
import Derived.Test.YtdafjajleglccaaGreatDoorDGen
namespace Go.Proofs.YtdafjajleglccaaGreatDoor
open Go.RowKit Go.Lib

set_option maxHeartbeats 16000000 in
set_option maxRecDepth 100000 in
theorem rises_law {a1 a2 a3 a4 : Option Addr} {m1 c1 m2 c2 m3 c3 m4 c4 : Nat} {xs1 xs2 xs3 xs4 : List Nat} {w : World} (ha1 : Sl w a1 m1 c1 xs1) (ha2 : Sl w a2 m2 c2 xs2) (ha3 : Sl w a3 m3 c3 xs3) (ha4 : Sl w a4 m4 c4 xs4) {nn : Nat} (hnn : nn < B64) (htab : Tab w) (hM : MaxL w) :
    Calls Tryz.prog 7 #[DecV a1 m1 c1, DecV a2 m2 c2, DecV a3 m3 c3, DecV a4 m4 c4, .int .u64 (nn : Int)] w (RetE (.bool true) w) := by
  obtain ⟨A, hv1⟩ : ∃ X, val xs1 = X := ⟨_, rfl⟩
  obtain ⟨B, hv2⟩ : ∃ X, val xs2 = X := ⟨_, rfl⟩
  obtain ⟨C, hv3⟩ : ∃ X, val xs3 = X := ⟨_, rfl⟩
  obtain ⟨D, hv4⟩ : ∃ X, val xs4 = X := ⟨_, rfl⟩
  have HQ1 := Lib.hid hv1; have HA1 := Lib.hid ha1
  have HQ2 := Lib.hid hv2; have HA2 := Lib.hid ha2
  have HQ3 := Lib.hid hv3; have HA3 := Lib.hid ha3
  have HQ4 := Lib.hid hv4; have HA4 := Lib.hid ha4
  have HT := Lib.hid htab; have HM := Lib.hid hM
  clear hv1 ha1 hv2 ha2 hv3 ha3 hv4 ha4 htab hM
  have HN := Lib.hid hnn; clear hnn
  obtain ⟨V1, hV⟩ : ∃ V, w.alloc (.cells #[.slice a1 m1 c1] 25) = V := ⟨_, rfl⟩
  have R1 := Lib.hid (show V1.heap[w.heap.size]? = some (.cells #[.slice a1 m1 c1] 25 (0, 0)) by rw [← hV]; exact heap_alloc_new w _)
  have x1 : Ext w V1 := by rw [← hV]; exact (Ext.refl _).alloc _
  have HV1 := Lib.hid hV
  clear hV
  have D1 := Lib.hid x1
  have EX1 := Lib.hid x1
  clear x1
  obtain ⟨V2, hV⟩ : ∃ V, V1.alloc (.cells #[.slice a2 m2 c2] 25) = V := ⟨_, rfl⟩
  have R2 := Lib.hid (show V2.heap[V1.heap.size]? = some (.cells #[.slice a2 m2 c2] 25 (0, 0)) by rw [← hV]; exact heap_alloc_new V1 _)
  have x2 : Ext V1 V2 := by rw [← hV]; exact (Ext.refl _).alloc _
  have HV2 := Lib.hid hV
  clear hV
  have D2 := Lib.hid x2
  have EX2 := Lib.hid (EX1.out.trans x2)
  clear x2
  obtain ⟨V3, hV⟩ : ∃ V, V2.alloc (.cells #[.slice a3 m3 c3] 25) = V := ⟨_, rfl⟩
  have R3 := Lib.hid (show V3.heap[V2.heap.size]? = some (.cells #[.slice a3 m3 c3] 25 (0, 0)) by rw [← hV]; exact heap_alloc_new V2 _)
  have x3 : Ext V2 V3 := by rw [← hV]; exact (Ext.refl _).alloc _
  have HV3 := Lib.hid hV
  clear hV
  have D3 := Lib.hid x3
  have EX3 := Lib.hid (EX2.out.trans x3)
  clear x3
  obtain ⟨V4, hV⟩ : ∃ V, V3.alloc (.cells #[.slice a4 m4 c4] 25) = V := ⟨_, rfl⟩
  have R4 := Lib.hid (show V4.heap[V3.heap.size]? = some (.cells #[.slice a4 m4 c4] 25 (0, 0)) by rw [← hV]; exact heap_alloc_new V3 _)
  have x4 : Ext V3 V4 := by rw [← hV]; exact (Ext.refl _).alloc _
  have HV4 := Lib.hid hV
  clear hV
  have D4 := Lib.hid x4
  have EX4 := Lib.hid (EX3.out.trans x4)
  clear x4
  go_enter Tryz.func7, Tryz.ntmps7
  have C5 := Lib.hid (known2_calls V4 (HT.out.old EX4.out) (HM.out.old EX4.out))
  go_wp2_with (first | rw [HV1.out] | rw [HV2.out] | rw [HV3.out] | rw [HV4.out])
  refine C5.out.mono ?_
  rintro e w5 ⟨rfl, x5⟩
  have D5 := Lib.hid x5
  have EX5 := Lib.hid (EX4.out.trans x5)
  clear x5
  clear C5
  obtain ⟨Z, hZ⟩ : ∃ Z, w5.alloc (.cells #[.slice a1 m1 c1, .slice a2 m2 c2, .slice a3 m3 c3, .slice a4 m4 c4] 25) = Z := ⟨_, rfl⟩
  have hxz : Ext w5 Z := by rw [← hZ]; exact (Ext.refl _).alloc _
  by_cases h60 : m1 ≤ 40 ∧ m2 ≤ 40 ∧ m3 ≤ 40 ∧ m4 ≤ 40
  rotate_left
  · have HSM := Lib.hid (sd_no4 w5 (a1 := a1) (m1 := m1) (c1 := c1) (a2 := a2) (m2 := m2) (c2 := c2) (a3 := a3) (m3 := m3) (c3 := c3) (a4 := a4) (m4 := m4) (c4 := c4) h60)
    rw [hZ] at HSM
    have HZ := Lib.hid hZ; have HEZ := Lib.hid (EX5.out.trans hxz)
    clear hZ hxz
    have ja := drow_cell (rowE (Ext.trans D2.out (Ext.trans D3.out (Ext.trans D4.out D5.out))) R1.out)
    have jb := drow_cell (rowE (Ext.trans D3.out (Ext.trans D4.out D5.out)) R2.out)
    have jc := drow_cell (rowE (Ext.trans D4.out D5.out) R3.out)
    have jd := drow_cell (rowE D5.out R4.out)
    go_wp2_with (rw [HZ.out])
    refine HSM.out.mono ?_
    rintro e w' ⟨rfl, rfl⟩
    go_wp2_with fail
    go_ret
    exact ⟨rfl, HEZ.out⟩
  have HSM := Lib.hid (sd_yes4 w5 (a1 := a1) (m1 := m1) (c1 := c1) (a2 := a2) (m2 := m2) (c2 := c2) (a3 := a3) (m3 := m3) (c3 := c3) (a4 := a4) (m4 := m4) (c4 := c4) h60)
  rw [hZ] at HSM
  have HZ := Lib.hid hZ
  obtain ⟨q1, q2, q3, q4⟩ := h60
  clear hZ
  have ja := drow_cell (rowE (Ext.trans D2.out (Ext.trans D3.out (Ext.trans D4.out D5.out))) R1.out)
  have jb := drow_cell (rowE (Ext.trans D3.out (Ext.trans D4.out D5.out)) R2.out)
  have jc := drow_cell (rowE (Ext.trans D4.out D5.out) R3.out)
  have jd := drow_cell (rowE D5.out R4.out)
  have D6 := Lib.hid hxz
  have EX6 := Lib.hid (EX5.out.trans hxz)
  clear hxz
  go_wp2_with (rw [HZ.out])
  refine HSM.out.mono ?_
  rintro e w' ⟨rfl, rfl⟩
  clear HSM ja jb jc jd
  by_cases hAB : A ≤ B
  · have HAB := Lib.hid hAB; clear hAB
    obtain ⟨g0, g0a, g0b⟩ : ∃ g : Int, cmpN A B = g ∧ decide ((0 : Int) < g) = false := ⟨_, rfl, by rw [decide_eq_false_iff_not]; exact cmpN_le_zero HAB.out⟩
    have H_g0 := Lib.hid g0a; clear g0a
    have ja := drow_cell (rowE (Ext.trans D2.out (Ext.trans D3.out (Ext.trans D4.out (Ext.trans D5.out D6.out)))) R1.out)
    have jb := drow_cell (rowE (Ext.trans D3.out (Ext.trans D4.out (Ext.trans D5.out D6.out))) R2.out)
    have C6 := Lib.hid (dcmp_at A B g0 (HA1.out.old (Ext.trans D1.out (Ext.trans D2.out (Ext.trans D3.out (Ext.trans D4.out (Ext.trans D5.out D6.out)))))) (HA2.out.old (Ext.trans D1.out (Ext.trans D2.out (Ext.trans D3.out (Ext.trans D4.out (Ext.trans D5.out D6.out)))))) HQ1.out HQ2.out H_g0.out (by omega) (by omega))
    go_wp2_with fail
    refine C6.out.mono ?_
    rintro e w6 ⟨rfl, x6⟩
    clear ja jb
    have D7 := Lib.hid x6
    have EX7 := Lib.hid (EX6.out.trans x6)
    clear x6
    clear C6
    obtain ⟨X, h_X⟩ : ∃ x, qN false (A * U36) C = x := ⟨_, rfl⟩
    have H_X := Lib.hid h_X
    clear h_X
    obtain ⟨Y, h_Y⟩ : ∃ x, qN false (B * U36) C = x := ⟨_, rfl⟩
    have H_Y := Lib.hid h_Y
    clear h_Y
    obtain ⟨U, h_U⟩ : ∃ x, qN false (A * D) C = x := ⟨_, rfl⟩
    have H_U := Lib.hid h_U
    clear h_U
    obtain ⟨V, h_V⟩ : ∃ x, qN false (B * D) C = x := ⟨_, rfl⟩
    have H_V := Lib.hid h_V
    clear h_V
    obtain ⟨P, h_P⟩ : ∃ x, qN false A nn = x := ⟨_, rfl⟩
    have H_P := Lib.hid h_P
    clear h_P
    obtain ⟨Q, h_Q⟩ : ∃ x, qN false B nn = x := ⟨_, rfl⟩
    have H_Q := Lib.hid h_Q
    clear h_Q
    obtain ⟨er, h_er⟩ : ∃ x, rdE C = x := ⟨_, rfl⟩
    have H_er := Lib.hid h_er
    clear h_er
    obtain ⟨en, h_en⟩ : ∃ x, rdE nn = x := ⟨_, rfl⟩
    have H_en := Lib.hid h_en
    clear h_en
    obtain ⟨F, h_F⟩ : ∃ x, A * C / U36 = x := ⟨_, rfl⟩
    have H_F := Lib.hid h_F
    clear h_F
    obtain ⟨G, h_G⟩ : ∃ x, B * C / U36 = x := ⟨_, rfl⟩
    have H_G := Lib.hid h_G
    clear h_G
    obtain ⟨S, h_S⟩ : ∃ x, A + C = x := ⟨_, rfl⟩
    have H_S := Lib.hid h_S
    clear h_S
    obtain ⟨T, h_T⟩ : ∃ x, B + C = x := ⟨_, rfl⟩
    have H_T := Lib.hid h_T
    clear h_T
    have L1 := Lib.hid (show X ≤ Y from by rw [← H_X.out, ← H_Y.out]; exact qN_mono _ (Nat.mul_le_mul_right _ HAB.out))
    have L2 := Lib.hid (show U ≤ V from by rw [← H_U.out, ← H_V.out]; exact qN_mono _ (Nat.mul_le_mul_right _ HAB.out))
    have L3 := Lib.hid (show P ≤ Q from by rw [← H_P.out, ← H_Q.out]; exact qN_mono _ HAB.out)
    have L4 := Lib.hid (show F ≤ G from by rw [← H_F.out, ← H_G.out]; exact Nat.div_le_div_right (Nat.mul_le_mul_right _ HAB.out))
    have L5 := Lib.hid (show S ≤ T from by rw [← H_S.out, ← H_T.out]; exact Nat.add_le_add_right HAB.out _)
    obtain ⟨g1, g1a, g1b, g1c⟩ : ∃ g : Int, cmpN X Y = g ∧ decide (g ≤ 0) = true ∧ g ≤ 0 := ⟨_, rfl, by rw [decide_eq_true_iff]; have := cmpN_le_zero L1.out; omega, by have := cmpN_le_zero L1.out; omega⟩
    have H_g1 := Lib.hid g1a; clear g1a
    obtain ⟨g2, g2a, g2b, g2c⟩ : ∃ g : Int, cmpN U V = g ∧ decide (g ≤ 0) = true ∧ g ≤ 0 := ⟨_, rfl, by rw [decide_eq_true_iff]; have := cmpN_le_zero L2.out; omega, by have := cmpN_le_zero L2.out; omega⟩
    have H_g2 := Lib.hid g2a; clear g2a
    obtain ⟨g3, g3a, g3b, g3c⟩ : ∃ g : Int, cmpN P Q = g ∧ decide (g ≤ 0) = true ∧ g ≤ 0 := ⟨_, rfl, by rw [decide_eq_true_iff]; have := cmpN_le_zero L3.out; omega, by have := cmpN_le_zero L3.out; omega⟩
    have H_g3 := Lib.hid g3a; clear g3a
    obtain ⟨g4, g4a, g4b, g4c⟩ : ∃ g : Int, cmpN F G = g ∧ decide (g ≤ 0) = true ∧ g ≤ 0 := ⟨_, rfl, by rw [decide_eq_true_iff]; have := cmpN_le_zero L4.out; omega, by have := cmpN_le_zero L4.out; omega⟩
    have H_g4 := Lib.hid g4a; clear g4a
    obtain ⟨g5, g5a, g5b, g5c⟩ : ∃ g : Int, cmpN S T = g ∧ decide (g ≤ 0) = true ∧ g ≤ 0 := ⟨_, rfl, by rw [decide_eq_true_iff]; have := cmpN_le_zero L5.out; omega, by have := cmpN_le_zero L5.out; omega⟩
    have H_g5 := Lib.hid g5a; clear g5a
    have ja := drow_cell (rowE (Ext.trans D2.out (Ext.trans D3.out (Ext.trans D4.out (Ext.trans D5.out (Ext.trans D6.out D7.out))))) R1.out)
    have jc := drow_cell (rowE (Ext.trans D4.out (Ext.trans D5.out (Ext.trans D6.out D7.out))) R3.out)
    have C7 := Lib.hid (dquo_gen A C X er (HA1.out.old (Ext.trans D1.out (Ext.trans D2.out (Ext.trans D3.out (Ext.trans D4.out (Ext.trans D5.out (Ext.trans D6.out D7.out))))))) (HA3.out.old (Ext.trans D1.out (Ext.trans D2.out (Ext.trans D3.out (Ext.trans D4.out (Ext.trans D5.out (Ext.trans D6.out D7.out))))))) HQ1.out HQ3.out H_X.out H_er.out (by omega) (by omega))
    go_wp2_with fail
    refine C7.out.mono ?_
    rintro e w7 ⟨p7, n7, c7, rfl, o7, x7, l7⟩
    clear ja jc
    have S7 := Lib.hid o7.sl
    clear o7
    have D8 := Lib.hid x7
    have EX8 := Lib.hid (EX7.out.trans x7)
    clear x7
    clear C7
    obtain ⟨V8, hV⟩ : ∃ V, w7.alloc (.cells #[.slice p7 n7 c7] 25) = V := ⟨_, rfl⟩
    have R8 := Lib.hid (show V8.heap[w7.heap.size]? = some (.cells #[.slice p7 n7 c7] 25 (0, 0)) by rw [← hV]; exact heap_alloc_new w7 _)
    have x8 : Ext w7 V8 := by rw [← hV]; exact (Ext.refl _).alloc _
    have HV8 := Lib.hid hV
    clear hV
    have D9 := Lib.hid x8
    have EX9 := Lib.hid (EX8.out.trans x8)
    clear x8
    have jb := drow_cell (rowE (Ext.trans D3.out (Ext.trans D4.out (Ext.trans D5.out (Ext.trans D6.out (Ext.trans D7.out (Ext.trans D8.out D9.out)))))) R2.out)
    have jc := drow_cell (rowE (Ext.trans D4.out (Ext.trans D5.out (Ext.trans D6.out (Ext.trans D7.out (Ext.trans D8.out D9.out))))) R3.out)
    have C9 := Lib.hid (dquo_gen B C Y er (HA2.out.old (Ext.trans D1.out (Ext.trans D2.out (Ext.trans D3.out (Ext.trans D4.out (Ext.trans D5.out (Ext.trans D6.out (Ext.trans D7.out (Ext.trans D8.out D9.out))))))))) (HA3.out.old (Ext.trans D1.out (Ext.trans D2.out (Ext.trans D3.out (Ext.trans D4.out (Ext.trans D5.out (Ext.trans D6.out (Ext.trans D7.out (Ext.trans D8.out D9.out))))))))) HQ2.out HQ3.out H_Y.out H_er.out (by omega) (by omega))
    go_wp2_with (rw [HV8.out])
    refine C9.out.mono ?_
    rintro e w9 ⟨p9, n9, c9, rfl, o9, x9, l9⟩
    clear jb jc
    have S9 := Lib.hid o9.sl
    clear o9
    have D10 := Lib.hid x9
    have EX10 := Lib.hid (EX9.out.trans x9)
    clear x9
    clear C9
    obtain ⟨V10, hV⟩ : ∃ V, w9.alloc (.cells #[.slice p9 n9 c9] 25) = V := ⟨_, rfl⟩
    have R10 := Lib.hid (show V10.heap[w9.heap.size]? = some (.cells #[.slice p9 n9 c9] 25 (0, 0)) by rw [← hV]; exact heap_alloc_new w9 _)
    have x10 : Ext w9 V10 := by rw [← hV]; exact (Ext.refl _).alloc _
    have HV10 := Lib.hid hV
    clear hV
    have D11 := Lib.hid x10
    have EX11 := Lib.hid (EX10.out.trans x10)
    clear x10
    have ja := drow_cell (rowE (Ext.trans D2.out (Ext.trans D3.out (Ext.trans D4.out (Ext.trans D5.out (Ext.trans D6.out (Ext.trans D7.out (Ext.trans D8.out (Ext.trans D9.out (Ext.trans D10.out D11.out))))))))) R1.out)
    have jd := drow_cell (rowE (Ext.trans D5.out (Ext.trans D6.out (Ext.trans D7.out (Ext.trans D8.out (Ext.trans D9.out (Ext.trans D10.out D11.out)))))) R4.out)
    have jc := drow_cell (rowE (Ext.trans D4.out (Ext.trans D5.out (Ext.trans D6.out (Ext.trans D7.out (Ext.trans D8.out (Ext.trans D9.out (Ext.trans D10.out D11.out))))))) R3.out)
    have C11 := Lib.hid (dmuldiv_gen A D C U er (HA1.out.old (Ext.trans D1.out (Ext.trans D2.out (Ext.trans D3.out (Ext.trans D4.out (Ext.trans D5.out (Ext.trans D6.out (Ext.trans D7.out (Ext.trans D8.out (Ext.trans D9.out (Ext.trans D10.out D11.out))))))))))) (HA4.out.old (Ext.trans D1.out (Ext.trans D2.out (Ext.trans D3.out (Ext.trans D4.out (Ext.trans D5.out (Ext.trans D6.out (Ext.trans D7.out (Ext.trans D8.out (Ext.trans D9.out (Ext.trans D10.out D11.out))))))))))) (HA3.out.old (Ext.trans D1.out (Ext.trans D2.out (Ext.trans D3.out (Ext.trans D4.out (Ext.trans D5.out (Ext.trans D6.out (Ext.trans D7.out (Ext.trans D8.out (Ext.trans D9.out (Ext.trans D10.out D11.out))))))))))) HQ1.out HQ4.out HQ3.out H_U.out H_er.out (by omega) (by omega) (by omega))
    go_wp2_with (rw [HV10.out])
    refine C11.out.mono ?_
    rintro e w11 ⟨p11, n11, c11, rfl, o11, x11, l11⟩
    clear ja jd jc
    have S11 := Lib.hid o11.sl
    clear o11
    have D12 := Lib.hid x11
    have EX12 := Lib.hid (EX11.out.trans x11)
    clear x11
    clear C11
    obtain ⟨V12, hV⟩ : ∃ V, w11.alloc (.cells #[.slice p11 n11 c11] 25) = V := ⟨_, rfl⟩
    have R12 := Lib.hid (show V12.heap[w11.heap.size]? = some (.cells #[.slice p11 n11 c11] 25 (0, 0)) by rw [← hV]; exact heap_alloc_new w11 _)
    have x12 : Ext w11 V12 := by rw [← hV]; exact (Ext.refl _).alloc _
    have HV12 := Lib.hid hV
    clear hV
    have D13 := Lib.hid x12
    have EX13 := Lib.hid (EX12.out.trans x12)
    clear x12
    have jb := drow_cell (rowE (Ext.trans D3.out (Ext.trans D4.out (Ext.trans D5.out (Ext.trans D6.out (Ext.trans D7.out (Ext.trans D8.out (Ext.trans D9.out (Ext.trans D10.out (Ext.trans D11.out (Ext.trans D12.out D13.out)))))))))) R2.out)
    have jd := drow_cell (rowE (Ext.trans D5.out (Ext.trans D6.out (Ext.trans D7.out (Ext.trans D8.out (Ext.trans D9.out (Ext.trans D10.out (Ext.trans D11.out (Ext.trans D12.out D13.out)))))))) R4.out)
    have jc := drow_cell (rowE (Ext.trans D4.out (Ext.trans D5.out (Ext.trans D6.out (Ext.trans D7.out (Ext.trans D8.out (Ext.trans D9.out (Ext.trans D10.out (Ext.trans D11.out (Ext.trans D12.out D13.out))))))))) R3.out)
    have C13 := Lib.hid (dmuldiv_gen B D C V er (HA2.out.old (Ext.trans D1.out (Ext.trans D2.out (Ext.trans D3.out (Ext.trans D4.out (Ext.trans D5.out (Ext.trans D6.out (Ext.trans D7.out (Ext.trans D8.out (Ext.trans D9.out (Ext.trans D10.out (Ext.trans D11.out (Ext.trans D12.out D13.out))))))))))))) (HA4.out.old (Ext.trans D1.out (Ext.trans D2.out (Ext.trans D3.out (Ext.trans D4.out (Ext.trans D5.out (Ext.trans D6.out (Ext.trans D7.out (Ext.trans D8.out (Ext.trans D9.out (Ext.trans D10.out (Ext.trans D11.out (Ext.trans D12.out D13.out))))))))))))) (HA3.out.old (Ext.trans D1.out (Ext.trans D2.out (Ext.trans D3.out (Ext.trans D4.out (Ext.trans D5.out (Ext.trans D6.out (Ext.trans D7.out (Ext.trans D8.out (Ext.trans D9.out (Ext.trans D10.out (Ext.trans D11.out (Ext.trans D12.out D13.out))))))))))))) HQ2.out HQ4.out HQ3.out H_V.out H_er.out (by omega) (by omega) (by omega))
    go_wp2_with (rw [HV12.out])
    refine C13.out.mono ?_
    rintro e w13 ⟨p13, n13, c13, rfl, o13, x13, l13⟩
    clear jb jd jc
    have S13 := Lib.hid o13.sl
    clear o13
    have D14 := Lib.hid x13
    have EX14 := Lib.hid (EX13.out.trans x13)
    clear x13
    clear C13
    obtain ⟨V14, hV⟩ : ∃ V, w13.alloc (.cells #[.slice p13 n13 c13] 25) = V := ⟨_, rfl⟩
    have R14 := Lib.hid (show V14.heap[w13.heap.size]? = some (.cells #[.slice p13 n13 c13] 25 (0, 0)) by rw [← hV]; exact heap_alloc_new w13 _)
    have x14 : Ext w13 V14 := by rw [← hV]; exact (Ext.refl _).alloc _
    have HV14 := Lib.hid hV
    clear hV
    have D15 := Lib.hid x14
    have EX15 := Lib.hid (EX14.out.trans x14)
    clear x14
    have ja := drow_cell (rowE (Ext.trans D2.out (Ext.trans D3.out (Ext.trans D4.out (Ext.trans D5.out (Ext.trans D6.out (Ext.trans D7.out (Ext.trans D8.out (Ext.trans D9.out (Ext.trans D10.out (Ext.trans D11.out (Ext.trans D12.out (Ext.trans D13.out (Ext.trans D14.out D15.out))))))))))))) R1.out)
    have C15 := Lib.hid (dover_gen A nn P en (HA1.out.old (Ext.trans D1.out (Ext.trans D2.out (Ext.trans D3.out (Ext.trans D4.out (Ext.trans D5.out (Ext.trans D6.out (Ext.trans D7.out (Ext.trans D8.out (Ext.trans D9.out (Ext.trans D10.out (Ext.trans D11.out (Ext.trans D12.out (Ext.trans D13.out (Ext.trans D14.out D15.out))))))))))))))) HQ1.out H_P.out H_en.out (by omega) HN.out)
    go_wp2_with (rw [HV14.out])
    refine C15.out.mono ?_
    rintro e w15 ⟨p15, n15, c15, rfl, o15, x15, l15⟩
    clear ja
    have S15 := Lib.hid o15.sl
    clear o15
    have D16 := Lib.hid x15
    have EX16 := Lib.hid (EX15.out.trans x15)
    clear x15
    clear C15
    obtain ⟨V16, hV⟩ : ∃ V, w15.alloc (.cells #[.slice p15 n15 c15] 25) = V := ⟨_, rfl⟩
    have R16 := Lib.hid (show V16.heap[w15.heap.size]? = some (.cells #[.slice p15 n15 c15] 25 (0, 0)) by rw [← hV]; exact heap_alloc_new w15 _)
    have x16 : Ext w15 V16 := by rw [← hV]; exact (Ext.refl _).alloc _
    have HV16 := Lib.hid hV
    clear hV
    have D17 := Lib.hid x16
    have EX17 := Lib.hid (EX16.out.trans x16)
    clear x16
    have jb := drow_cell (rowE (Ext.trans D3.out (Ext.trans D4.out (Ext.trans D5.out (Ext.trans D6.out (Ext.trans D7.out (Ext.trans D8.out (Ext.trans D9.out (Ext.trans D10.out (Ext.trans D11.out (Ext.trans D12.out (Ext.trans D13.out (Ext.trans D14.out (Ext.trans D15.out (Ext.trans D16.out D17.out)))))))))))))) R2.out)
    have C17 := Lib.hid (dover_gen B nn Q en (HA2.out.old (Ext.trans D1.out (Ext.trans D2.out (Ext.trans D3.out (Ext.trans D4.out (Ext.trans D5.out (Ext.trans D6.out (Ext.trans D7.out (Ext.trans D8.out (Ext.trans D9.out (Ext.trans D10.out (Ext.trans D11.out (Ext.trans D12.out (Ext.trans D13.out (Ext.trans D14.out (Ext.trans D15.out (Ext.trans D16.out D17.out))))))))))))))))) HQ2.out H_Q.out H_en.out (by omega) HN.out)
    go_wp2_with (rw [HV16.out])
    refine C17.out.mono ?_
    rintro e w17 ⟨p17, n17, c17, rfl, o17, x17, l17⟩
    clear jb
    have S17 := Lib.hid o17.sl
    clear o17
    have D18 := Lib.hid x17
    have EX18 := Lib.hid (EX17.out.trans x17)
    clear x17
    clear C17
    obtain ⟨V18, hV⟩ : ∃ V, w17.alloc (.cells #[.slice p17 n17 c17] 25) = V := ⟨_, rfl⟩
    have R18 := Lib.hid (show V18.heap[w17.heap.size]? = some (.cells #[.slice p17 n17 c17] 25 (0, 0)) by rw [← hV]; exact heap_alloc_new w17 _)
    have x18 : Ext w17 V18 := by rw [← hV]; exact (Ext.refl _).alloc _
    have HV18 := Lib.hid hV
    clear hV
    have D19 := Lib.hid x18
    have EX19 := Lib.hid (EX18.out.trans x18)
    clear x18
    have H19 : Hid (∀ w', Ext V18 w' → w'.cell? ⟨w7.heap.size, 0, none⟩ = some (.slice p7 n7 c7) ∧ w'.cell? ⟨w9.heap.size, 0, none⟩ = some (.slice p9 n9 c9) ∧ w'.cell? ⟨w11.heap.size, 0, none⟩ = some (.slice p11 n11 c11) ∧ w'.cell? ⟨w13.heap.size, 0, none⟩ = some (.slice p13 n13 c13) ∧ w'.cell? ⟨w15.heap.size, 0, none⟩ = some (.slice p15 n15 c15) ∧ w'.cell? ⟨w17.heap.size, 0, none⟩ = some (.slice p17 n17 c17) ∧ w'.cell? ⟨w.heap.size, 0, none⟩ = some (.slice a1 m1 c1) ∧ w'.cell? ⟨V1.heap.size, 0, none⟩ = some (.slice a2 m2 c2) ∧ w'.cell? ⟨V2.heap.size, 0, none⟩ = some (.slice a3 m3 c3)) := Lib.hid (fun w' h => ⟨drow_cell (rowE (Ext.trans (Ext.trans D10.out (Ext.trans D11.out (Ext.trans D12.out (Ext.trans D13.out (Ext.trans D14.out (Ext.trans D15.out (Ext.trans D16.out (Ext.trans D17.out (Ext.trans D18.out D19.out))))))))) h) R8.out), drow_cell (rowE (Ext.trans (Ext.trans D12.out (Ext.trans D13.out (Ext.trans D14.out (Ext.trans D15.out (Ext.trans D16.out (Ext.trans D17.out (Ext.trans D18.out D19.out))))))) h) R10.out), drow_cell (rowE (Ext.trans (Ext.trans D14.out (Ext.trans D15.out (Ext.trans D16.out (Ext.trans D17.out (Ext.trans D18.out D19.out))))) h) R12.out), drow_cell (rowE (Ext.trans (Ext.trans D16.out (Ext.trans D17.out (Ext.trans D18.out D19.out))) h) R14.out), drow_cell (rowE (Ext.trans (Ext.trans D18.out D19.out) h) R16.out), drow_cell (rowE h R18.out), drow_cell (rowE (Ext.trans (Ext.trans D2.out (Ext.trans D3.out (Ext.trans D4.out (Ext.trans D5.out (Ext.trans D6.out (Ext.trans D7.out (Ext.trans D8.out (Ext.trans D9.out (Ext.trans D10.out (Ext.trans D11.out (Ext.trans D12.out (Ext.trans D13.out (Ext.trans D14.out (Ext.trans D15.out (Ext.trans D16.out (Ext.trans D17.out (Ext.trans D18.out D19.out))))))))))))))))) h) R1.out), drow_cell (rowE (Ext.trans (Ext.trans D3.out (Ext.trans D4.out (Ext.trans D5.out (Ext.trans D6.out (Ext.trans D7.out (Ext.trans D8.out (Ext.trans D9.out (Ext.trans D10.out (Ext.trans D11.out (Ext.trans D12.out (Ext.trans D13.out (Ext.trans D14.out (Ext.trans D15.out (Ext.trans D16.out (Ext.trans D17.out (Ext.trans D18.out D19.out)))))))))))))))) h) R2.out), drow_cell (rowE (Ext.trans (Ext.trans D4.out (Ext.trans D5.out (Ext.trans D6.out (Ext.trans D7.out (Ext.trans D8.out (Ext.trans D9.out (Ext.trans D10.out (Ext.trans D11.out (Ext.trans D12.out (Ext.trans D13.out (Ext.trans D14.out (Ext.trans D15.out (Ext.trans D16.out (Ext.trans D17.out (Ext.trans D18.out D19.out))))))))))))))) h) R3.out)⟩)
    go_wp2_with (rw [HV18.out])
    go_region_held3 (fun w' => w'.cell? ⟨w7.heap.size, 0, none⟩ = some (.slice p7 n7 c7) ∧ w'.cell? ⟨w9.heap.size, 0, none⟩ = some (.slice p9 n9 c9) ∧ w'.cell? ⟨w11.heap.size, 0, none⟩ = some (.slice p11 n11 c11) ∧ w'.cell? ⟨w13.heap.size, 0, none⟩ = some (.slice p13 n13 c13) ∧ w'.cell? ⟨w15.heap.size, 0, none⟩ = some (.slice p15 n15 c15) ∧ w'.cell? ⟨w17.heap.size, 0, none⟩ = some (.slice p17 n17 c17) ∧ w'.cell? ⟨w.heap.size, 0, none⟩ = some (.slice a1 m1 c1) ∧ w'.cell? ⟨V1.heap.size, 0, none⟩ = some (.slice a2 m2 c2) ∧ w'.cell? ⟨V2.heap.size, 0, none⟩ = some (.slice a3 m3 c3))
      (first | exact H19.out _ (Ext.refl _) | exact H19.out _ (Ext.refl _).drew | exact H19.out _ (by assumption))
      (first
        | (go_at_call_of 29 p7; refine (dcmp_at X Y g1 (S7.out.old ((Ext.trans D9.out (Ext.trans D10.out (Ext.trans D11.out (Ext.trans D12.out (Ext.trans D13.out (Ext.trans D14.out (Ext.trans D15.out (Ext.trans D16.out (Ext.trans D17.out (Ext.trans D18.out D19.out)))))))))).trans (Ext.refl V18).drew)) (S9.out.old ((Ext.trans D11.out (Ext.trans D12.out (Ext.trans D13.out (Ext.trans D14.out (Ext.trans D15.out (Ext.trans D16.out (Ext.trans D17.out (Ext.trans D18.out D19.out)))))))).trans (Ext.refl V18).drew)) (val_lim _) (val_lim _) H_g1.out (by omega) (by omega)).mono ?_; rintro e wr19_0 ⟨rfl, xr19_0⟩; have Er19_0 : Ext V18 wr19_0 := (Ext.refl V18).drew.trans xr19_0)
        | (go_at_call_of 29 p11; refine (dcmp_at U V g2 (S11.out.old ((Ext.trans D13.out (Ext.trans D14.out (Ext.trans D15.out (Ext.trans D16.out (Ext.trans D17.out (Ext.trans D18.out D19.out)))))).trans Er19_0)) (S13.out.old ((Ext.trans D15.out (Ext.trans D16.out (Ext.trans D17.out (Ext.trans D18.out D19.out)))).trans Er19_0)) (val_lim _) (val_lim _) H_g2.out (by omega) (by omega)).mono ?_; rintro e wr19_1 ⟨rfl, xr19_1⟩; have Er19_1 : Ext V18 wr19_1 := Er19_0.trans xr19_1)
        | (go_at_call_of 29 p15; refine (dcmp_at P Q g3 (S15.out.old ((Ext.trans D17.out (Ext.trans D18.out D19.out)).trans Er19_1)) (S17.out.old (D19.out.trans Er19_1)) (val_lim _) (val_lim _) H_g3.out (by omega) (by omega)).mono ?_; rintro e wr19_2 ⟨rfl, xr19_2⟩; have Er19_2 : Ext V18 wr19_2 := Er19_1.trans xr19_2)
        | (go_at_call_of 42 a1; refine (dmul_at A C F (HA1.out.old ((Ext.trans D1.out (Ext.trans D2.out (Ext.trans D3.out (Ext.trans D4.out (Ext.trans D5.out (Ext.trans D6.out (Ext.trans D7.out (Ext.trans D8.out (Ext.trans D9.out (Ext.trans D10.out (Ext.trans D11.out (Ext.trans D12.out (Ext.trans D13.out (Ext.trans D14.out (Ext.trans D15.out (Ext.trans D16.out (Ext.trans D17.out (Ext.trans D18.out D19.out)))))))))))))))))).trans Er19_2)) (HA3.out.old ((Ext.trans D1.out (Ext.trans D2.out (Ext.trans D3.out (Ext.trans D4.out (Ext.trans D5.out (Ext.trans D6.out (Ext.trans D7.out (Ext.trans D8.out (Ext.trans D9.out (Ext.trans D10.out (Ext.trans D11.out (Ext.trans D12.out (Ext.trans D13.out (Ext.trans D14.out (Ext.trans D15.out (Ext.trans D16.out (Ext.trans D17.out (Ext.trans D18.out D19.out)))))))))))))))))).trans Er19_2)) HQ1.out HQ3.out H_F.out (by omega) (by omega)).mono ?_; rintro e wr19_3 ⟨pr19_3, nr19_3, cr19_3, rfl, or19_3, xr19_3, lr19_3⟩; have Er19_3 : Ext V18 wr19_3 := Er19_2.trans xr19_3)
        | (go_at_call_of 42 a2; refine (dmul_at B C G (HA2.out.old ((Ext.trans D1.out (Ext.trans D2.out (Ext.trans D3.out (Ext.trans D4.out (Ext.trans D5.out (Ext.trans D6.out (Ext.trans D7.out (Ext.trans D8.out (Ext.trans D9.out (Ext.trans D10.out (Ext.trans D11.out (Ext.trans D12.out (Ext.trans D13.out (Ext.trans D14.out (Ext.trans D15.out (Ext.trans D16.out (Ext.trans D17.out (Ext.trans D18.out D19.out)))))))))))))))))).trans Er19_3)) (HA3.out.old ((Ext.trans D1.out (Ext.trans D2.out (Ext.trans D3.out (Ext.trans D4.out (Ext.trans D5.out (Ext.trans D6.out (Ext.trans D7.out (Ext.trans D8.out (Ext.trans D9.out (Ext.trans D10.out (Ext.trans D11.out (Ext.trans D12.out (Ext.trans D13.out (Ext.trans D14.out (Ext.trans D15.out (Ext.trans D16.out (Ext.trans D17.out (Ext.trans D18.out D19.out)))))))))))))))))).trans Er19_3)) HQ2.out HQ3.out H_G.out (by omega) (by omega)).mono ?_; rintro e wr19_4 ⟨pr19_4, nr19_4, cr19_4, rfl, or19_4, xr19_4, lr19_4⟩; have Er19_4 : Ext V18 wr19_4 := Er19_3.trans xr19_4)
        | (go_at_call_of 29 pr19_3; refine (dcmp_at F G g4 (or19_3.sl.old xr19_4) or19_4.sl (val_lim _) (val_lim _) H_g4.out (by omega) (by omega)).mono ?_; rintro e wr19_5 ⟨rfl, xr19_5⟩; have Er19_5 : Ext V18 wr19_5 := Er19_4.trans xr19_5)
        | (go_at_call_of 14 a1; refine (dadd_at A C S (HA1.out.old ((Ext.trans D1.out (Ext.trans D2.out (Ext.trans D3.out (Ext.trans D4.out (Ext.trans D5.out (Ext.trans D6.out (Ext.trans D7.out (Ext.trans D8.out (Ext.trans D9.out (Ext.trans D10.out (Ext.trans D11.out (Ext.trans D12.out (Ext.trans D13.out (Ext.trans D14.out (Ext.trans D15.out (Ext.trans D16.out (Ext.trans D17.out (Ext.trans D18.out D19.out)))))))))))))))))).trans Er19_5)) (HA3.out.old ((Ext.trans D1.out (Ext.trans D2.out (Ext.trans D3.out (Ext.trans D4.out (Ext.trans D5.out (Ext.trans D6.out (Ext.trans D7.out (Ext.trans D8.out (Ext.trans D9.out (Ext.trans D10.out (Ext.trans D11.out (Ext.trans D12.out (Ext.trans D13.out (Ext.trans D14.out (Ext.trans D15.out (Ext.trans D16.out (Ext.trans D17.out (Ext.trans D18.out D19.out)))))))))))))))))).trans Er19_5)) HQ1.out HQ3.out H_S.out (by omega) (by omega)).mono ?_; rintro e wr19_6 ⟨pr19_6, nr19_6, cr19_6, rfl, or19_6, xr19_6, lr19_6⟩; have Er19_6 : Ext V18 wr19_6 := Er19_5.trans xr19_6)
        | (go_at_call_of 14 a2; refine (dadd_at B C T (HA2.out.old ((Ext.trans D1.out (Ext.trans D2.out (Ext.trans D3.out (Ext.trans D4.out (Ext.trans D5.out (Ext.trans D6.out (Ext.trans D7.out (Ext.trans D8.out (Ext.trans D9.out (Ext.trans D10.out (Ext.trans D11.out (Ext.trans D12.out (Ext.trans D13.out (Ext.trans D14.out (Ext.trans D15.out (Ext.trans D16.out (Ext.trans D17.out (Ext.trans D18.out D19.out)))))))))))))))))).trans Er19_6)) (HA3.out.old ((Ext.trans D1.out (Ext.trans D2.out (Ext.trans D3.out (Ext.trans D4.out (Ext.trans D5.out (Ext.trans D6.out (Ext.trans D7.out (Ext.trans D8.out (Ext.trans D9.out (Ext.trans D10.out (Ext.trans D11.out (Ext.trans D12.out (Ext.trans D13.out (Ext.trans D14.out (Ext.trans D15.out (Ext.trans D16.out (Ext.trans D17.out (Ext.trans D18.out D19.out)))))))))))))))))).trans Er19_6)) HQ2.out HQ3.out H_T.out (by omega) (by omega)).mono ?_; rintro e wr19_7 ⟨pr19_7, nr19_7, cr19_7, rfl, or19_7, xr19_7, lr19_7⟩; have Er19_7 : Ext V18 wr19_7 := Er19_6.trans xr19_7)
        | (go_at_call_of 29 pr19_6; refine (dcmp_at S T g5 (or19_6.sl.old xr19_7) or19_7.sl (val_lim _) (val_lim _) H_g5.out (by omega) (by omega)).mono ?_; rintro e wr19_8 ⟨rfl, xr19_8⟩; have Er19_8 : Ext V18 wr19_8 := Er19_7.trans xr19_8))
    have x19 := Er19_8
    clear xr19_0 Er19_0 xr19_1 Er19_1 xr19_2 Er19_2 xr19_3 or19_3 Er19_3 xr19_4 or19_4 Er19_4 xr19_5 Er19_5 xr19_6 or19_6 Er19_6 xr19_7 or19_7 Er19_7 xr19_8 Er19_8
    have D20 := Lib.hid x19
    have EX20 := Lib.hid (EX19.out.trans x19)
    clear x19
    go_wp2_with fail
    go_ret
    exact ⟨by first | rfl | (rw [g5b]; rfl), EX20.out⟩
  · have HAB := Lib.hid (Nat.le_of_lt (Nat.lt_of_not_le hAB))
    have HG0 := Lib.hid (cmpN_gt (Nat.lt_of_not_le hAB)); clear hAB
    have ja := drow_cell (rowE (Ext.trans D2.out (Ext.trans D3.out (Ext.trans D4.out (Ext.trans D5.out D6.out)))) R1.out)
    have jb := drow_cell (rowE (Ext.trans D3.out (Ext.trans D4.out (Ext.trans D5.out D6.out))) R2.out)
    have C6 := Lib.hid (dcmp_at A B 1 (HA1.out.old (Ext.trans D1.out (Ext.trans D2.out (Ext.trans D3.out (Ext.trans D4.out (Ext.trans D5.out D6.out)))))) (HA2.out.old (Ext.trans D1.out (Ext.trans D2.out (Ext.trans D3.out (Ext.trans D4.out (Ext.trans D5.out D6.out)))))) HQ1.out HQ2.out HG0.out (by omega) (by omega))
    go_wp2_with fail
    refine C6.out.mono ?_
    rintro e w6 ⟨rfl, x6⟩
    clear ja jb
    have D7 := Lib.hid x6
    have EX7 := Lib.hid (EX6.out.trans x6)
    clear x6
    clear C6
    have ra := rowE (Ext.trans D2.out (Ext.trans D3.out (Ext.trans D4.out (Ext.trans D5.out (Ext.trans D6.out D7.out))))) R1.out
    have rb := rowE (Ext.trans D3.out (Ext.trans D4.out (Ext.trans D5.out (Ext.trans D6.out D7.out)))) R2.out
    have rc := rowE (Ext.trans D4.out (Ext.trans D5.out (Ext.trans D6.out D7.out))) R3.out
    have rd := rowE (Ext.trans D5.out (Ext.trans D6.out D7.out)) R4.out
    have j1 := drow_cell ra; have j2 := drow_cell rb; have j3 := row_free ra; have j4 := row_free rb
    have s1 : V1.heap.size = w.heap.size + 1 := by rw [← HV1.out, alloc_size]
    have s2 : V2.heap.size = V1.heap.size + 1 := by rw [← HV2.out, alloc_size]
    have s3 : V3.heap.size = V2.heap.size + 1 := by rw [← HV3.out, alloc_size]
    have rb2 : (w6.setCell ⟨w.heap.size, 0, none⟩ (.slice a2 m2 c2)).heap[V1.heap.size]? = some (.cells #[.slice a2 m2 c2] 25 (0, 0)) := by rw [heap_setCell_other _ ⟨w.heap.size, 0, none⟩ (V1.heap.size) _ (by show V1.heap.size ≠ w.heap.size; omega)]; exact rb
    have j5 := drow_cell rb2; have j6 := row_free rb2
    obtain ⟨Y0, hY⟩ : ∃ Y, (w6.setCell ⟨w.heap.size, 0, none⟩ (.slice a2 m2 c2)).setCell ⟨V1.heap.size, 0, none⟩ (.slice a1 m1 c1) = Y := ⟨_, rfl⟩
    have ta : Y0.heap[w.heap.size]? = some (.cells #[.slice a2 m2 c2] 25 (0, 0)) := by rw [← hY, heap_setCell_other _ ⟨V1.heap.size, 0, none⟩ w.heap.size _ (by show w.heap.size ≠ V1.heap.size; omega)]; exact heap_setCell_same w6 w.heap.size 0 _ _ _ ra
    have tb : Y0.heap[V1.heap.size]? = some (.cells #[.slice a1 m1 c1] 25 (0, 0)) := by rw [← hY]; exact heap_setCell_same (w6.setCell ⟨w.heap.size, 0, none⟩ (.slice a2 m2 c2)) V1.heap.size 0 _ _ _ (by rw [heap_setCell_other _ ⟨w.heap.size, 0, none⟩ (V1.heap.size) _ (by show V1.heap.size ≠ w.heap.size; omega)]; exact rb)
    have tc : Y0.heap[V2.heap.size]? = some (.cells #[.slice a3 m3 c3] 25 (0, 0)) := by rw [← hY, heap_setCell_other _ ⟨V1.heap.size, 0, none⟩ (V2.heap.size) _ (by show V2.heap.size ≠ V1.heap.size; omega), heap_setCell_other _ ⟨w.heap.size, 0, none⟩ (V2.heap.size) _ (by show V2.heap.size ≠ w.heap.size; omega)]; exact rc
    have td : Y0.heap[V3.heap.size]? = some (.cells #[.slice a4 m4 c4] 25 (0, 0)) := by rw [← hY, heap_setCell_other _ ⟨V1.heap.size, 0, none⟩ (V3.heap.size) _ (by show V3.heap.size ≠ V1.heap.size; omega), heap_setCell_other _ ⟨w.heap.size, 0, none⟩ (V3.heap.size) _ (by show V3.heap.size ≠ w.heap.size; omega)]; exact rd
    have xY : Ext w Y0 := by rw [← hY]; exact box_store _ (box_store _ EX7.out (Nat.le_refl _)) (by omega)
    have HY := Lib.hid hY; have Ra := Lib.hid ta; have Rb := Lib.hid tb; have Rc := Lib.hid tc; have Rd := Lib.hid td
    clear hY ta tb tc td ra rb rc rd rb2 s1 s2 s3
    have D1 := Lib.hid xY
    have EX1 := Lib.hid xY
    clear xY
    obtain ⟨X, h_X⟩ : ∃ x, qN false (B * U36) C = x := ⟨_, rfl⟩
    have H_X := Lib.hid h_X
    clear h_X
    obtain ⟨Y, h_Y⟩ : ∃ x, qN false (A * U36) C = x := ⟨_, rfl⟩
    have H_Y := Lib.hid h_Y
    clear h_Y
    obtain ⟨U, h_U⟩ : ∃ x, qN false (B * D) C = x := ⟨_, rfl⟩
    have H_U := Lib.hid h_U
    clear h_U
    obtain ⟨V, h_V⟩ : ∃ x, qN false (A * D) C = x := ⟨_, rfl⟩
    have H_V := Lib.hid h_V
    clear h_V
    obtain ⟨P, h_P⟩ : ∃ x, qN false B nn = x := ⟨_, rfl⟩
    have H_P := Lib.hid h_P
    clear h_P
    obtain ⟨Q, h_Q⟩ : ∃ x, qN false A nn = x := ⟨_, rfl⟩
    have H_Q := Lib.hid h_Q
    clear h_Q
    obtain ⟨er, h_er⟩ : ∃ x, rdE C = x := ⟨_, rfl⟩
    have H_er := Lib.hid h_er
    clear h_er
    obtain ⟨en, h_en⟩ : ∃ x, rdE nn = x := ⟨_, rfl⟩
    have H_en := Lib.hid h_en
    clear h_en
    obtain ⟨F, h_F⟩ : ∃ x, B * C / U36 = x := ⟨_, rfl⟩
    have H_F := Lib.hid h_F
    clear h_F
    obtain ⟨G, h_G⟩ : ∃ x, A * C / U36 = x := ⟨_, rfl⟩
    have H_G := Lib.hid h_G
    clear h_G
    obtain ⟨S, h_S⟩ : ∃ x, B + C = x := ⟨_, rfl⟩
    have H_S := Lib.hid h_S
    clear h_S
    obtain ⟨T, h_T⟩ : ∃ x, A + C = x := ⟨_, rfl⟩
    have H_T := Lib.hid h_T
    clear h_T
    have L1 := Lib.hid (show X ≤ Y from by rw [← H_X.out, ← H_Y.out]; exact qN_mono _ (Nat.mul_le_mul_right _ HAB.out))
    have L2 := Lib.hid (show U ≤ V from by rw [← H_U.out, ← H_V.out]; exact qN_mono _ (Nat.mul_le_mul_right _ HAB.out))
    have L3 := Lib.hid (show P ≤ Q from by rw [← H_P.out, ← H_Q.out]; exact qN_mono _ HAB.out)
    have L4 := Lib.hid (show F ≤ G from by rw [← H_F.out, ← H_G.out]; exact Nat.div_le_div_right (Nat.mul_le_mul_right _ HAB.out))
    have L5 := Lib.hid (show S ≤ T from by rw [← H_S.out, ← H_T.out]; exact Nat.add_le_add_right HAB.out _)
    obtain ⟨g1, g1a, g1b, g1c⟩ : ∃ g : Int, cmpN X Y = g ∧ decide (g ≤ 0) = true ∧ g ≤ 0 := ⟨_, rfl, by rw [decide_eq_true_iff]; have := cmpN_le_zero L1.out; omega, by have := cmpN_le_zero L1.out; omega⟩
    have H_g1 := Lib.hid g1a; clear g1a
    obtain ⟨g2, g2a, g2b, g2c⟩ : ∃ g : Int, cmpN U V = g ∧ decide (g ≤ 0) = true ∧ g ≤ 0 := ⟨_, rfl, by rw [decide_eq_true_iff]; have := cmpN_le_zero L2.out; omega, by have := cmpN_le_zero L2.out; omega⟩
    have H_g2 := Lib.hid g2a; clear g2a
    obtain ⟨g3, g3a, g3b, g3c⟩ : ∃ g : Int, cmpN P Q = g ∧ decide (g ≤ 0) = true ∧ g ≤ 0 := ⟨_, rfl, by rw [decide_eq_true_iff]; have := cmpN_le_zero L3.out; omega, by have := cmpN_le_zero L3.out; omega⟩
    have H_g3 := Lib.hid g3a; clear g3a
    obtain ⟨g4, g4a, g4b, g4c⟩ : ∃ g : Int, cmpN F G = g ∧ decide (g ≤ 0) = true ∧ g ≤ 0 := ⟨_, rfl, by rw [decide_eq_true_iff]; have := cmpN_le_zero L4.out; omega, by have := cmpN_le_zero L4.out; omega⟩
    have H_g4 := Lib.hid g4a; clear g4a
    obtain ⟨g5, g5a, g5b, g5c⟩ : ∃ g : Int, cmpN S T = g ∧ decide (g ≤ 0) = true ∧ g ≤ 0 := ⟨_, rfl, by rw [decide_eq_true_iff]; have := cmpN_le_zero L5.out; omega, by have := cmpN_le_zero L5.out; omega⟩
    have H_g5 := Lib.hid g5a; clear g5a
    have ja := drow_cell Ra.out
    have jc := drow_cell Rc.out
    have C101 := Lib.hid (dquo_gen B C X er (HA2.out.old D1.out) (HA3.out.old D1.out) HQ2.out HQ3.out H_X.out H_er.out (by omega) (by omega))
    go_wp2_with (rw [HY.out])
    refine C101.out.mono ?_
    rintro e w101 ⟨p101, n101, c101, rfl, o101, x101, l101⟩
    clear j1 j2 j3 j4 j5 j6 ja jc
    have S101 := Lib.hid o101.sl
    clear o101
    have D2 := Lib.hid x101
    have EX2 := Lib.hid (EX1.out.trans x101)
    clear x101
    clear C101
    obtain ⟨V102, hV⟩ : ∃ V, w101.alloc (.cells #[.slice p101 n101 c101] 25) = V := ⟨_, rfl⟩
    have R102 := Lib.hid (show V102.heap[w101.heap.size]? = some (.cells #[.slice p101 n101 c101] 25 (0, 0)) by rw [← hV]; exact heap_alloc_new w101 _)
    have x102 : Ext w101 V102 := by rw [← hV]; exact (Ext.refl _).alloc _
    have HV102 := Lib.hid hV
    clear hV
    have D3 := Lib.hid x102
    have EX3 := Lib.hid (EX2.out.trans x102)
    clear x102
    have jb := drow_cell (rowE (Ext.trans D2.out D3.out) Rb.out)
    have jc := drow_cell (rowE (Ext.trans D2.out D3.out) Rc.out)
    have C103 := Lib.hid (dquo_gen A C Y er (HA1.out.old (Ext.trans D1.out (Ext.trans D2.out D3.out))) (HA3.out.old (Ext.trans D1.out (Ext.trans D2.out D3.out))) HQ1.out HQ3.out H_Y.out H_er.out (by omega) (by omega))
    go_wp2_with (rw [HV102.out])
    refine C103.out.mono ?_
    rintro e w103 ⟨p103, n103, c103, rfl, o103, x103, l103⟩
    clear jb jc
    have S103 := Lib.hid o103.sl
    clear o103
    have D4 := Lib.hid x103
    have EX4 := Lib.hid (EX3.out.trans x103)
    clear x103
    clear C103
    obtain ⟨V104, hV⟩ : ∃ V, w103.alloc (.cells #[.slice p103 n103 c103] 25) = V := ⟨_, rfl⟩
    have R104 := Lib.hid (show V104.heap[w103.heap.size]? = some (.cells #[.slice p103 n103 c103] 25 (0, 0)) by rw [← hV]; exact heap_alloc_new w103 _)
    have x104 : Ext w103 V104 := by rw [← hV]; exact (Ext.refl _).alloc _
    have HV104 := Lib.hid hV
    clear hV
    have D5 := Lib.hid x104
    have EX5 := Lib.hid (EX4.out.trans x104)
    clear x104
    have ja := drow_cell (rowE (Ext.trans D2.out (Ext.trans D3.out (Ext.trans D4.out D5.out))) Ra.out)
    have jd := drow_cell (rowE (Ext.trans D2.out (Ext.trans D3.out (Ext.trans D4.out D5.out))) Rd.out)
    have jc := drow_cell (rowE (Ext.trans D2.out (Ext.trans D3.out (Ext.trans D4.out D5.out))) Rc.out)
    have C105 := Lib.hid (dmuldiv_gen B D C U er (HA2.out.old (Ext.trans D1.out (Ext.trans D2.out (Ext.trans D3.out (Ext.trans D4.out D5.out))))) (HA4.out.old (Ext.trans D1.out (Ext.trans D2.out (Ext.trans D3.out (Ext.trans D4.out D5.out))))) (HA3.out.old (Ext.trans D1.out (Ext.trans D2.out (Ext.trans D3.out (Ext.trans D4.out D5.out))))) HQ2.out HQ4.out HQ3.out H_U.out H_er.out (by omega) (by omega) (by omega))
    go_wp2_with (rw [HV104.out])
    refine C105.out.mono ?_
    rintro e w105 ⟨p105, n105, c105, rfl, o105, x105, l105⟩
    clear ja jd jc
    have S105 := Lib.hid o105.sl
    clear o105
    have D6 := Lib.hid x105
    have EX6 := Lib.hid (EX5.out.trans x105)
    clear x105
    clear C105
    obtain ⟨V106, hV⟩ : ∃ V, w105.alloc (.cells #[.slice p105 n105 c105] 25) = V := ⟨_, rfl⟩
    have R106 := Lib.hid (show V106.heap[w105.heap.size]? = some (.cells #[.slice p105 n105 c105] 25 (0, 0)) by rw [← hV]; exact heap_alloc_new w105 _)
    have x106 : Ext w105 V106 := by rw [← hV]; exact (Ext.refl _).alloc _
    have HV106 := Lib.hid hV
    clear hV
    have D7 := Lib.hid x106
    have EX7 := Lib.hid (EX6.out.trans x106)
    clear x106
    have jb := drow_cell (rowE (Ext.trans D2.out (Ext.trans D3.out (Ext.trans D4.out (Ext.trans D5.out (Ext.trans D6.out D7.out))))) Rb.out)
    have jd := drow_cell (rowE (Ext.trans D2.out (Ext.trans D3.out (Ext.trans D4.out (Ext.trans D5.out (Ext.trans D6.out D7.out))))) Rd.out)
    have jc := drow_cell (rowE (Ext.trans D2.out (Ext.trans D3.out (Ext.trans D4.out (Ext.trans D5.out (Ext.trans D6.out D7.out))))) Rc.out)
    have C107 := Lib.hid (dmuldiv_gen A D C V er (HA1.out.old (Ext.trans D1.out (Ext.trans D2.out (Ext.trans D3.out (Ext.trans D4.out (Ext.trans D5.out (Ext.trans D6.out D7.out))))))) (HA4.out.old (Ext.trans D1.out (Ext.trans D2.out (Ext.trans D3.out (Ext.trans D4.out (Ext.trans D5.out (Ext.trans D6.out D7.out))))))) (HA3.out.old (Ext.trans D1.out (Ext.trans D2.out (Ext.trans D3.out (Ext.trans D4.out (Ext.trans D5.out (Ext.trans D6.out D7.out))))))) HQ1.out HQ4.out HQ3.out H_V.out H_er.out (by omega) (by omega) (by omega))
    go_wp2_with (rw [HV106.out])
    refine C107.out.mono ?_
    rintro e w107 ⟨p107, n107, c107, rfl, o107, x107, l107⟩
    clear jb jd jc
    have S107 := Lib.hid o107.sl
    clear o107
    have D8 := Lib.hid x107
    have EX8 := Lib.hid (EX7.out.trans x107)
    clear x107
    clear C107
    obtain ⟨V108, hV⟩ : ∃ V, w107.alloc (.cells #[.slice p107 n107 c107] 25) = V := ⟨_, rfl⟩
    have R108 := Lib.hid (show V108.heap[w107.heap.size]? = some (.cells #[.slice p107 n107 c107] 25 (0, 0)) by rw [← hV]; exact heap_alloc_new w107 _)
    have x108 : Ext w107 V108 := by rw [← hV]; exact (Ext.refl _).alloc _
    have HV108 := Lib.hid hV
    clear hV
    have D9 := Lib.hid x108
    have EX9 := Lib.hid (EX8.out.trans x108)
    clear x108
    have ja := drow_cell (rowE (Ext.trans D2.out (Ext.trans D3.out (Ext.trans D4.out (Ext.trans D5.out (Ext.trans D6.out (Ext.trans D7.out (Ext.trans D8.out D9.out))))))) Ra.out)
    have C109 := Lib.hid (dover_gen B nn P en (HA2.out.old (Ext.trans D1.out (Ext.trans D2.out (Ext.trans D3.out (Ext.trans D4.out (Ext.trans D5.out (Ext.trans D6.out (Ext.trans D7.out (Ext.trans D8.out D9.out))))))))) HQ2.out H_P.out H_en.out (by omega) HN.out)
    go_wp2_with (rw [HV108.out])
    refine C109.out.mono ?_
    rintro e w109 ⟨p109, n109, c109, rfl, o109, x109, l109⟩
    clear ja
    have S109 := Lib.hid o109.sl
    clear o109
    have D10 := Lib.hid x109
    have EX10 := Lib.hid (EX9.out.trans x109)
    clear x109
    clear C109
    obtain ⟨V110, hV⟩ : ∃ V, w109.alloc (.cells #[.slice p109 n109 c109] 25) = V := ⟨_, rfl⟩
    have R110 := Lib.hid (show V110.heap[w109.heap.size]? = some (.cells #[.slice p109 n109 c109] 25 (0, 0)) by rw [← hV]; exact heap_alloc_new w109 _)
    have x110 : Ext w109 V110 := by rw [← hV]; exact (Ext.refl _).alloc _
    have HV110 := Lib.hid hV
    clear hV
    have D11 := Lib.hid x110
    have EX11 := Lib.hid (EX10.out.trans x110)
    clear x110
    have jb := drow_cell (rowE (Ext.trans D2.out (Ext.trans D3.out (Ext.trans D4.out (Ext.trans D5.out (Ext.trans D6.out (Ext.trans D7.out (Ext.trans D8.out (Ext.trans D9.out (Ext.trans D10.out D11.out))))))))) Rb.out)
    have C111 := Lib.hid (dover_gen A nn Q en (HA1.out.old (Ext.trans D1.out (Ext.trans D2.out (Ext.trans D3.out (Ext.trans D4.out (Ext.trans D5.out (Ext.trans D6.out (Ext.trans D7.out (Ext.trans D8.out (Ext.trans D9.out (Ext.trans D10.out D11.out))))))))))) HQ1.out H_Q.out H_en.out (by omega) HN.out)
    go_wp2_with (rw [HV110.out])
    refine C111.out.mono ?_
    rintro e w111 ⟨p111, n111, c111, rfl, o111, x111, l111⟩
    clear jb
    have S111 := Lib.hid o111.sl
    clear o111
    have D12 := Lib.hid x111
    have EX12 := Lib.hid (EX11.out.trans x111)
    clear x111
    clear C111
    obtain ⟨V112, hV⟩ : ∃ V, w111.alloc (.cells #[.slice p111 n111 c111] 25) = V := ⟨_, rfl⟩
    have R112 := Lib.hid (show V112.heap[w111.heap.size]? = some (.cells #[.slice p111 n111 c111] 25 (0, 0)) by rw [← hV]; exact heap_alloc_new w111 _)
    have x112 : Ext w111 V112 := by rw [← hV]; exact (Ext.refl _).alloc _
    have HV112 := Lib.hid hV
    clear hV
    have D13 := Lib.hid x112
    have EX13 := Lib.hid (EX12.out.trans x112)
    clear x112
    have H113 : Hid (∀ w', Ext V112 w' → w'.cell? ⟨w101.heap.size, 0, none⟩ = some (.slice p101 n101 c101) ∧ w'.cell? ⟨w103.heap.size, 0, none⟩ = some (.slice p103 n103 c103) ∧ w'.cell? ⟨w105.heap.size, 0, none⟩ = some (.slice p105 n105 c105) ∧ w'.cell? ⟨w107.heap.size, 0, none⟩ = some (.slice p107 n107 c107) ∧ w'.cell? ⟨w109.heap.size, 0, none⟩ = some (.slice p109 n109 c109) ∧ w'.cell? ⟨w111.heap.size, 0, none⟩ = some (.slice p111 n111 c111) ∧ w'.cell? ⟨w.heap.size, 0, none⟩ = some (.slice a2 m2 c2) ∧ w'.cell? ⟨V1.heap.size, 0, none⟩ = some (.slice a1 m1 c1) ∧ w'.cell? ⟨V2.heap.size, 0, none⟩ = some (.slice a3 m3 c3)) := Lib.hid (fun w' h => ⟨drow_cell (rowE (Ext.trans (Ext.trans D4.out (Ext.trans D5.out (Ext.trans D6.out (Ext.trans D7.out (Ext.trans D8.out (Ext.trans D9.out (Ext.trans D10.out (Ext.trans D11.out (Ext.trans D12.out D13.out))))))))) h) R102.out), drow_cell (rowE (Ext.trans (Ext.trans D6.out (Ext.trans D7.out (Ext.trans D8.out (Ext.trans D9.out (Ext.trans D10.out (Ext.trans D11.out (Ext.trans D12.out D13.out))))))) h) R104.out), drow_cell (rowE (Ext.trans (Ext.trans D8.out (Ext.trans D9.out (Ext.trans D10.out (Ext.trans D11.out (Ext.trans D12.out D13.out))))) h) R106.out), drow_cell (rowE (Ext.trans (Ext.trans D10.out (Ext.trans D11.out (Ext.trans D12.out D13.out))) h) R108.out), drow_cell (rowE (Ext.trans (Ext.trans D12.out D13.out) h) R110.out), drow_cell (rowE h R112.out), drow_cell (rowE (Ext.trans (Ext.trans D2.out (Ext.trans D3.out (Ext.trans D4.out (Ext.trans D5.out (Ext.trans D6.out (Ext.trans D7.out (Ext.trans D8.out (Ext.trans D9.out (Ext.trans D10.out (Ext.trans D11.out (Ext.trans D12.out D13.out))))))))))) h) Ra.out), drow_cell (rowE (Ext.trans (Ext.trans D2.out (Ext.trans D3.out (Ext.trans D4.out (Ext.trans D5.out (Ext.trans D6.out (Ext.trans D7.out (Ext.trans D8.out (Ext.trans D9.out (Ext.trans D10.out (Ext.trans D11.out (Ext.trans D12.out D13.out))))))))))) h) Rb.out), drow_cell (rowE (Ext.trans (Ext.trans D2.out (Ext.trans D3.out (Ext.trans D4.out (Ext.trans D5.out (Ext.trans D6.out (Ext.trans D7.out (Ext.trans D8.out (Ext.trans D9.out (Ext.trans D10.out (Ext.trans D11.out (Ext.trans D12.out D13.out))))))))))) h) Rc.out)⟩)
    go_wp2_with (rw [HV112.out])
    go_region_held3 (fun w' => w'.cell? ⟨w101.heap.size, 0, none⟩ = some (.slice p101 n101 c101) ∧ w'.cell? ⟨w103.heap.size, 0, none⟩ = some (.slice p103 n103 c103) ∧ w'.cell? ⟨w105.heap.size, 0, none⟩ = some (.slice p105 n105 c105) ∧ w'.cell? ⟨w107.heap.size, 0, none⟩ = some (.slice p107 n107 c107) ∧ w'.cell? ⟨w109.heap.size, 0, none⟩ = some (.slice p109 n109 c109) ∧ w'.cell? ⟨w111.heap.size, 0, none⟩ = some (.slice p111 n111 c111) ∧ w'.cell? ⟨w.heap.size, 0, none⟩ = some (.slice a2 m2 c2) ∧ w'.cell? ⟨V1.heap.size, 0, none⟩ = some (.slice a1 m1 c1) ∧ w'.cell? ⟨V2.heap.size, 0, none⟩ = some (.slice a3 m3 c3))
      (first | exact H113.out _ (Ext.refl _) | exact H113.out _ (Ext.refl _).drew | exact H113.out _ (by assumption))
      (first
        | (go_at_call_of 29 p101; refine (dcmp_at X Y g1 (S101.out.old ((Ext.trans D3.out (Ext.trans D4.out (Ext.trans D5.out (Ext.trans D6.out (Ext.trans D7.out (Ext.trans D8.out (Ext.trans D9.out (Ext.trans D10.out (Ext.trans D11.out (Ext.trans D12.out D13.out)))))))))).trans (Ext.refl V112).drew)) (S103.out.old ((Ext.trans D5.out (Ext.trans D6.out (Ext.trans D7.out (Ext.trans D8.out (Ext.trans D9.out (Ext.trans D10.out (Ext.trans D11.out (Ext.trans D12.out D13.out)))))))).trans (Ext.refl V112).drew)) (val_lim _) (val_lim _) H_g1.out (by omega) (by omega)).mono ?_; rintro e wr113_0 ⟨rfl, xr113_0⟩; have Er113_0 : Ext V112 wr113_0 := (Ext.refl V112).drew.trans xr113_0)
        | (go_at_call_of 29 p105; refine (dcmp_at U V g2 (S105.out.old ((Ext.trans D7.out (Ext.trans D8.out (Ext.trans D9.out (Ext.trans D10.out (Ext.trans D11.out (Ext.trans D12.out D13.out)))))).trans Er113_0)) (S107.out.old ((Ext.trans D9.out (Ext.trans D10.out (Ext.trans D11.out (Ext.trans D12.out D13.out)))).trans Er113_0)) (val_lim _) (val_lim _) H_g2.out (by omega) (by omega)).mono ?_; rintro e wr113_1 ⟨rfl, xr113_1⟩; have Er113_1 : Ext V112 wr113_1 := Er113_0.trans xr113_1)
        | (go_at_call_of 29 p109; refine (dcmp_at P Q g3 (S109.out.old ((Ext.trans D11.out (Ext.trans D12.out D13.out)).trans Er113_1)) (S111.out.old (D13.out.trans Er113_1)) (val_lim _) (val_lim _) H_g3.out (by omega) (by omega)).mono ?_; rintro e wr113_2 ⟨rfl, xr113_2⟩; have Er113_2 : Ext V112 wr113_2 := Er113_1.trans xr113_2)
        | (go_at_call_of 42 a2; refine (dmul_at B C F (HA2.out.old ((Ext.trans D1.out (Ext.trans D2.out (Ext.trans D3.out (Ext.trans D4.out (Ext.trans D5.out (Ext.trans D6.out (Ext.trans D7.out (Ext.trans D8.out (Ext.trans D9.out (Ext.trans D10.out (Ext.trans D11.out (Ext.trans D12.out D13.out)))))))))))).trans Er113_2)) (HA3.out.old ((Ext.trans D1.out (Ext.trans D2.out (Ext.trans D3.out (Ext.trans D4.out (Ext.trans D5.out (Ext.trans D6.out (Ext.trans D7.out (Ext.trans D8.out (Ext.trans D9.out (Ext.trans D10.out (Ext.trans D11.out (Ext.trans D12.out D13.out)))))))))))).trans Er113_2)) HQ2.out HQ3.out H_F.out (by omega) (by omega)).mono ?_; rintro e wr113_3 ⟨pr113_3, nr113_3, cr113_3, rfl, or113_3, xr113_3, lr113_3⟩; have Er113_3 : Ext V112 wr113_3 := Er113_2.trans xr113_3)
        | (go_at_call_of 42 a1; refine (dmul_at A C G (HA1.out.old ((Ext.trans D1.out (Ext.trans D2.out (Ext.trans D3.out (Ext.trans D4.out (Ext.trans D5.out (Ext.trans D6.out (Ext.trans D7.out (Ext.trans D8.out (Ext.trans D9.out (Ext.trans D10.out (Ext.trans D11.out (Ext.trans D12.out D13.out)))))))))))).trans Er113_3)) (HA3.out.old ((Ext.trans D1.out (Ext.trans D2.out (Ext.trans D3.out (Ext.trans D4.out (Ext.trans D5.out (Ext.trans D6.out (Ext.trans D7.out (Ext.trans D8.out (Ext.trans D9.out (Ext.trans D10.out (Ext.trans D11.out (Ext.trans D12.out D13.out)))))))))))).trans Er113_3)) HQ1.out HQ3.out H_G.out (by omega) (by omega)).mono ?_; rintro e wr113_4 ⟨pr113_4, nr113_4, cr113_4, rfl, or113_4, xr113_4, lr113_4⟩; have Er113_4 : Ext V112 wr113_4 := Er113_3.trans xr113_4)
        | (go_at_call_of 29 pr113_3; refine (dcmp_at F G g4 (or113_3.sl.old xr113_4) or113_4.sl (val_lim _) (val_lim _) H_g4.out (by omega) (by omega)).mono ?_; rintro e wr113_5 ⟨rfl, xr113_5⟩; have Er113_5 : Ext V112 wr113_5 := Er113_4.trans xr113_5)
        | (go_at_call_of 14 a2; refine (dadd_at B C S (HA2.out.old ((Ext.trans D1.out (Ext.trans D2.out (Ext.trans D3.out (Ext.trans D4.out (Ext.trans D5.out (Ext.trans D6.out (Ext.trans D7.out (Ext.trans D8.out (Ext.trans D9.out (Ext.trans D10.out (Ext.trans D11.out (Ext.trans D12.out D13.out)))))))))))).trans Er113_5)) (HA3.out.old ((Ext.trans D1.out (Ext.trans D2.out (Ext.trans D3.out (Ext.trans D4.out (Ext.trans D5.out (Ext.trans D6.out (Ext.trans D7.out (Ext.trans D8.out (Ext.trans D9.out (Ext.trans D10.out (Ext.trans D11.out (Ext.trans D12.out D13.out)))))))))))).trans Er113_5)) HQ2.out HQ3.out H_S.out (by omega) (by omega)).mono ?_; rintro e wr113_6 ⟨pr113_6, nr113_6, cr113_6, rfl, or113_6, xr113_6, lr113_6⟩; have Er113_6 : Ext V112 wr113_6 := Er113_5.trans xr113_6)
        | (go_at_call_of 14 a1; refine (dadd_at A C T (HA1.out.old ((Ext.trans D1.out (Ext.trans D2.out (Ext.trans D3.out (Ext.trans D4.out (Ext.trans D5.out (Ext.trans D6.out (Ext.trans D7.out (Ext.trans D8.out (Ext.trans D9.out (Ext.trans D10.out (Ext.trans D11.out (Ext.trans D12.out D13.out)))))))))))).trans Er113_6)) (HA3.out.old ((Ext.trans D1.out (Ext.trans D2.out (Ext.trans D3.out (Ext.trans D4.out (Ext.trans D5.out (Ext.trans D6.out (Ext.trans D7.out (Ext.trans D8.out (Ext.trans D9.out (Ext.trans D10.out (Ext.trans D11.out (Ext.trans D12.out D13.out)))))))))))).trans Er113_6)) HQ1.out HQ3.out H_T.out (by omega) (by omega)).mono ?_; rintro e wr113_7 ⟨pr113_7, nr113_7, cr113_7, rfl, or113_7, xr113_7, lr113_7⟩; have Er113_7 : Ext V112 wr113_7 := Er113_6.trans xr113_7)
        | (go_at_call_of 29 pr113_6; refine (dcmp_at S T g5 (or113_6.sl.old xr113_7) or113_7.sl (val_lim _) (val_lim _) H_g5.out (by omega) (by omega)).mono ?_; rintro e wr113_8 ⟨rfl, xr113_8⟩; have Er113_8 : Ext V112 wr113_8 := Er113_7.trans xr113_8))
    have x113 := Er113_8
    clear xr113_0 Er113_0 xr113_1 Er113_1 xr113_2 Er113_2 xr113_3 or113_3 Er113_3 xr113_4 or113_4 Er113_4 xr113_5 Er113_5 xr113_6 or113_6 Er113_6 xr113_7 or113_7 Er113_7 xr113_8 Er113_8
    have D14 := Lib.hid x113
    have EX14 := Lib.hid (EX13.out.trans x113)
    clear x113
    go_wp2_with fail
    go_ret
    exact ⟨by first | rfl | (rw [g5b]; rfl), EX14.out⟩

end Go.Proofs.YtdafjajleglccaaGreatDoor
