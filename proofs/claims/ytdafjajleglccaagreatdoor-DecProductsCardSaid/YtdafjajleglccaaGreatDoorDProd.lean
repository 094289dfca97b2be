/- gleanlaw2.DecProducts: the walk. -/
import Derived.Test.YtdafjajleglccaaGreatDoorKnown2
import Derived.Test.YtdafjajleglccaaGreatDoorHelp2
import Derived.Test.YtdafjajleglccaaGreatDoorRefG2
namespace Go.Proofs.YtdafjajleglccaaGreatDoor
open Go.RowKit Go.Lib

set_option maxHeartbeats 16000000 in
set_option maxRecDepth 100000 in
theorem dprod_law {a1 a2 a3 : Option Addr} {m1 c1 m2 c2 m3 c3 : Nat} {xs1 xs2 xs3 : List Nat} {w : World} (ha1 : Sl w a1 m1 c1 xs1) (ha2 : Sl w a2 m2 c2 xs2) (ha3 : Sl w a3 m3 c3 xs3) {nn : Nat} (hnn : nn < B64) (htab : Tab w) (hM : MaxL w) :
    Calls Tryz.prog 4 #[DecV a1 m1 c1, DecV a2 m2 c2, DecV a3 m3 c3, .int .u64 (nn : Int)] w (RetE (.bool true) w) := by
  obtain ⟨A, hv1⟩ : ∃ X, val xs1 = X := ⟨_, rfl⟩
  obtain ⟨B, hv2⟩ : ∃ X, val xs2 = X := ⟨_, rfl⟩
  obtain ⟨C, hv3⟩ : ∃ X, val xs3 = X := ⟨_, rfl⟩
  have HQ1 := Lib.hid hv1; have HA1 := Lib.hid ha1
  have HQ2 := Lib.hid hv2; have HA2 := Lib.hid ha2
  have HQ3 := Lib.hid hv3; have HA3 := Lib.hid ha3
  have HT := Lib.hid htab; have HM := Lib.hid hM
  clear hv1 ha1 hv2 ha2 hv3 ha3 htab hM
  have HN := Lib.hid hnn; clear hnn
  obtain ⟨V1, hV⟩ : ∃ V, w.alloc (.cells #[.slice a1 m1 c1] 25) = V := ⟨_, rfl⟩
  have R1 := Lib.hid (show V1.heap[w.heap.size]? = some (.cells #[.slice a1 m1 c1] 25 (0, 0)) by rw [← hV]; exact heap_alloc_new w _)
  have x1 : Ext w V1 := by rw [← hV]; exact (Ext.refl _).alloc _
  have HV1 := Lib.hid hV
  clear hV
  have D1 := Lib.hid x1
  have EX1 := Lib.hid x1
  clear x1
  obtain ⟨V2, hV⟩ : ∃ V, V1.alloc (.cells #[.slice a2 m2 c2] 25) = V := ⟨_, rfl⟩
  have R2 := Lib.hid (show V2.heap[V1.heap.size]? = some (.cells #[.slice a2 m2 c2] 25 (0, 0)) by rw [← hV]; exact heap_alloc_new V1 _)
  have x2 : Ext V1 V2 := by rw [← hV]; exact (Ext.refl _).alloc _
  have HV2 := Lib.hid hV
  clear hV
  have D2 := Lib.hid x2
  have EX2 := Lib.hid (EX1.out.trans x2)
  clear x2
  obtain ⟨V3, hV⟩ : ∃ V, V2.alloc (.cells #[.slice a3 m3 c3] 25) = V := ⟨_, rfl⟩
  have R3 := Lib.hid (show V3.heap[V2.heap.size]? = some (.cells #[.slice a3 m3 c3] 25 (0, 0)) by rw [← hV]; exact heap_alloc_new V2 _)
  have x3 : Ext V2 V3 := by rw [← hV]; exact (Ext.refl _).alloc _
  have HV3 := Lib.hid hV
  clear hV
  have D3 := Lib.hid x3
  have EX3 := Lib.hid (EX2.out.trans x3)
  clear x3
  go_enter Tryz.func4, Tryz.ntmps4
  have C4 := Lib.hid (known2_calls V3 (HT.out.old EX3.out) (HM.out.old EX3.out))
  go_wp2_with (first | rw [HV1.out] | rw [HV2.out] | rw [HV3.out])
  refine C4.out.mono ?_
  rintro e w4 ⟨rfl, x4⟩
  have D4 := Lib.hid x4
  have EX4 := Lib.hid (EX3.out.trans x4)
  clear x4
  clear C4
  obtain ⟨Z, hZ⟩ : ∃ Z, w4.alloc (.cells #[.slice a1 m1 c1, .slice a2 m2 c2, .slice a3 m3 c3] 25) = Z := ⟨_, rfl⟩
  have hxz : Ext w4 Z := by rw [← hZ]; exact (Ext.refl _).alloc _
  by_cases h60 : m1 ≤ 40 ∧ m2 ≤ 40 ∧ m3 ≤ 40
  rotate_left
  · have HSM := Lib.hid (sd_no3 w4 (a1 := a1) (m1 := m1) (c1 := c1) (a2 := a2) (m2 := m2) (c2 := c2) (a3 := a3) (m3 := m3) (c3 := c3) h60)
    rw [hZ] at HSM
    have HZ := Lib.hid hZ; have HEZ := Lib.hid (EX4.out.trans hxz)
    clear hZ hxz
    have ja := drow_cell (rowE (Ext.trans D2.out (Ext.trans D3.out D4.out)) R1.out)
    have jb := drow_cell (rowE (Ext.trans D3.out D4.out) R2.out)
    have jc := drow_cell (rowE D4.out R3.out)
    go_wp2_with (rw [HZ.out])
    refine HSM.out.mono ?_
    rintro e w' ⟨rfl, rfl⟩
    go_wp2_with fail
    go_ret
    exact ⟨rfl, HEZ.out⟩
  have HSM := Lib.hid (sd_yes3 w4 (a1 := a1) (m1 := m1) (c1 := c1) (a2 := a2) (m2 := m2) (c2 := c2) (a3 := a3) (m3 := m3) (c3 := c3) h60)
  rw [hZ] at HSM
  have HZ := Lib.hid hZ
  obtain ⟨q1, q2, q3⟩ := h60
  clear hZ
  have ja := drow_cell (rowE (Ext.trans D2.out (Ext.trans D3.out D4.out)) R1.out)
  have jb := drow_cell (rowE (Ext.trans D3.out D4.out) R2.out)
  have jc := drow_cell (rowE D4.out R3.out)
  have D5 := Lib.hid hxz
  have EX5 := Lib.hid (EX4.out.trans hxz)
  clear hxz
  go_wp2_with (rw [HZ.out])
  refine HSM.out.mono ?_
  rintro e w' ⟨rfl, rfl⟩
  clear HSM ja jb jc
  obtain ⟨qq, h_qq⟩ : ∃ x, qN false (A * U36) B = x := ⟨_, rfl⟩
  have H_qq := Lib.hid h_qq
  clear h_qq
  obtain ⟨eb, h_eb⟩ : ∃ x, rdE B = x := ⟨_, rfl⟩
  have H_eb := Lib.hid h_eb
  clear h_eb
  obtain ⟨ss, h_ss⟩ : ∃ x, qN false (A * B) C = x := ⟨_, rfl⟩
  have H_ss := Lib.hid h_ss
  clear h_ss
  obtain ⟨ec, h_ec⟩ : ∃ x, rdE C = x := ⟨_, rfl⟩
  have H_ec := Lib.hid h_ec
  clear h_ec
  obtain ⟨uu, h_uu⟩ : ∃ x, qN true (A * B) C = x := ⟨_, rfl⟩
  have H_uu := Lib.hid h_uu
  clear h_uu
  obtain ⟨ww, h_ww⟩ : ∃ x, qN false A nn = x := ⟨_, rfl⟩
  have H_ww := Lib.hid h_ww
  clear h_ww
  obtain ⟨en, h_en⟩ : ∃ x, rdE nn = x := ⟨_, rfl⟩
  have H_en := Lib.hid h_en
  clear h_en
  obtain ⟨mm, h_mm⟩ : ∃ x, A / U36 = x := ⟨_, rfl⟩
  have H_mm := Lib.hid h_mm
  clear h_mm
  obtain ⟨rr, h_rr⟩ : ∃ x, A % U36 = x := ⟨_, rfl⟩
  have H_rr := Lib.hid h_rr
  clear h_rr
  obtain ⟨pp, h_pp⟩ : ∃ x, A * B / U36 = x := ⟨_, rfl⟩
  have H_pp := Lib.hid h_pp
  clear h_pp
  have ja := drow_cell (rowE (Ext.trans D2.out (Ext.trans D3.out (Ext.trans D4.out D5.out))) R1.out)
  have jb := drow_cell (rowE (Ext.trans D3.out (Ext.trans D4.out D5.out)) R2.out)
  have C5 := Lib.hid (dquo_gen A B qq eb (HA1.out.old (Ext.trans D1.out (Ext.trans D2.out (Ext.trans D3.out (Ext.trans D4.out D5.out))))) (HA2.out.old (Ext.trans D1.out (Ext.trans D2.out (Ext.trans D3.out (Ext.trans D4.out D5.out))))) HQ1.out HQ2.out H_qq.out H_eb.out (by omega) (by omega))
  go_wp2_with fail
  refine C5.out.mono ?_
  rintro e w5 ⟨p5, n5, c5, rfl, o5, x5, l5⟩
  clear ja jb
  have S5 := Lib.hid o5.sl
  clear o5
  have D6 := Lib.hid x5
  have EX6 := Lib.hid (EX5.out.trans x5)
  clear x5
  clear C5
  obtain ⟨V6, hV⟩ : ∃ V, w5.alloc (.cells #[.slice p5 n5 c5] 25) = V := ⟨_, rfl⟩
  have R6 := Lib.hid (show V6.heap[w5.heap.size]? = some (.cells #[.slice p5 n5 c5] 25 (0, 0)) by rw [← hV]; exact heap_alloc_new w5 _)
  have x6 : Ext w5 V6 := by rw [← hV]; exact (Ext.refl _).alloc _
  have HV6 := Lib.hid hV
  clear hV
  have D7 := Lib.hid x6
  have EX7 := Lib.hid (EX6.out.trans x6)
  clear x6
  have ja := drow_cell (rowE (Ext.trans D2.out (Ext.trans D3.out (Ext.trans D4.out (Ext.trans D5.out (Ext.trans D6.out D7.out))))) R1.out)
  have jb := drow_cell (rowE (Ext.trans D3.out (Ext.trans D4.out (Ext.trans D5.out (Ext.trans D6.out D7.out)))) R2.out)
  have C7 := Lib.hid (rdquo_gen A B qq eb (HA1.out.old (Ext.trans D1.out (Ext.trans D2.out (Ext.trans D3.out (Ext.trans D4.out (Ext.trans D5.out (Ext.trans D6.out D7.out))))))) (HA2.out.old (Ext.trans D1.out (Ext.trans D2.out (Ext.trans D3.out (Ext.trans D4.out (Ext.trans D5.out (Ext.trans D6.out D7.out))))))) HQ1.out HQ2.out H_qq.out H_eb.out (by omega) (by omega))
  go_wp2_with (rw [HV6.out])
  refine C7.out.mono ?_
  rintro e w7 ⟨p7, n7, c7, rfl, o7, x7, l7⟩
  clear ja jb
  have S7 := Lib.hid o7.sl
  clear o7
  have D8 := Lib.hid x7
  have EX8 := Lib.hid (EX7.out.trans x7)
  clear x7
  clear C7
  obtain ⟨V8, hV⟩ : ∃ V, w7.alloc (.cells #[.slice p7 n7 c7] 25) = V := ⟨_, rfl⟩
  have R8 := Lib.hid (show V8.heap[w7.heap.size]? = some (.cells #[.slice p7 n7 c7] 25 (0, 0)) by rw [← hV]; exact heap_alloc_new w7 _)
  have x8 : Ext w7 V8 := by rw [← hV]; exact (Ext.refl _).alloc _
  have HV8 := Lib.hid hV
  clear hV
  have D9 := Lib.hid x8
  have EX9 := Lib.hid (EX8.out.trans x8)
  clear x8
  have ja := drow_cell (rowE (Ext.trans D2.out (Ext.trans D3.out (Ext.trans D4.out (Ext.trans D5.out (Ext.trans D6.out (Ext.trans D7.out (Ext.trans D8.out D9.out))))))) R1.out)
  have jb := drow_cell (rowE (Ext.trans D3.out (Ext.trans D4.out (Ext.trans D5.out (Ext.trans D6.out (Ext.trans D7.out (Ext.trans D8.out D9.out)))))) R2.out)
  have jc := drow_cell (rowE (Ext.trans D4.out (Ext.trans D5.out (Ext.trans D6.out (Ext.trans D7.out (Ext.trans D8.out D9.out))))) R3.out)
  have C9 := Lib.hid (dmuldiv_gen A B C ss ec (HA1.out.old (Ext.trans D1.out (Ext.trans D2.out (Ext.trans D3.out (Ext.trans D4.out (Ext.trans D5.out (Ext.trans D6.out (Ext.trans D7.out (Ext.trans D8.out D9.out))))))))) (HA2.out.old (Ext.trans D1.out (Ext.trans D2.out (Ext.trans D3.out (Ext.trans D4.out (Ext.trans D5.out (Ext.trans D6.out (Ext.trans D7.out (Ext.trans D8.out D9.out))))))))) (HA3.out.old (Ext.trans D1.out (Ext.trans D2.out (Ext.trans D3.out (Ext.trans D4.out (Ext.trans D5.out (Ext.trans D6.out (Ext.trans D7.out (Ext.trans D8.out D9.out))))))))) HQ1.out HQ2.out HQ3.out H_ss.out H_ec.out (by omega) (by omega) (by omega))
  go_wp2_with (rw [HV8.out])
  refine C9.out.mono ?_
  rintro e w9 ⟨p9, n9, c9, rfl, o9, x9, l9⟩
  clear ja jb jc
  have S9 := Lib.hid o9.sl
  clear o9
  have D10 := Lib.hid x9
  have EX10 := Lib.hid (EX9.out.trans x9)
  clear x9
  clear C9
  obtain ⟨V10, hV⟩ : ∃ V, w9.alloc (.cells #[.slice p9 n9 c9] 25) = V := ⟨_, rfl⟩
  have R10 := Lib.hid (show V10.heap[w9.heap.size]? = some (.cells #[.slice p9 n9 c9] 25 (0, 0)) by rw [← hV]; exact heap_alloc_new w9 _)
  have x10 : Ext w9 V10 := by rw [← hV]; exact (Ext.refl _).alloc _
  have HV10 := Lib.hid hV
  clear hV
  have D11 := Lib.hid x10
  have EX11 := Lib.hid (EX10.out.trans x10)
  clear x10
  have ja := drow_cell (rowE (Ext.trans D2.out (Ext.trans D3.out (Ext.trans D4.out (Ext.trans D5.out (Ext.trans D6.out (Ext.trans D7.out (Ext.trans D8.out (Ext.trans D9.out (Ext.trans D10.out D11.out))))))))) R1.out)
  have jb := drow_cell (rowE (Ext.trans D3.out (Ext.trans D4.out (Ext.trans D5.out (Ext.trans D6.out (Ext.trans D7.out (Ext.trans D8.out (Ext.trans D9.out (Ext.trans D10.out D11.out)))))))) R2.out)
  have jc := drow_cell (rowE (Ext.trans D4.out (Ext.trans D5.out (Ext.trans D6.out (Ext.trans D7.out (Ext.trans D8.out (Ext.trans D9.out (Ext.trans D10.out D11.out))))))) R3.out)
  have C11 := Lib.hid (rdmuldiv_gen A B C ss ec (HA1.out.old (Ext.trans D1.out (Ext.trans D2.out (Ext.trans D3.out (Ext.trans D4.out (Ext.trans D5.out (Ext.trans D6.out (Ext.trans D7.out (Ext.trans D8.out (Ext.trans D9.out (Ext.trans D10.out D11.out))))))))))) (HA2.out.old (Ext.trans D1.out (Ext.trans D2.out (Ext.trans D3.out (Ext.trans D4.out (Ext.trans D5.out (Ext.trans D6.out (Ext.trans D7.out (Ext.trans D8.out (Ext.trans D9.out (Ext.trans D10.out D11.out))))))))))) (HA3.out.old (Ext.trans D1.out (Ext.trans D2.out (Ext.trans D3.out (Ext.trans D4.out (Ext.trans D5.out (Ext.trans D6.out (Ext.trans D7.out (Ext.trans D8.out (Ext.trans D9.out (Ext.trans D10.out D11.out))))))))))) HQ1.out HQ2.out HQ3.out H_ss.out H_ec.out (by omega) (by omega) (by omega))
  go_wp2_with (rw [HV10.out])
  refine C11.out.mono ?_
  rintro e w11 ⟨p11, n11, c11, rfl, o11, x11, l11⟩
  clear ja jb jc
  have S11 := Lib.hid o11.sl
  clear o11
  have D12 := Lib.hid x11
  have EX12 := Lib.hid (EX11.out.trans x11)
  clear x11
  clear C11
  obtain ⟨V12, hV⟩ : ∃ V, w11.alloc (.cells #[.slice p11 n11 c11] 25) = V := ⟨_, rfl⟩
  have R12 := Lib.hid (show V12.heap[w11.heap.size]? = some (.cells #[.slice p11 n11 c11] 25 (0, 0)) by rw [← hV]; exact heap_alloc_new w11 _)
  have x12 : Ext w11 V12 := by rw [← hV]; exact (Ext.refl _).alloc _
  have HV12 := Lib.hid hV
  clear hV
  have D13 := Lib.hid x12
  have EX13 := Lib.hid (EX12.out.trans x12)
  clear x12
  have ja := drow_cell (rowE (Ext.trans D2.out (Ext.trans D3.out (Ext.trans D4.out (Ext.trans D5.out (Ext.trans D6.out (Ext.trans D7.out (Ext.trans D8.out (Ext.trans D9.out (Ext.trans D10.out (Ext.trans D11.out (Ext.trans D12.out D13.out))))))))))) R1.out)
  have jb := drow_cell (rowE (Ext.trans D3.out (Ext.trans D4.out (Ext.trans D5.out (Ext.trans D6.out (Ext.trans D7.out (Ext.trans D8.out (Ext.trans D9.out (Ext.trans D10.out (Ext.trans D11.out (Ext.trans D12.out D13.out)))))))))) R2.out)
  have jc := drow_cell (rowE (Ext.trans D4.out (Ext.trans D5.out (Ext.trans D6.out (Ext.trans D7.out (Ext.trans D8.out (Ext.trans D9.out (Ext.trans D10.out (Ext.trans D11.out (Ext.trans D12.out D13.out))))))))) R3.out)
  have C13 := Lib.hid (dmuldivup_gen A B C uu ec (HA1.out.old (Ext.trans D1.out (Ext.trans D2.out (Ext.trans D3.out (Ext.trans D4.out (Ext.trans D5.out (Ext.trans D6.out (Ext.trans D7.out (Ext.trans D8.out (Ext.trans D9.out (Ext.trans D10.out (Ext.trans D11.out (Ext.trans D12.out D13.out))))))))))))) (HA2.out.old (Ext.trans D1.out (Ext.trans D2.out (Ext.trans D3.out (Ext.trans D4.out (Ext.trans D5.out (Ext.trans D6.out (Ext.trans D7.out (Ext.trans D8.out (Ext.trans D9.out (Ext.trans D10.out (Ext.trans D11.out (Ext.trans D12.out D13.out))))))))))))) (HA3.out.old (Ext.trans D1.out (Ext.trans D2.out (Ext.trans D3.out (Ext.trans D4.out (Ext.trans D5.out (Ext.trans D6.out (Ext.trans D7.out (Ext.trans D8.out (Ext.trans D9.out (Ext.trans D10.out (Ext.trans D11.out (Ext.trans D12.out D13.out))))))))))))) HQ1.out HQ2.out HQ3.out H_uu.out H_ec.out (by omega) (by omega) (by omega))
  go_wp2_with (rw [HV12.out])
  refine C13.out.mono ?_
  rintro e w13 ⟨p13, n13, c13, rfl, o13, x13, l13⟩
  clear ja jb jc
  have S13 := Lib.hid o13.sl
  clear o13
  have D14 := Lib.hid x13
  have EX14 := Lib.hid (EX13.out.trans x13)
  clear x13
  clear C13
  obtain ⟨V14, hV⟩ : ∃ V, w13.alloc (.cells #[.slice p13 n13 c13] 25) = V := ⟨_, rfl⟩
  have R14 := Lib.hid (show V14.heap[w13.heap.size]? = some (.cells #[.slice p13 n13 c13] 25 (0, 0)) by rw [← hV]; exact heap_alloc_new w13 _)
  have x14 : Ext w13 V14 := by rw [← hV]; exact (Ext.refl _).alloc _
  have HV14 := Lib.hid hV
  clear hV
  have D15 := Lib.hid x14
  have EX15 := Lib.hid (EX14.out.trans x14)
  clear x14
  have ja := drow_cell (rowE (Ext.trans D2.out (Ext.trans D3.out (Ext.trans D4.out (Ext.trans D5.out (Ext.trans D6.out (Ext.trans D7.out (Ext.trans D8.out (Ext.trans D9.out (Ext.trans D10.out (Ext.trans D11.out (Ext.trans D12.out (Ext.trans D13.out (Ext.trans D14.out D15.out))))))))))))) R1.out)
  have jb := drow_cell (rowE (Ext.trans D3.out (Ext.trans D4.out (Ext.trans D5.out (Ext.trans D6.out (Ext.trans D7.out (Ext.trans D8.out (Ext.trans D9.out (Ext.trans D10.out (Ext.trans D11.out (Ext.trans D12.out (Ext.trans D13.out (Ext.trans D14.out D15.out)))))))))))) R2.out)
  have jc := drow_cell (rowE (Ext.trans D4.out (Ext.trans D5.out (Ext.trans D6.out (Ext.trans D7.out (Ext.trans D8.out (Ext.trans D9.out (Ext.trans D10.out (Ext.trans D11.out (Ext.trans D12.out (Ext.trans D13.out (Ext.trans D14.out D15.out))))))))))) R3.out)
  have C15 := Lib.hid (rdmuldivup_gen A B C uu ec (HA1.out.old (Ext.trans D1.out (Ext.trans D2.out (Ext.trans D3.out (Ext.trans D4.out (Ext.trans D5.out (Ext.trans D6.out (Ext.trans D7.out (Ext.trans D8.out (Ext.trans D9.out (Ext.trans D10.out (Ext.trans D11.out (Ext.trans D12.out (Ext.trans D13.out (Ext.trans D14.out D15.out))))))))))))))) (HA2.out.old (Ext.trans D1.out (Ext.trans D2.out (Ext.trans D3.out (Ext.trans D4.out (Ext.trans D5.out (Ext.trans D6.out (Ext.trans D7.out (Ext.trans D8.out (Ext.trans D9.out (Ext.trans D10.out (Ext.trans D11.out (Ext.trans D12.out (Ext.trans D13.out (Ext.trans D14.out D15.out))))))))))))))) (HA3.out.old (Ext.trans D1.out (Ext.trans D2.out (Ext.trans D3.out (Ext.trans D4.out (Ext.trans D5.out (Ext.trans D6.out (Ext.trans D7.out (Ext.trans D8.out (Ext.trans D9.out (Ext.trans D10.out (Ext.trans D11.out (Ext.trans D12.out (Ext.trans D13.out (Ext.trans D14.out D15.out))))))))))))))) HQ1.out HQ2.out HQ3.out H_uu.out H_ec.out (by omega) (by omega) (by omega))
  go_wp2_with (rw [HV14.out])
  refine C15.out.mono ?_
  rintro e w15 ⟨p15, n15, c15, rfl, o15, x15, l15⟩
  clear ja jb jc
  have S15 := Lib.hid o15.sl
  clear o15
  have D16 := Lib.hid x15
  have EX16 := Lib.hid (EX15.out.trans x15)
  clear x15
  clear C15
  obtain ⟨V16, hV⟩ : ∃ V, w15.alloc (.cells #[.slice p15 n15 c15] 25) = V := ⟨_, rfl⟩
  have R16 := Lib.hid (show V16.heap[w15.heap.size]? = some (.cells #[.slice p15 n15 c15] 25 (0, 0)) by rw [← hV]; exact heap_alloc_new w15 _)
  have x16 : Ext w15 V16 := by rw [← hV]; exact (Ext.refl _).alloc _
  have HV16 := Lib.hid hV
  clear hV
  have D17 := Lib.hid x16
  have EX17 := Lib.hid (EX16.out.trans x16)
  clear x16
  have ja := drow_cell (rowE (Ext.trans D2.out (Ext.trans D3.out (Ext.trans D4.out (Ext.trans D5.out (Ext.trans D6.out (Ext.trans D7.out (Ext.trans D8.out (Ext.trans D9.out (Ext.trans D10.out (Ext.trans D11.out (Ext.trans D12.out (Ext.trans D13.out (Ext.trans D14.out (Ext.trans D15.out (Ext.trans D16.out D17.out))))))))))))))) R1.out)
  have C17 := Lib.hid (dover_gen A nn ww en (HA1.out.old (Ext.trans D1.out (Ext.trans D2.out (Ext.trans D3.out (Ext.trans D4.out (Ext.trans D5.out (Ext.trans D6.out (Ext.trans D7.out (Ext.trans D8.out (Ext.trans D9.out (Ext.trans D10.out (Ext.trans D11.out (Ext.trans D12.out (Ext.trans D13.out (Ext.trans D14.out (Ext.trans D15.out (Ext.trans D16.out D17.out))))))))))))))))) HQ1.out H_ww.out H_en.out (by omega) HN.out)
  go_wp2_with (rw [HV16.out])
  refine C17.out.mono ?_
  rintro e w17 ⟨p17, n17, c17, rfl, o17, x17, l17⟩
  clear ja
  have S17 := Lib.hid o17.sl
  clear o17
  have D18 := Lib.hid x17
  have EX18 := Lib.hid (EX17.out.trans x17)
  clear x17
  clear C17
  obtain ⟨V18, hV⟩ : ∃ V, w17.alloc (.cells #[.slice p17 n17 c17] 25) = V := ⟨_, rfl⟩
  have R18 := Lib.hid (show V18.heap[w17.heap.size]? = some (.cells #[.slice p17 n17 c17] 25 (0, 0)) by rw [← hV]; exact heap_alloc_new w17 _)
  have x18 : Ext w17 V18 := by rw [← hV]; exact (Ext.refl _).alloc _
  have HV18 := Lib.hid hV
  clear hV
  have D19 := Lib.hid x18
  have EX19 := Lib.hid (EX18.out.trans x18)
  clear x18
  have ja := drow_cell (rowE (Ext.trans D2.out (Ext.trans D3.out (Ext.trans D4.out (Ext.trans D5.out (Ext.trans D6.out (Ext.trans D7.out (Ext.trans D8.out (Ext.trans D9.out (Ext.trans D10.out (Ext.trans D11.out (Ext.trans D12.out (Ext.trans D13.out (Ext.trans D14.out (Ext.trans D15.out (Ext.trans D16.out (Ext.trans D17.out (Ext.trans D18.out D19.out))))))))))))))))) R1.out)
  have C19 := Lib.hid (rdover_gen A nn ww en (HA1.out.old (Ext.trans D1.out (Ext.trans D2.out (Ext.trans D3.out (Ext.trans D4.out (Ext.trans D5.out (Ext.trans D6.out (Ext.trans D7.out (Ext.trans D8.out (Ext.trans D9.out (Ext.trans D10.out (Ext.trans D11.out (Ext.trans D12.out (Ext.trans D13.out (Ext.trans D14.out (Ext.trans D15.out (Ext.trans D16.out (Ext.trans D17.out (Ext.trans D18.out D19.out))))))))))))))))))) HQ1.out H_ww.out H_en.out (by omega) HN.out)
  go_wp2_with (rw [HV18.out])
  refine C19.out.mono ?_
  rintro e w19 ⟨p19, n19, c19, rfl, o19, x19, l19⟩
  clear ja
  have S19 := Lib.hid o19.sl
  clear o19
  have D20 := Lib.hid x19
  have EX20 := Lib.hid (EX19.out.trans x19)
  clear x19
  clear C19
  obtain ⟨V20, hV⟩ : ∃ V, w19.alloc (.cells #[.slice p19 n19 c19] 25) = V := ⟨_, rfl⟩
  have R20 := Lib.hid (show V20.heap[w19.heap.size]? = some (.cells #[.slice p19 n19 c19] 25 (0, 0)) by rw [← hV]; exact heap_alloc_new w19 _)
  have x20 : Ext w19 V20 := by rw [← hV]; exact (Ext.refl _).alloc _
  have HV20 := Lib.hid hV
  clear hV
  have D21 := Lib.hid x20
  have EX21 := Lib.hid (EX20.out.trans x20)
  clear x20
  have ja := drow_cell (rowE (Ext.trans D2.out (Ext.trans D3.out (Ext.trans D4.out (Ext.trans D5.out (Ext.trans D6.out (Ext.trans D7.out (Ext.trans D8.out (Ext.trans D9.out (Ext.trans D10.out (Ext.trans D11.out (Ext.trans D12.out (Ext.trans D13.out (Ext.trans D14.out (Ext.trans D15.out (Ext.trans D16.out (Ext.trans D17.out (Ext.trans D18.out (Ext.trans D19.out (Ext.trans D20.out D21.out))))))))))))))))))) R1.out)
  have C21 := Lib.hid (dtrunc_at A mm rr (HA1.out.old (Ext.trans D1.out (Ext.trans D2.out (Ext.trans D3.out (Ext.trans D4.out (Ext.trans D5.out (Ext.trans D6.out (Ext.trans D7.out (Ext.trans D8.out (Ext.trans D9.out (Ext.trans D10.out (Ext.trans D11.out (Ext.trans D12.out (Ext.trans D13.out (Ext.trans D14.out (Ext.trans D15.out (Ext.trans D16.out (Ext.trans D17.out (Ext.trans D18.out (Ext.trans D19.out (Ext.trans D20.out D21.out))))))))))))))))))))) HQ1.out H_mm.out H_rr.out (by omega))
  go_wp2_with (rw [HV20.out])
  refine C21.out.mono ?_
  rintro e w21 ⟨p21, c21, n21, q21, d21, m21, rfl, o21, u21, x21, l21, y21⟩
  clear ja
  have S21 := Lib.hid o21.sl; have T21 := Lib.hid u21.sl
  clear o21 u21
  have D22 := Lib.hid x21
  have EX22 := Lib.hid (EX21.out.trans x21)
  clear x21
  clear C21
  obtain ⟨V22, hV⟩ : ∃ V, w21.alloc (.cells #[.slice q21 m21 d21] 25) = V := ⟨_, rfl⟩
  have R22 := Lib.hid (show V22.heap[w21.heap.size]? = some (.cells #[.slice q21 m21 d21] 25 (0, 0)) by rw [← hV]; exact heap_alloc_new w21 _)
  have x22 : Ext w21 V22 := by rw [← hV]; exact (Ext.refl _).alloc _
  have HV22 := Lib.hid hV
  clear hV
  have D23 := Lib.hid x22
  have EX23 := Lib.hid (EX22.out.trans x22)
  clear x22
  have ja := drow_cell (rowE (Ext.trans D2.out (Ext.trans D3.out (Ext.trans D4.out (Ext.trans D5.out (Ext.trans D6.out (Ext.trans D7.out (Ext.trans D8.out (Ext.trans D9.out (Ext.trans D10.out (Ext.trans D11.out (Ext.trans D12.out (Ext.trans D13.out (Ext.trans D14.out (Ext.trans D15.out (Ext.trans D16.out (Ext.trans D17.out (Ext.trans D18.out (Ext.trans D19.out (Ext.trans D20.out (Ext.trans D21.out (Ext.trans D22.out D23.out))))))))))))))))))))) R1.out)
  have C23 := Lib.hid (rdtrunc_at A mm rr (HA1.out.old (Ext.trans D1.out (Ext.trans D2.out (Ext.trans D3.out (Ext.trans D4.out (Ext.trans D5.out (Ext.trans D6.out (Ext.trans D7.out (Ext.trans D8.out (Ext.trans D9.out (Ext.trans D10.out (Ext.trans D11.out (Ext.trans D12.out (Ext.trans D13.out (Ext.trans D14.out (Ext.trans D15.out (Ext.trans D16.out (Ext.trans D17.out (Ext.trans D18.out (Ext.trans D19.out (Ext.trans D20.out (Ext.trans D21.out (Ext.trans D22.out D23.out))))))))))))))))))))))) HQ1.out H_mm.out H_rr.out (by omega))
  go_wp2_with (rw [HV22.out])
  refine C23.out.mono ?_
  rintro e w23 ⟨p23, c23, n23, q23, d23, m23, rfl, o23, u23, x23, l23, y23⟩
  clear ja
  have S23 := Lib.hid o23.sl; have T23 := Lib.hid u23.sl
  clear o23 u23
  have D24 := Lib.hid x23
  have EX24 := Lib.hid (EX23.out.trans x23)
  clear x23
  clear C23
  obtain ⟨V24, hV⟩ : ∃ V, w23.alloc (.cells #[.slice q23 m23 d23] 25) = V := ⟨_, rfl⟩
  have R24 := Lib.hid (show V24.heap[w23.heap.size]? = some (.cells #[.slice q23 m23 d23] 25 (0, 0)) by rw [← hV]; exact heap_alloc_new w23 _)
  have x24 : Ext w23 V24 := by rw [← hV]; exact (Ext.refl _).alloc _
  have HV24 := Lib.hid hV
  clear hV
  have D25 := Lib.hid x24
  have EX25 := Lib.hid (EX24.out.trans x24)
  clear x24
  have H25 : Hid (∀ w', Ext V24 w' → w'.cell? ⟨w.heap.size, 0, none⟩ = some (.slice a1 m1 c1) ∧ w'.cell? ⟨V1.heap.size, 0, none⟩ = some (.slice a2 m2 c2) ∧ w'.cell? ⟨w5.heap.size, 0, none⟩ = some (.slice p5 n5 c5) ∧ w'.cell? ⟨w7.heap.size, 0, none⟩ = some (.slice p7 n7 c7) ∧ w'.cell? ⟨w9.heap.size, 0, none⟩ = some (.slice p9 n9 c9) ∧ w'.cell? ⟨w11.heap.size, 0, none⟩ = some (.slice p11 n11 c11) ∧ w'.cell? ⟨w13.heap.size, 0, none⟩ = some (.slice p13 n13 c13) ∧ w'.cell? ⟨w15.heap.size, 0, none⟩ = some (.slice p15 n15 c15) ∧ w'.cell? ⟨w17.heap.size, 0, none⟩ = some (.slice p17 n17 c17) ∧ w'.cell? ⟨w19.heap.size, 0, none⟩ = some (.slice p19 n19 c19) ∧ w'.cell? ⟨w21.heap.size, 0, none⟩ = some (.slice q21 m21 d21) ∧ w'.cell? ⟨w23.heap.size, 0, none⟩ = some (.slice q23 m23 d23)) := Lib.hid (fun w' h => ⟨drow_cell (rowE (Ext.trans (Ext.trans D2.out (Ext.trans D3.out (Ext.trans D4.out (Ext.trans D5.out (Ext.trans D6.out (Ext.trans D7.out (Ext.trans D8.out (Ext.trans D9.out (Ext.trans D10.out (Ext.trans D11.out (Ext.trans D12.out (Ext.trans D13.out (Ext.trans D14.out (Ext.trans D15.out (Ext.trans D16.out (Ext.trans D17.out (Ext.trans D18.out (Ext.trans D19.out (Ext.trans D20.out (Ext.trans D21.out (Ext.trans D22.out (Ext.trans D23.out (Ext.trans D24.out D25.out))))))))))))))))))))))) h) R1.out), drow_cell (rowE (Ext.trans (Ext.trans D3.out (Ext.trans D4.out (Ext.trans D5.out (Ext.trans D6.out (Ext.trans D7.out (Ext.trans D8.out (Ext.trans D9.out (Ext.trans D10.out (Ext.trans D11.out (Ext.trans D12.out (Ext.trans D13.out (Ext.trans D14.out (Ext.trans D15.out (Ext.trans D16.out (Ext.trans D17.out (Ext.trans D18.out (Ext.trans D19.out (Ext.trans D20.out (Ext.trans D21.out (Ext.trans D22.out (Ext.trans D23.out (Ext.trans D24.out D25.out)))))))))))))))))))))) h) R2.out), drow_cell (rowE (Ext.trans (Ext.trans D8.out (Ext.trans D9.out (Ext.trans D10.out (Ext.trans D11.out (Ext.trans D12.out (Ext.trans D13.out (Ext.trans D14.out (Ext.trans D15.out (Ext.trans D16.out (Ext.trans D17.out (Ext.trans D18.out (Ext.trans D19.out (Ext.trans D20.out (Ext.trans D21.out (Ext.trans D22.out (Ext.trans D23.out (Ext.trans D24.out D25.out))))))))))))))))) h) R6.out), drow_cell (rowE (Ext.trans (Ext.trans D10.out (Ext.trans D11.out (Ext.trans D12.out (Ext.trans D13.out (Ext.trans D14.out (Ext.trans D15.out (Ext.trans D16.out (Ext.trans D17.out (Ext.trans D18.out (Ext.trans D19.out (Ext.trans D20.out (Ext.trans D21.out (Ext.trans D22.out (Ext.trans D23.out (Ext.trans D24.out D25.out))))))))))))))) h) R8.out), drow_cell (rowE (Ext.trans (Ext.trans D12.out (Ext.trans D13.out (Ext.trans D14.out (Ext.trans D15.out (Ext.trans D16.out (Ext.trans D17.out (Ext.trans D18.out (Ext.trans D19.out (Ext.trans D20.out (Ext.trans D21.out (Ext.trans D22.out (Ext.trans D23.out (Ext.trans D24.out D25.out))))))))))))) h) R10.out), drow_cell (rowE (Ext.trans (Ext.trans D14.out (Ext.trans D15.out (Ext.trans D16.out (Ext.trans D17.out (Ext.trans D18.out (Ext.trans D19.out (Ext.trans D20.out (Ext.trans D21.out (Ext.trans D22.out (Ext.trans D23.out (Ext.trans D24.out D25.out))))))))))) h) R12.out), drow_cell (rowE (Ext.trans (Ext.trans D16.out (Ext.trans D17.out (Ext.trans D18.out (Ext.trans D19.out (Ext.trans D20.out (Ext.trans D21.out (Ext.trans D22.out (Ext.trans D23.out (Ext.trans D24.out D25.out))))))))) h) R14.out), drow_cell (rowE (Ext.trans (Ext.trans D18.out (Ext.trans D19.out (Ext.trans D20.out (Ext.trans D21.out (Ext.trans D22.out (Ext.trans D23.out (Ext.trans D24.out D25.out))))))) h) R16.out), drow_cell (rowE (Ext.trans (Ext.trans D20.out (Ext.trans D21.out (Ext.trans D22.out (Ext.trans D23.out (Ext.trans D24.out D25.out))))) h) R18.out), drow_cell (rowE (Ext.trans (Ext.trans D22.out (Ext.trans D23.out (Ext.trans D24.out D25.out))) h) R20.out), drow_cell (rowE (Ext.trans (Ext.trans D24.out D25.out) h) R22.out), drow_cell (rowE h R24.out)⟩)
  go_wp2_with (rw [HV24.out])
  go_region_held3 (fun w' => w'.cell? ⟨w.heap.size, 0, none⟩ = some (.slice a1 m1 c1) ∧ w'.cell? ⟨V1.heap.size, 0, none⟩ = some (.slice a2 m2 c2) ∧ w'.cell? ⟨w5.heap.size, 0, none⟩ = some (.slice p5 n5 c5) ∧ w'.cell? ⟨w7.heap.size, 0, none⟩ = some (.slice p7 n7 c7) ∧ w'.cell? ⟨w9.heap.size, 0, none⟩ = some (.slice p9 n9 c9) ∧ w'.cell? ⟨w11.heap.size, 0, none⟩ = some (.slice p11 n11 c11) ∧ w'.cell? ⟨w13.heap.size, 0, none⟩ = some (.slice p13 n13 c13) ∧ w'.cell? ⟨w15.heap.size, 0, none⟩ = some (.slice p15 n15 c15) ∧ w'.cell? ⟨w17.heap.size, 0, none⟩ = some (.slice p17 n17 c17) ∧ w'.cell? ⟨w19.heap.size, 0, none⟩ = some (.slice p19 n19 c19) ∧ w'.cell? ⟨w21.heap.size, 0, none⟩ = some (.slice q21 m21 d21) ∧ w'.cell? ⟨w23.heap.size, 0, none⟩ = some (.slice q23 m23 d23))
    (first | exact H25.out _ (Ext.refl _) | exact H25.out _ (Ext.refl _).drew | exact H25.out _ (by assumption))
    (first
      | (go_at_call 42; refine (dmul_at A B pp (HA1.out.old ((Ext.trans D1.out (Ext.trans D2.out (Ext.trans D3.out (Ext.trans D4.out (Ext.trans D5.out (Ext.trans D6.out (Ext.trans D7.out (Ext.trans D8.out (Ext.trans D9.out (Ext.trans D10.out (Ext.trans D11.out (Ext.trans D12.out (Ext.trans D13.out (Ext.trans D14.out (Ext.trans D15.out (Ext.trans D16.out (Ext.trans D17.out (Ext.trans D18.out (Ext.trans D19.out (Ext.trans D20.out (Ext.trans D21.out (Ext.trans D22.out (Ext.trans D23.out (Ext.trans D24.out D25.out)))))))))))))))))))))))).trans (Ext.refl V24).drew)) (HA2.out.old ((Ext.trans D1.out (Ext.trans D2.out (Ext.trans D3.out (Ext.trans D4.out (Ext.trans D5.out (Ext.trans D6.out (Ext.trans D7.out (Ext.trans D8.out (Ext.trans D9.out (Ext.trans D10.out (Ext.trans D11.out (Ext.trans D12.out (Ext.trans D13.out (Ext.trans D14.out (Ext.trans D15.out (Ext.trans D16.out (Ext.trans D17.out (Ext.trans D18.out (Ext.trans D19.out (Ext.trans D20.out (Ext.trans D21.out (Ext.trans D22.out (Ext.trans D23.out (Ext.trans D24.out D25.out)))))))))))))))))))))))).trans (Ext.refl V24).drew)) HQ1.out HQ2.out H_pp.out (by omega) (by omega)).mono ?_; rintro e wr25_0 ⟨pr25_0, nr25_0, cr25_0, rfl, or25_0, xr25_0, lr25_0⟩; have Er25_0 : Ext V24 wr25_0 := (Ext.refl V24).drew.trans xr25_0)
      | (go_at_call 43; refine (rdmul_at A B pp (HA1.out.old ((Ext.trans D1.out (Ext.trans D2.out (Ext.trans D3.out (Ext.trans D4.out (Ext.trans D5.out (Ext.trans D6.out (Ext.trans D7.out (Ext.trans D8.out (Ext.trans D9.out (Ext.trans D10.out (Ext.trans D11.out (Ext.trans D12.out (Ext.trans D13.out (Ext.trans D14.out (Ext.trans D15.out (Ext.trans D16.out (Ext.trans D17.out (Ext.trans D18.out (Ext.trans D19.out (Ext.trans D20.out (Ext.trans D21.out (Ext.trans D22.out (Ext.trans D23.out (Ext.trans D24.out D25.out)))))))))))))))))))))))).trans Er25_0)) (HA2.out.old ((Ext.trans D1.out (Ext.trans D2.out (Ext.trans D3.out (Ext.trans D4.out (Ext.trans D5.out (Ext.trans D6.out (Ext.trans D7.out (Ext.trans D8.out (Ext.trans D9.out (Ext.trans D10.out (Ext.trans D11.out (Ext.trans D12.out (Ext.trans D13.out (Ext.trans D14.out (Ext.trans D15.out (Ext.trans D16.out (Ext.trans D17.out (Ext.trans D18.out (Ext.trans D19.out (Ext.trans D20.out (Ext.trans D21.out (Ext.trans D22.out (Ext.trans D23.out (Ext.trans D24.out D25.out)))))))))))))))))))))))).trans Er25_0)) HQ1.out HQ2.out H_pp.out (by omega) (by omega)).mono ?_; rintro e wr25_1 ⟨pr25_1, nr25_1, cr25_1, rfl, or25_1, xr25_1, lr25_1⟩; have Er25_1 : Ext V24 wr25_1 := Er25_0.trans xr25_1)
      | (go_at_call_of 18 pr25_0; refine (hdec_at (or25_0.sl.old xr25_1) or25_1.sl (by omega) (by omega)).mono ?_; rintro e wr25_2 ⟨rfl, xr25_2⟩; have Er25_2 : Ext V24 wr25_2 := Er25_1.trans xr25_2)
      | (go_at_call_of 18 p5; refine (hdec_at (S5.out.old ((Ext.trans D7.out (Ext.trans D8.out (Ext.trans D9.out (Ext.trans D10.out (Ext.trans D11.out (Ext.trans D12.out (Ext.trans D13.out (Ext.trans D14.out (Ext.trans D15.out (Ext.trans D16.out (Ext.trans D17.out (Ext.trans D18.out (Ext.trans D19.out (Ext.trans D20.out (Ext.trans D21.out (Ext.trans D22.out (Ext.trans D23.out (Ext.trans D24.out D25.out)))))))))))))))))).trans Er25_2)) (S7.out.old ((Ext.trans D9.out (Ext.trans D10.out (Ext.trans D11.out (Ext.trans D12.out (Ext.trans D13.out (Ext.trans D14.out (Ext.trans D15.out (Ext.trans D16.out (Ext.trans D17.out (Ext.trans D18.out (Ext.trans D19.out (Ext.trans D20.out (Ext.trans D21.out (Ext.trans D22.out (Ext.trans D23.out (Ext.trans D24.out D25.out)))))))))))))))).trans Er25_2)) (by omega) (by omega)).mono ?_; rintro e wr25_3 ⟨rfl, xr25_3⟩; have Er25_3 : Ext V24 wr25_3 := Er25_2.trans xr25_3)
      | (go_at_call_of 18 p9; refine (hdec_at (S9.out.old ((Ext.trans D11.out (Ext.trans D12.out (Ext.trans D13.out (Ext.trans D14.out (Ext.trans D15.out (Ext.trans D16.out (Ext.trans D17.out (Ext.trans D18.out (Ext.trans D19.out (Ext.trans D20.out (Ext.trans D21.out (Ext.trans D22.out (Ext.trans D23.out (Ext.trans D24.out D25.out)))))))))))))).trans Er25_3)) (S11.out.old ((Ext.trans D13.out (Ext.trans D14.out (Ext.trans D15.out (Ext.trans D16.out (Ext.trans D17.out (Ext.trans D18.out (Ext.trans D19.out (Ext.trans D20.out (Ext.trans D21.out (Ext.trans D22.out (Ext.trans D23.out (Ext.trans D24.out D25.out)))))))))))).trans Er25_3)) (by omega) (by omega)).mono ?_; rintro e wr25_4 ⟨rfl, xr25_4⟩; have Er25_4 : Ext V24 wr25_4 := Er25_3.trans xr25_4)
      | (go_at_call_of 18 p13; refine (hdec_at (S13.out.old ((Ext.trans D15.out (Ext.trans D16.out (Ext.trans D17.out (Ext.trans D18.out (Ext.trans D19.out (Ext.trans D20.out (Ext.trans D21.out (Ext.trans D22.out (Ext.trans D23.out (Ext.trans D24.out D25.out)))))))))).trans Er25_4)) (S15.out.old ((Ext.trans D17.out (Ext.trans D18.out (Ext.trans D19.out (Ext.trans D20.out (Ext.trans D21.out (Ext.trans D22.out (Ext.trans D23.out (Ext.trans D24.out D25.out)))))))).trans Er25_4)) (by omega) (by omega)).mono ?_; rintro e wr25_5 ⟨rfl, xr25_5⟩; have Er25_5 : Ext V24 wr25_5 := Er25_4.trans xr25_5)
      | (go_at_call_of 18 p17; refine (hdec_at (S17.out.old ((Ext.trans D19.out (Ext.trans D20.out (Ext.trans D21.out (Ext.trans D22.out (Ext.trans D23.out (Ext.trans D24.out D25.out)))))).trans Er25_5)) (S19.out.old ((Ext.trans D21.out (Ext.trans D22.out (Ext.trans D23.out (Ext.trans D24.out D25.out)))).trans Er25_5)) (by omega) (by omega)).mono ?_; rintro e wr25_6 ⟨rfl, xr25_6⟩; have Er25_6 : Ext V24 wr25_6 := Er25_5.trans xr25_6)
      | (go_at_call 44; refine (hnat_at true (S21.out.old ((Ext.trans D23.out (Ext.trans D24.out D25.out)).trans Er25_6)) (S23.out.old (D25.out.trans Er25_6)) (decide_eq_true rfl) (by omega) (by omega)).mono ?_; rintro e wr25_7 ⟨rfl, xr25_7⟩; have Er25_7 : Ext V24 wr25_7 := Er25_6.trans xr25_7)
      | (go_at_call_of 18 q21; refine (hdec_at (T21.out.old ((Ext.trans D23.out (Ext.trans D24.out D25.out)).trans Er25_7)) (T23.out.old (D25.out.trans Er25_7)) (by omega) (by omega)).mono ?_; rintro e wr25_8 ⟨rfl, xr25_8⟩; have Er25_8 : Ext V24 wr25_8 := Er25_7.trans xr25_8))
  have x25 := Er25_8
  clear xr25_0 or25_0 Er25_0 xr25_1 or25_1 Er25_1 xr25_2 Er25_2 xr25_3 Er25_3 xr25_4 Er25_4 xr25_5 Er25_5 xr25_6 Er25_6 xr25_7 Er25_7 xr25_8 Er25_8
  have D26 := Lib.hid x25
  have EX26 := Lib.hid (EX25.out.trans x25)
  clear x25
  go_wp2_with fail
  go_ret
  exact ⟨rfl, EX26.out⟩

end Go.Proofs.YtdafjajleglccaaGreatDoor
