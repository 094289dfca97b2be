/- gleanlaw2.known() is true. -/
import Derived.Test.YtifoflicflodcaaGreatDoorDAt
namespace Go.Proofs.YtifoflicflodcaaGreatDoor
open Go.RowKit Go.Lib

set_option maxHeartbeats 16000000 in
set_option maxRecDepth 100000 in
theorem known2_calls (w : World) (htab : Tab w) (hM : MaxL w) : Calls Tryz.prog 5 #[] w (RetE (.bool true) w) := by
  have HT := Lib.hid htab; have HM := Lib.hid hM
  clear htab hM
  go_enter Tryz.func5, Tryz.ntmps5
  have C1 := Lib.hid (dof_at 1 1000000000000000000000000000000000000 (by decide) (by decide +kernel) w)
  go_wp2_with fail
  refine C1.out.mono ?_
  rintro e w1 ⟨p1, n1, c1, rfl, o1, x1, l1⟩
  have S1 := Lib.hid o1.sl
  clear o1
  have D1 := Lib.hid x1
  have EX1 := Lib.hid x1
  clear x1
  clear C1
  have C2 := Lib.hid (dof_at 3 3000000000000000000000000000000000000 (by decide) (by decide +kernel) w1)
  go_wp2_with fail
  refine C2.out.mono ?_
  rintro e w2 ⟨p2, n2, c2, rfl, o2, x2, l2⟩
  have S2 := Lib.hid o2.sl
  clear o2
  have D2 := Lib.hid x2
  have EX2 := Lib.hid (EX1.out.trans x2)
  clear x2
  clear C2
  have C3 := Lib.hid (dquo_at 1000000000000000000000000000000000000 3000000000000000000000000000000000000 333333333333333333333333333333333333 (S1.out.old D2.out) S2.out (val_lim _) (val_lim _) (by decide +kernel) (by decide +kernel) (by omega) (by omega))
  go_wp2_with fail
  refine C3.out.mono ?_
  rintro e w3 ⟨p3, n3, c3, rfl, o3, x3, l3⟩
  have S3 := Lib.hid o3.sl
  clear o3
  have D3 := Lib.hid x3
  have EX3 := Lib.hid (EX2.out.trans x3)
  clear x3
  clear C3
  obtain ⟨V4, hV⟩ : ∃ V, w3.alloc (.cells #[.slice p3 n3 c3] 25) = V := ⟨_, rfl⟩
  have R4 := Lib.hid (show V4.heap[w3.heap.size]? = some (.cells #[.slice p3 n3 c3] 25 (0, 0)) by rw [← hV]; exact heap_alloc_new w3 _)
  have x4 : Ext w3 V4 := by rw [← hV]; exact (Ext.refl _).alloc _
  have HV4 := Lib.hid hV
  clear hV
  have D4 := Lib.hid x4
  have EX4 := Lib.hid (EX3.out.trans x4)
  clear x4
  have C5 := Lib.hid (dof_at 1 1000000000000000000000000000000000000 (by decide) (by decide +kernel) V4)
  go_wp2_with (rw [HV4.out])
  refine C5.out.mono ?_
  rintro e w5 ⟨p5, n5, c5, rfl, o5, x5, l5⟩
  have S5 := Lib.hid o5.sl
  clear o5
  have D5 := Lib.hid x5
  have EX5 := Lib.hid (EX4.out.trans x5)
  clear x5
  clear C5
  have C6 := Lib.hid (dof_at 1 1000000000000000000000000000000000000 (by decide) (by decide +kernel) w5)
  go_wp2_with fail
  refine C6.out.mono ?_
  rintro e w6 ⟨p6, n6, c6, rfl, o6, x6, l6⟩
  have S6 := Lib.hid o6.sl
  clear o6
  have D6 := Lib.hid x6
  have EX6 := Lib.hid (EX5.out.trans x6)
  clear x6
  clear C6
  have C7 := Lib.hid (dof_at 3 3000000000000000000000000000000000000 (by decide) (by decide +kernel) w6)
  go_wp2_with fail
  refine C7.out.mono ?_
  rintro e w7 ⟨p7, n7, c7, rfl, o7, x7, l7⟩
  have S7 := Lib.hid o7.sl
  clear o7
  have D7 := Lib.hid x7
  have EX7 := Lib.hid (EX6.out.trans x7)
  clear x7
  clear C7
  have C8 := Lib.hid (dmuldivup_at 1000000000000000000000000000000000000 1000000000000000000000000000000000000 3000000000000000000000000000000000000 333333333333333333333333333333333334 (S5.out.old (Ext.trans D6.out D7.out)) (S6.out.old D7.out) S7.out (val_lim _) (val_lim _) (val_lim _) (by decide +kernel) (by decide +kernel) (by omega) (by omega) (by omega))
  go_wp2_with fail
  refine C8.out.mono ?_
  rintro e w8 ⟨p8, n8, c8, rfl, o8, x8, l8⟩
  have S8 := Lib.hid o8.sl
  clear o8
  have D8 := Lib.hid x8
  have EX8 := Lib.hid (EX7.out.trans x8)
  clear x8
  clear C8
  obtain ⟨V9, hV⟩ : ∃ V, w8.alloc (.cells #[.slice p8 n8 c8] 25) = V := ⟨_, rfl⟩
  have R9 := Lib.hid (show V9.heap[w8.heap.size]? = some (.cells #[.slice p8 n8 c8] 25 (0, 0)) by rw [← hV]; exact heap_alloc_new w8 _)
  have x9 : Ext w8 V9 := by rw [← hV]; exact (Ext.refl _).alloc _
  have HV9 := Lib.hid hV
  clear hV
  have D9 := Lib.hid x9
  have EX9 := Lib.hid (EX8.out.trans x9)
  clear x9
  have C10 := Lib.hid (dof_at 2 2000000000000000000000000000000000000 (by decide) (by decide +kernel) V9)
  go_wp2_with (rw [HV9.out])
  refine C10.out.mono ?_
  rintro e w10 ⟨p10, n10, c10, rfl, o10, x10, l10⟩
  have S10 := Lib.hid o10.sl
  clear o10
  have D10 := Lib.hid x10
  have EX10 := Lib.hid (EX9.out.trans x10)
  clear x10
  clear C10
  have C11 := Lib.hid (dof_at 1 1000000000000000000000000000000000000 (by decide) (by decide +kernel) w10)
  go_wp2_with fail
  refine C11.out.mono ?_
  rintro e w11 ⟨p11, n11, c11, rfl, o11, x11, l11⟩
  have S11 := Lib.hid o11.sl
  clear o11
  have D11 := Lib.hid x11
  have EX11 := Lib.hid (EX10.out.trans x11)
  clear x11
  clear C11
  have C12 := Lib.hid (dof_at 6 6000000000000000000000000000000000000 (by decide) (by decide +kernel) w11)
  go_wp2_with fail
  refine C12.out.mono ?_
  rintro e w12 ⟨p12, n12, c12, rfl, o12, x12, l12⟩
  have S12 := Lib.hid o12.sl
  clear o12
  have D12 := Lib.hid x12
  have EX12 := Lib.hid (EX11.out.trans x12)
  clear x12
  clear C12
  have C13 := Lib.hid (dmuldiv_at 2000000000000000000000000000000000000 1000000000000000000000000000000000000 6000000000000000000000000000000000000 333333333333333333333333333333333333 (S10.out.old (Ext.trans D11.out D12.out)) (S11.out.old D12.out) S12.out (val_lim _) (val_lim _) (val_lim _) (by decide +kernel) (by decide +kernel) (by omega) (by omega) (by omega))
  go_wp2_with fail
  refine C13.out.mono ?_
  rintro e w13 ⟨p13, n13, c13, rfl, o13, x13, l13⟩
  have S13 := Lib.hid o13.sl
  clear o13
  have D13 := Lib.hid x13
  have EX13 := Lib.hid (EX12.out.trans x13)
  clear x13
  clear C13
  obtain ⟨V14, hV⟩ : ∃ V, w13.alloc (.cells #[.slice p13 n13 c13] 25) = V := ⟨_, rfl⟩
  have R14 := Lib.hid (show V14.heap[w13.heap.size]? = some (.cells #[.slice p13 n13 c13] 25 (0, 0)) by rw [← hV]; exact heap_alloc_new w13 _)
  have x14 : Ext w13 V14 := by rw [← hV]; exact (Ext.refl _).alloc _
  have HV14 := Lib.hid hV
  clear hV
  have D14 := Lib.hid x14
  have EX14 := Lib.hid (EX13.out.trans x14)
  clear x14
  have C15 := Lib.hid (dof_at 1 1000000000000000000000000000000000000 (by decide) (by decide +kernel) V14)
  go_wp2_with (rw [HV14.out])
  refine C15.out.mono ?_
  rintro e w15 ⟨p15, n15, c15, rfl, o15, x15, l15⟩
  have S15 := Lib.hid o15.sl
  clear o15
  have D15 := Lib.hid x15
  have EX15 := Lib.hid (EX14.out.trans x15)
  clear x15
  clear C15
  have C16 := Lib.hid (dof_at 2 2000000000000000000000000000000000000 (by decide) (by decide +kernel) w15)
  go_wp2_with fail
  refine C16.out.mono ?_
  rintro e w16 ⟨p16, n16, c16, rfl, o16, x16, l16⟩
  have S16 := Lib.hid o16.sl
  clear o16
  have D16 := Lib.hid x16
  have EX16 := Lib.hid (EX15.out.trans x16)
  clear x16
  clear C16
  have C17 := Lib.hid (dsub_no 1000000000000000000000000000000000000 2000000000000000000000000000000000000 (S15.out.old D16.out) S16.out (val_lim _) (val_lim _) (by decide +kernel) (by omega) (by omega))
  go_wp2_with fail
  refine C17.out.mono ?_
  rintro e w17 ⟨p17, n17, c17, rfl, o17, x17, l17⟩
  have S17 := Lib.hid o17.sl
  clear o17
  have D17 := Lib.hid x17
  have EX17 := Lib.hid (EX16.out.trans x17)
  clear x17
  clear C17
  obtain ⟨V18, hV⟩ : ∃ V, w17.alloc (.cells #[.slice p17 n17 c17] 25) = V := ⟨_, rfl⟩
  have R18 := Lib.hid (show V18.heap[w17.heap.size]? = some (.cells #[.slice p17 n17 c17] 25 (0, 0)) by rw [← hV]; exact heap_alloc_new w17 _)
  have x18 : Ext w17 V18 := by rw [← hV]; exact (Ext.refl _).alloc _
  have HV18 := Lib.hid hV
  clear hV
  have D18 := Lib.hid x18
  have EX18 := Lib.hid (EX17.out.trans x18)
  clear x18
  have C19 := Lib.hid (dparse_no [49, 46, 53, 48] (by decide) k2_bad (HM.out.old EX18.out))
  go_wp2_with (rw [HV18.out])
  refine C19.out.mono ?_
  rintro e w19 ⟨p19, n19, c19, rfl, o19, x19, l19⟩
  have S19 := Lib.hid o19.sl
  clear o19
  have D19 := Lib.hid x19
  have EX19 := Lib.hid (EX18.out.trans x19)
  clear x19
  clear C19
  obtain ⟨V20, hV⟩ : ∃ V, w19.alloc (.cells #[.slice p19 n19 c19] 25) = V := ⟨_, rfl⟩
  have R20 := Lib.hid (show V20.heap[w19.heap.size]? = some (.cells #[.slice p19 n19 c19] 25 (0, 0)) by rw [← hV]; exact heap_alloc_new w19 _)
  have x20 : Ext w19 V20 := by rw [← hV]; exact (Ext.refl _).alloc _
  have HV20 := Lib.hid hV
  clear hV
  have D20 := Lib.hid x20
  have EX20 := Lib.hid (EX19.out.trans x20)
  clear x20
  have C21 := Lib.hid (dparse_at [50, 46, 55, 53] 2750000000000000000000000000000000000 (by decide) k2_p (HM.out.old EX20.out))
  go_wp2_with (rw [HV20.out])
  refine C21.out.mono ?_
  rintro e w21 ⟨p21, n21, c21, rfl, o21, x21, l21⟩
  have S21 := Lib.hid o21.sl
  clear o21
  have D21 := Lib.hid x21
  have EX21 := Lib.hid (EX20.out.trans x21)
  clear x21
  clear C21
  obtain ⟨V22, hV⟩ : ∃ V, w21.alloc (.cells #[.slice p21 n21 c21] 25) = V := ⟨_, rfl⟩
  have R22 := Lib.hid (show V22.heap[w21.heap.size]? = some (.cells #[.slice p21 n21 c21] 25 (0, 0)) by rw [← hV]; exact heap_alloc_new w21 _)
  have x22 : Ext w21 V22 := by rw [← hV]; exact (Ext.refl _).alloc _
  have HV22 := Lib.hid hV
  clear hV
  have D22 := Lib.hid x22
  have EX22 := Lib.hid (EX21.out.trans x22)
  clear x22
  have C23 := Lib.hid (dof_at 1 1000000000000000000000000000000000000 (by decide) (by decide +kernel) V22)
  go_wp2_with (rw [HV22.out])
  refine C23.out.mono ?_
  rintro e w23 ⟨p23, n23, c23, rfl, o23, x23, l23⟩
  have S23 := Lib.hid o23.sl
  clear o23
  have D23 := Lib.hid x23
  have EX23 := Lib.hid (EX22.out.trans x23)
  clear x23
  clear C23
  have C24 := Lib.hid (dover_at 1000000000000000000000000000000000000 4 250000000000000000000000000000000000 S23.out (val_lim _) (by decide) (by decide +kernel) (by omega) (by decide))
  go_wp2_with fail
  refine C24.out.mono ?_
  rintro e w24 ⟨p24, n24, c24, rfl, o24, x24, l24⟩
  have S24 := Lib.hid o24.sl
  clear o24
  have D24 := Lib.hid x24
  have EX24 := Lib.hid (EX23.out.trans x24)
  clear x24
  clear C24
  obtain ⟨V25, hV⟩ : ∃ V, w24.alloc (.cells #[.slice p24 n24 c24] 25) = V := ⟨_, rfl⟩
  have R25 := Lib.hid (show V25.heap[w24.heap.size]? = some (.cells #[.slice p24 n24 c24] 25 (0, 0)) by rw [← hV]; exact heap_alloc_new w24 _)
  have x25 : Ext w24 V25 := by rw [← hV]; exact (Ext.refl _).alloc _
  have HV25 := Lib.hid hV
  clear hV
  have D25 := Lib.hid x25
  have EX25 := Lib.hid (EX24.out.trans x25)
  clear x25
  have C26 := Lib.hid (dof_at 1 1000000000000000000000000000000000000 (by decide) (by decide +kernel) V25)
  go_wp2_with (rw [HV25.out])
  refine C26.out.mono ?_
  rintro e w26 ⟨p26, n26, c26, rfl, o26, x26, l26⟩
  have S26 := Lib.hid o26.sl
  clear o26
  have D26 := Lib.hid x26
  have EX26 := Lib.hid (EX25.out.trans x26)
  clear x26
  clear C26
  have C27 := Lib.hid (dquo_no S26.out (Sl.nil w26) rfl (by omega) (by omega))
  go_wp2_with fail
  refine C27.out.mono ?_
  rintro e w27 ⟨p27, n27, c27, rfl, o27, x27, l27⟩
  have S27 := Lib.hid o27.sl
  clear o27
  have D27 := Lib.hid x27
  have EX27 := Lib.hid (EX26.out.trans x27)
  clear x27
  clear C27
  obtain ⟨V28, hV⟩ : ∃ V, w27.alloc (.cells #[.slice p27 n27 c27] 25) = V := ⟨_, rfl⟩
  have R28 := Lib.hid (show V28.heap[w27.heap.size]? = some (.cells #[.slice p27 n27 c27] 25 (0, 0)) by rw [← hV]; exact heap_alloc_new w27 _)
  have x28 : Ext w27 V28 := by rw [← hV]; exact (Ext.refl _).alloc _
  have HV28 := Lib.hid hV
  clear hV
  have D28 := Lib.hid x28
  have EX28 := Lib.hid (EX27.out.trans x28)
  clear x28
  have C29 := Lib.hid (dzero_at 0 true (Sl.nil V28) rfl rfl (by omega))
  go_wp2_with (rw [HV28.out])
  refine C29.out.mono ?_
  rintro e w29 ⟨rfl, x29⟩
  have D29 := Lib.hid x29
  have EX29 := Lib.hid (EX28.out.trans x29)
  clear x29
  clear C29
  have jp := drow_cell (rowE (Ext.trans D23.out (Ext.trans D24.out (Ext.trans D25.out (Ext.trans D26.out (Ext.trans D27.out (Ext.trans D28.out D29.out)))))) R22.out)
  have C30 := Lib.hid (dtrunc_at 2750000000000000000000000000000000000 2 750000000000000000000000000000000000 (S21.out.old (Ext.trans D22.out (Ext.trans D23.out (Ext.trans D24.out (Ext.trans D25.out (Ext.trans D26.out (Ext.trans D27.out (Ext.trans D28.out D29.out)))))))) (val_lim _) (by decide +kernel) (by decide +kernel) (by omega))
  go_wp2_with fail
  refine C30.out.mono ?_
  rintro e w30 ⟨p30, c30, n30, q30, d30, m30, rfl, o30, u30, x30, l30, y30⟩
  clear jp
  have S30 := Lib.hid o30.sl; have T30 := Lib.hid u30.sl
  clear o30 u30
  have D30 := Lib.hid x30
  have EX30 := Lib.hid (EX29.out.trans x30)
  clear x30
  clear C30
  obtain ⟨V31, hV⟩ : ∃ V, w30.alloc (.cells #[.slice q30 m30 d30] 25) = V := ⟨_, rfl⟩
  have R31 := Lib.hid (show V31.heap[w30.heap.size]? = some (.cells #[.slice q30 m30 d30] 25 (0, 0)) by rw [← hV]; exact heap_alloc_new w30 _)
  have x31 : Ext w30 V31 := by rw [← hV]; exact (Ext.refl _).alloc _
  have HV31 := Lib.hid hV
  clear hV
  have D31 := Lib.hid x31
  have EX31 := Lib.hid (EX30.out.trans x31)
  clear x31
  have jq := drow_cell (rowE (Ext.trans D5.out (Ext.trans D6.out (Ext.trans D7.out (Ext.trans D8.out (Ext.trans D9.out (Ext.trans D10.out (Ext.trans D11.out (Ext.trans D12.out (Ext.trans D13.out (Ext.trans D14.out (Ext.trans D15.out (Ext.trans D16.out (Ext.trans D17.out (Ext.trans D18.out (Ext.trans D19.out (Ext.trans D20.out (Ext.trans D21.out (Ext.trans D22.out (Ext.trans D23.out (Ext.trans D24.out (Ext.trans D25.out (Ext.trans D26.out (Ext.trans D27.out (Ext.trans D28.out (Ext.trans D29.out (Ext.trans D30.out D31.out)))))))))))))))))))))))))) R4.out)
  have jqu := jq; rw [← HV31.out] at jqu
  have C32 := Lib.hid (dtext_at 333333333333333333333333333333333333 ([48, 46] ++ List.replicate 36 51) (S3.out.old (Ext.trans D4.out (Ext.trans D5.out (Ext.trans D6.out (Ext.trans D7.out (Ext.trans D8.out (Ext.trans D9.out (Ext.trans D10.out (Ext.trans D11.out (Ext.trans D12.out (Ext.trans D13.out (Ext.trans D14.out (Ext.trans D15.out (Ext.trans D16.out (Ext.trans D17.out (Ext.trans D18.out (Ext.trans D19.out (Ext.trans D20.out (Ext.trans D21.out (Ext.trans D22.out (Ext.trans D23.out (Ext.trans D24.out (Ext.trans D25.out (Ext.trans D26.out (Ext.trans D27.out (Ext.trans D28.out (Ext.trans D29.out (Ext.trans D30.out D31.out)))))))))))))))))))))))))))) (val_lim _) k2_third (by omega) (HT.out.old EX31.out))
  go_wp2_with (rw [HV31.out])
  refine C32.out.mono ?_
  rintro e w32 ⟨rfl, x32⟩
  clear jq jqu
  have D32 := Lib.hid x32
  have EX32 := Lib.hid (EX31.out.trans x32)
  clear x32
  clear C32
  have ju := drow_cell (rowE (Ext.trans D10.out (Ext.trans D11.out (Ext.trans D12.out (Ext.trans D13.out (Ext.trans D14.out (Ext.trans D15.out (Ext.trans D16.out (Ext.trans D17.out (Ext.trans D18.out (Ext.trans D19.out (Ext.trans D20.out (Ext.trans D21.out (Ext.trans D22.out (Ext.trans D23.out (Ext.trans D24.out (Ext.trans D25.out (Ext.trans D26.out (Ext.trans D27.out (Ext.trans D28.out (Ext.trans D29.out (Ext.trans D30.out (Ext.trans D31.out D32.out)))))))))))))))))))))) R9.out)
  have C33 := Lib.hid (dtext_at 333333333333333333333333333333333334 ([48, 46] ++ List.replicate 35 51 ++ [52]) (S8.out.old (Ext.trans D9.out (Ext.trans D10.out (Ext.trans D11.out (Ext.trans D12.out (Ext.trans D13.out (Ext.trans D14.out (Ext.trans D15.out (Ext.trans D16.out (Ext.trans D17.out (Ext.trans D18.out (Ext.trans D19.out (Ext.trans D20.out (Ext.trans D21.out (Ext.trans D22.out (Ext.trans D23.out (Ext.trans D24.out (Ext.trans D25.out (Ext.trans D26.out (Ext.trans D27.out (Ext.trans D28.out (Ext.trans D29.out (Ext.trans D30.out (Ext.trans D31.out D32.out)))))))))))))))))))))))) (val_lim _) k2_up (by omega) (HT.out.old EX32.out))
  go_wp2_with fail
  refine C33.out.mono ?_
  rintro e w33 ⟨rfl, x33⟩
  clear ju
  have D33 := Lib.hid x33
  have EX33 := Lib.hid (EX32.out.trans x33)
  clear x33
  clear C33
  have jd := drow_cell (rowE (Ext.trans D15.out (Ext.trans D16.out (Ext.trans D17.out (Ext.trans D18.out (Ext.trans D19.out (Ext.trans D20.out (Ext.trans D21.out (Ext.trans D22.out (Ext.trans D23.out (Ext.trans D24.out (Ext.trans D25.out (Ext.trans D26.out (Ext.trans D27.out (Ext.trans D28.out (Ext.trans D29.out (Ext.trans D30.out (Ext.trans D31.out (Ext.trans D32.out D33.out)))))))))))))))))) R14.out)
  have C34 := Lib.hid (dtext_at 333333333333333333333333333333333333 ([48, 46] ++ List.replicate 36 51) (S13.out.old (Ext.trans D14.out (Ext.trans D15.out (Ext.trans D16.out (Ext.trans D17.out (Ext.trans D18.out (Ext.trans D19.out (Ext.trans D20.out (Ext.trans D21.out (Ext.trans D22.out (Ext.trans D23.out (Ext.trans D24.out (Ext.trans D25.out (Ext.trans D26.out (Ext.trans D27.out (Ext.trans D28.out (Ext.trans D29.out (Ext.trans D30.out (Ext.trans D31.out (Ext.trans D32.out D33.out)))))))))))))))))))) (val_lim _) k2_third (by omega) (HT.out.old EX33.out))
  go_wp2_with fail
  refine C34.out.mono ?_
  rintro e w34 ⟨rfl, x34⟩
  clear jd
  have D34 := Lib.hid x34
  have EX34 := Lib.hid (EX33.out.trans x34)
  clear x34
  clear C34
  have C35 := Lib.hid (dbasis_at 1 100000000000000000000000000000000 (by decide) (by decide +kernel) w34)
  go_wp2_with fail
  refine C35.out.mono ?_
  rintro e w35 ⟨p35, n35, c35, rfl, o35, x35, l35⟩
  have S35 := Lib.hid o35.sl
  clear o35
  have D35 := Lib.hid x35
  have EX35 := Lib.hid (EX34.out.trans x35)
  clear x35
  clear C35
  have C36 := Lib.hid (dtext_at 100000000000000000000000000000000 [48, 46, 48, 48, 48, 49] S35.out (val_lim _) k2_basis (by omega) (HT.out.old EX35.out))
  go_wp2_with fail
  refine C36.out.mono ?_
  rintro e w36 ⟨rfl, x36⟩
  have D36 := Lib.hid x36
  have EX36 := Lib.hid (EX35.out.trans x36)
  clear x36
  clear C36
  have jo := drow_cell (rowE (Ext.trans D26.out (Ext.trans D27.out (Ext.trans D28.out (Ext.trans D29.out (Ext.trans D30.out (Ext.trans D31.out (Ext.trans D32.out (Ext.trans D33.out (Ext.trans D34.out (Ext.trans D35.out D36.out)))))))))) R25.out)
  have C37 := Lib.hid (dtext_at 250000000000000000000000000000000000 [48, 46, 50, 53] (S24.out.old (Ext.trans D25.out (Ext.trans D26.out (Ext.trans D27.out (Ext.trans D28.out (Ext.trans D29.out (Ext.trans D30.out (Ext.trans D31.out (Ext.trans D32.out (Ext.trans D33.out (Ext.trans D34.out (Ext.trans D35.out D36.out)))))))))))) (val_lim _) k2_o (by omega) (HT.out.old EX36.out))
  go_wp2_with fail
  refine C37.out.mono ?_
  rintro e w37 ⟨rfl, x37⟩
  clear jo
  have D37 := Lib.hid x37
  have EX37 := Lib.hid (EX36.out.trans x37)
  clear x37
  clear C37
  have C38 := Lib.hid (text_at 2 [50] (S30.out.old (Ext.trans D31.out (Ext.trans D32.out (Ext.trans D33.out (Ext.trans D34.out (Ext.trans D35.out (Ext.trans D36.out D37.out))))))) (val_lim _) (decDigits_small (by decide)) (by omega) (HT.out.old EX37.out))
  go_wp2_with fail
  refine C38.out.mono ?_
  rintro e w38 ⟨rfl, x38⟩
  have D38 := Lib.hid x38
  have EX38 := Lib.hid (EX37.out.trans x38)
  clear x38
  clear C38
  have jr := drow_cell (rowE (Ext.trans D32.out (Ext.trans D33.out (Ext.trans D34.out (Ext.trans D35.out (Ext.trans D36.out (Ext.trans D37.out D38.out)))))) R31.out)
  have C39 := Lib.hid (dtext_at 750000000000000000000000000000000000 [48, 46, 55, 53] (T30.out.old (Ext.trans D31.out (Ext.trans D32.out (Ext.trans D33.out (Ext.trans D34.out (Ext.trans D35.out (Ext.trans D36.out (Ext.trans D37.out D38.out)))))))) (val_lim _) k2_r (by omega) (HT.out.old EX38.out))
  go_wp2_with fail
  refine C39.out.mono ?_
  rintro e w39 ⟨rfl, x39⟩
  clear jr
  have D39 := Lib.hid x39
  have EX39 := Lib.hid (EX38.out.trans x39)
  clear x39
  clear C39
  have jp := drow_cell (rowE (Ext.trans D23.out (Ext.trans D24.out (Ext.trans D25.out (Ext.trans D26.out (Ext.trans D27.out (Ext.trans D28.out (Ext.trans D29.out (Ext.trans D30.out (Ext.trans D31.out (Ext.trans D32.out (Ext.trans D33.out (Ext.trans D34.out (Ext.trans D35.out (Ext.trans D36.out (Ext.trans D37.out (Ext.trans D38.out D39.out)))))))))))))))) R22.out)
  have C40 := Lib.hid (dadd_at 2750000000000000000000000000000000000 2750000000000000000000000000000000000 5500000000000000000000000000000000000 (S21.out.old (Ext.trans D22.out (Ext.trans D23.out (Ext.trans D24.out (Ext.trans D25.out (Ext.trans D26.out (Ext.trans D27.out (Ext.trans D28.out (Ext.trans D29.out (Ext.trans D30.out (Ext.trans D31.out (Ext.trans D32.out (Ext.trans D33.out (Ext.trans D34.out (Ext.trans D35.out (Ext.trans D36.out (Ext.trans D37.out (Ext.trans D38.out D39.out)))))))))))))))))) (S21.out.old (Ext.trans D22.out (Ext.trans D23.out (Ext.trans D24.out (Ext.trans D25.out (Ext.trans D26.out (Ext.trans D27.out (Ext.trans D28.out (Ext.trans D29.out (Ext.trans D30.out (Ext.trans D31.out (Ext.trans D32.out (Ext.trans D33.out (Ext.trans D34.out (Ext.trans D35.out (Ext.trans D36.out (Ext.trans D37.out (Ext.trans D38.out D39.out)))))))))))))))))) (val_lim _) (val_lim _) (by decide +kernel) (by omega) (by omega))
  go_wp2_with fail
  refine C40.out.mono ?_
  rintro e w40 ⟨p40, n40, c40, rfl, o40, x40, l40⟩
  clear jp
  have S40 := Lib.hid o40.sl
  clear o40
  have D40 := Lib.hid x40
  have EX40 := Lib.hid (EX39.out.trans x40)
  clear x40
  clear C40
  have C41 := Lib.hid (dtext_at 5500000000000000000000000000000000000 [53, 46, 53] S40.out (val_lim _) k2_pp (by omega) (HT.out.old EX40.out))
  go_wp2_with fail
  refine C41.out.mono ?_
  rintro e w41 ⟨rfl, x41⟩
  have D41 := Lib.hid x41
  have EX41 := Lib.hid (EX40.out.trans x41)
  clear x41
  clear C41
  have jo := drow_cell (rowE (Ext.trans D26.out (Ext.trans D27.out (Ext.trans D28.out (Ext.trans D29.out (Ext.trans D30.out (Ext.trans D31.out (Ext.trans D32.out (Ext.trans D33.out (Ext.trans D34.out (Ext.trans D35.out (Ext.trans D36.out (Ext.trans D37.out (Ext.trans D38.out (Ext.trans D39.out (Ext.trans D40.out D41.out))))))))))))))) R25.out)
  have C42 := Lib.hid (dmul_at 250000000000000000000000000000000000 250000000000000000000000000000000000 62500000000000000000000000000000000 (S24.out.old (Ext.trans D25.out (Ext.trans D26.out (Ext.trans D27.out (Ext.trans D28.out (Ext.trans D29.out (Ext.trans D30.out (Ext.trans D31.out (Ext.trans D32.out (Ext.trans D33.out (Ext.trans D34.out (Ext.trans D35.out (Ext.trans D36.out (Ext.trans D37.out (Ext.trans D38.out (Ext.trans D39.out (Ext.trans D40.out D41.out))))))))))))))))) (S24.out.old (Ext.trans D25.out (Ext.trans D26.out (Ext.trans D27.out (Ext.trans D28.out (Ext.trans D29.out (Ext.trans D30.out (Ext.trans D31.out (Ext.trans D32.out (Ext.trans D33.out (Ext.trans D34.out (Ext.trans D35.out (Ext.trans D36.out (Ext.trans D37.out (Ext.trans D38.out (Ext.trans D39.out (Ext.trans D40.out D41.out))))))))))))))))) (val_lim _) (val_lim _) (by decide +kernel) (by omega) (by omega))
  go_wp2_with fail
  refine C42.out.mono ?_
  rintro e w42 ⟨p42, n42, c42, rfl, o42, x42, l42⟩
  clear jo
  have S42 := Lib.hid o42.sl
  clear o42
  have D42 := Lib.hid x42
  have EX42 := Lib.hid (EX41.out.trans x42)
  clear x42
  clear C42
  have C43 := Lib.hid (dtext_at 62500000000000000000000000000000000 [48, 46, 48, 54, 50, 53] S42.out (val_lim _) k2_oo (by omega) (HT.out.old EX42.out))
  go_wp2_with fail
  refine C43.out.mono ?_
  rintro e w43 ⟨rfl, x43⟩
  have D43 := Lib.hid x43
  have EX43 := Lib.hid (EX42.out.trans x43)
  clear x43
  clear C43
  have jo := drow_cell (rowE (Ext.trans D26.out (Ext.trans D27.out (Ext.trans D28.out (Ext.trans D29.out (Ext.trans D30.out (Ext.trans D31.out (Ext.trans D32.out (Ext.trans D33.out (Ext.trans D34.out (Ext.trans D35.out (Ext.trans D36.out (Ext.trans D37.out (Ext.trans D38.out (Ext.trans D39.out (Ext.trans D40.out (Ext.trans D41.out (Ext.trans D42.out D43.out))))))))))))))))) R25.out)
  have C44 := Lib.hid (dtimes_at 250000000000000000000000000000000000 10 2500000000000000000000000000000000000 (S24.out.old (Ext.trans D25.out (Ext.trans D26.out (Ext.trans D27.out (Ext.trans D28.out (Ext.trans D29.out (Ext.trans D30.out (Ext.trans D31.out (Ext.trans D32.out (Ext.trans D33.out (Ext.trans D34.out (Ext.trans D35.out (Ext.trans D36.out (Ext.trans D37.out (Ext.trans D38.out (Ext.trans D39.out (Ext.trans D40.out (Ext.trans D41.out (Ext.trans D42.out D43.out))))))))))))))))))) (val_lim _) (by decide +kernel) (by omega) (by decide))
  go_wp2_with fail
  refine C44.out.mono ?_
  rintro e w44 ⟨p44, n44, c44, rfl, o44, x44, l44⟩
  clear jo
  have S44 := Lib.hid o44.sl
  clear o44
  have D44 := Lib.hid x44
  have EX44 := Lib.hid (EX43.out.trans x44)
  clear x44
  clear C44
  have C45 := Lib.hid (dtext_at 2500000000000000000000000000000000000 [50, 46, 53] S44.out (val_lim _) k2_times (by omega) (HT.out.old EX44.out))
  go_wp2_with fail
  refine C45.out.mono ?_
  rintro e w45 ⟨rfl, x45⟩
  have D45 := Lib.hid x45
  have EX45 := Lib.hid (EX44.out.trans x45)
  clear x45
  clear C45
  have jo := drow_cell (rowE (Ext.trans D26.out (Ext.trans D27.out (Ext.trans D28.out (Ext.trans D29.out (Ext.trans D30.out (Ext.trans D31.out (Ext.trans D32.out (Ext.trans D33.out (Ext.trans D34.out (Ext.trans D35.out (Ext.trans D36.out (Ext.trans D37.out (Ext.trans D38.out (Ext.trans D39.out (Ext.trans D40.out (Ext.trans D41.out (Ext.trans D42.out (Ext.trans D43.out (Ext.trans D44.out D45.out))))))))))))))))))) R25.out)
  have jp := drow_cell (rowE (Ext.trans D23.out (Ext.trans D24.out (Ext.trans D25.out (Ext.trans D26.out (Ext.trans D27.out (Ext.trans D28.out (Ext.trans D29.out (Ext.trans D30.out (Ext.trans D31.out (Ext.trans D32.out (Ext.trans D33.out (Ext.trans D34.out (Ext.trans D35.out (Ext.trans D36.out (Ext.trans D37.out (Ext.trans D38.out (Ext.trans D39.out (Ext.trans D40.out (Ext.trans D41.out (Ext.trans D42.out (Ext.trans D43.out (Ext.trans D44.out D45.out)))))))))))))))))))))) R22.out)
  have C46 := Lib.hid (dcmp_at 250000000000000000000000000000000000 2750000000000000000000000000000000000 (-1) (S24.out.old (Ext.trans D25.out (Ext.trans D26.out (Ext.trans D27.out (Ext.trans D28.out (Ext.trans D29.out (Ext.trans D30.out (Ext.trans D31.out (Ext.trans D32.out (Ext.trans D33.out (Ext.trans D34.out (Ext.trans D35.out (Ext.trans D36.out (Ext.trans D37.out (Ext.trans D38.out (Ext.trans D39.out (Ext.trans D40.out (Ext.trans D41.out (Ext.trans D42.out (Ext.trans D43.out (Ext.trans D44.out D45.out))))))))))))))))))))) (S21.out.old (Ext.trans D22.out (Ext.trans D23.out (Ext.trans D24.out (Ext.trans D25.out (Ext.trans D26.out (Ext.trans D27.out (Ext.trans D28.out (Ext.trans D29.out (Ext.trans D30.out (Ext.trans D31.out (Ext.trans D32.out (Ext.trans D33.out (Ext.trans D34.out (Ext.trans D35.out (Ext.trans D36.out (Ext.trans D37.out (Ext.trans D38.out (Ext.trans D39.out (Ext.trans D40.out (Ext.trans D41.out (Ext.trans D42.out (Ext.trans D43.out (Ext.trans D44.out D45.out)))))))))))))))))))))))) (val_lim _) (val_lim _) (by decide +kernel) (by omega) (by omega))
  go_wp2_with fail
  refine C46.out.mono ?_
  rintro e w46 ⟨rfl, x46⟩
  clear jo jp
  have D46 := Lib.hid x46
  have EX46 := Lib.hid (EX45.out.trans x46)
  clear x46
  clear C46
  have C47 := Lib.hid (dofnat_at 2 2000000000000000000000000000000000000 (S30.out.old (Ext.trans D31.out (Ext.trans D32.out (Ext.trans D33.out (Ext.trans D34.out (Ext.trans D35.out (Ext.trans D36.out (Ext.trans D37.out (Ext.trans D38.out (Ext.trans D39.out (Ext.trans D40.out (Ext.trans D41.out (Ext.trans D42.out (Ext.trans D43.out (Ext.trans D44.out (Ext.trans D45.out D46.out)))))))))))))))) (val_lim _) (by decide +kernel) (by omega))
  go_wp2_with fail
  refine C47.out.mono ?_
  rintro e w47 ⟨p47, n47, c47, rfl, o47, x47, l47⟩
  have S47 := Lib.hid o47.sl
  clear o47
  have D47 := Lib.hid x47
  have EX47 := Lib.hid (EX46.out.trans x47)
  clear x47
  clear C47
  have C48 := Lib.hid (dtext_at 2000000000000000000000000000000000000 [50] S47.out (val_lim _) k2_two (by omega) (HT.out.old EX47.out))
  go_wp2_with fail
  refine C48.out.mono ?_
  rintro e w48 ⟨rfl, x48⟩
  have D48 := Lib.hid x48
  have EX48 := Lib.hid (EX47.out.trans x48)
  clear x48
  clear C48
  go_wp2_with fail
  go_ret
  exact ⟨rfl, EX48.out⟩

end Go.Proofs.YtifoflicflodcaaGreatDoor
