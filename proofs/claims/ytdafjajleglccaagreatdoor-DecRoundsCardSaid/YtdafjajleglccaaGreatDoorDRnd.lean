/- gleanlaw2.DecRounds: the walk. -/
import Derived.Test.YtdafjajleglccaaGreatDoorKnown2
import Derived.Test.YtdafjajleglccaaGreatDoorHelp2
import Derived.Test.YtdafjajleglccaaGreatDoorDGen
import Derived.Test.YtdafjajleglccaaGreatDoorMid
import Derived.Deep.CutRange
namespace Go.Proofs.YtdafjajleglccaaGreatDoor
open Go.RowKit Go.Lib

theorem field_dec (o : Option Addr) (n c : Nat) (W : World) : (Instr.field 25 (.agg #[.slice o n c]) 0).run Tryz.prog W = .ok (.slice o n c) W := by kernel_rfl
theorem lim_same {a b : Nat} (h : lim a = lim b) : a = b := by rw [← val_lim a, h, val_lim]
theorem exact_up {P C : Nat} (h0 : C ≠ 0) (h : decide (lim (P / C * C) = lim P) = true) : cmpN (P / C) (qN true P C) = 0 := by
  have h1 := up_exact.1 (lim_same (of_decide_eq_true h))
  rw [qN_up h0, if_pos h1]
  exact cmpN_eq rfl
theorem odd_up {P C : Nat} (h0 : C ≠ 0) (h : decide (lim (P / C * C) = lim P) = false) : qN true P C = P / C + 1 := by
  have h1 : P % C ≠ 0 := fun h2 => of_decide_eq_false h (by rw [up_exact.2 h2])
  rw [qN_up h0, if_neg h1]

set_option maxHeartbeats 16000000 in
set_option maxRecDepth 100000 in
theorem drnd_law {a1 a2 a3 : Option Addr} {m1 c1 m2 c2 m3 c3 : Nat} {xs1 xs2 xs3 : List Nat} {w : World} (ha1 : Sl w a1 m1 c1 xs1) (ha2 : Sl w a2 m2 c2 xs2) (ha3 : Sl w a3 m3 c3 xs3) {nn : Nat} (hnn : nn < B64) (htab : Tab w) (hM : MaxL w) :
    Calls Tryz.prog 6 #[DecV a1 m1 c1, DecV a2 m2 c2, DecV a3 m3 c3, .int .u64 (nn : Int)] w (RetE (.bool true) w) := by
  obtain ⟨A, hv1⟩ : ∃ X, val xs1 = X := ⟨_, rfl⟩
  obtain ⟨B, hv2⟩ : ∃ X, val xs2 = X := ⟨_, rfl⟩
  obtain ⟨C, hv3⟩ : ∃ X, val xs3 = X := ⟨_, rfl⟩
  have HQ1 := Lib.hid hv1; have HA1 := Lib.hid ha1
  have HQ2 := Lib.hid hv2; have HA2 := Lib.hid ha2
  have HQ3 := Lib.hid hv3; have HA3 := Lib.hid ha3
  have HT := Lib.hid htab; have HM := Lib.hid hM
  clear hv1 ha1 hv2 ha2 hv3 ha3 htab hM
  have HN := Lib.hid hnn; clear hnn
  obtain ⟨V1, hV⟩ : ∃ V, w.alloc (.cells #[.slice a1 m1 c1] 25) = V := ⟨_, rfl⟩
  have R1 := Lib.hid (show V1.heap[w.heap.size]? = some (.cells #[.slice a1 m1 c1] 25 (0, 0)) by rw [← hV]; exact heap_alloc_new w _)
  have x1 : Ext w V1 := by rw [← hV]; exact (Ext.refl _).alloc _
  have HV1 := Lib.hid hV
  clear hV
  have D1 := Lib.hid x1
  have EX1 := Lib.hid x1
  clear x1
  obtain ⟨V2, hV⟩ : ∃ V, V1.alloc (.cells #[.slice a2 m2 c2] 25) = V := ⟨_, rfl⟩
  have R2 := Lib.hid (show V2.heap[V1.heap.size]? = some (.cells #[.slice a2 m2 c2] 25 (0, 0)) by rw [← hV]; exact heap_alloc_new V1 _)
  have x2 : Ext V1 V2 := by rw [← hV]; exact (Ext.refl _).alloc _
  have HV2 := Lib.hid hV
  clear hV
  have D2 := Lib.hid x2
  have EX2 := Lib.hid (EX1.out.trans x2)
  clear x2
  obtain ⟨V3, hV⟩ : ∃ V, V2.alloc (.cells #[.slice a3 m3 c3] 25) = V := ⟨_, rfl⟩
  have R3 := Lib.hid (show V3.heap[V2.heap.size]? = some (.cells #[.slice a3 m3 c3] 25 (0, 0)) by rw [← hV]; exact heap_alloc_new V2 _)
  have x3 : Ext V2 V3 := by rw [← hV]; exact (Ext.refl _).alloc _
  have HV3 := Lib.hid hV
  clear hV
  have D3 := Lib.hid x3
  have EX3 := Lib.hid (EX2.out.trans x3)
  clear x3
  go_enter Tryz.func6, Tryz.ntmps6
  have C4 := Lib.hid (known2_calls V3 (HT.out.old EX3.out) (HM.out.old EX3.out))
  go_wp2_with (first | rw [HV1.out] | rw [HV2.out] | rw [HV3.out])
  refine C4.out.mono ?_
  rintro e w4 ⟨rfl, x4⟩
  have D4 := Lib.hid x4
  have EX4 := Lib.hid (EX3.out.trans x4)
  clear x4
  clear C4
  obtain ⟨Z, hZ⟩ : ∃ Z, w4.alloc (.cells #[.slice a1 m1 c1, .slice a2 m2 c2, .slice a3 m3 c3] 25) = Z := ⟨_, rfl⟩
  have hxz : Ext w4 Z := by rw [← hZ]; exact (Ext.refl _).alloc _
  by_cases h60 : m1 ≤ 40 ∧ m2 ≤ 40 ∧ m3 ≤ 40
  rotate_left
  · have HSM := Lib.hid (sd_no3 w4 (a1 := a1) (m1 := m1) (c1 := c1) (a2 := a2) (m2 := m2) (c2 := c2) (a3 := a3) (m3 := m3) (c3 := c3) h60)
    rw [hZ] at HSM
    have HZ := Lib.hid hZ; have HEZ := Lib.hid (EX4.out.trans hxz)
    clear hZ hxz
    have ja := drow_cell (rowE (Ext.trans D2.out (Ext.trans D3.out D4.out)) R1.out)
    have jb := drow_cell (rowE (Ext.trans D3.out D4.out) R2.out)
    have jc := drow_cell (rowE D4.out R3.out)
    go_wp2_with (rw [HZ.out])
    refine HSM.out.mono ?_
    rintro e w' ⟨rfl, rfl⟩
    go_wp2_with fail
    go_ret
    exact ⟨rfl, HEZ.out⟩
  have HSM := Lib.hid (sd_yes3 w4 (a1 := a1) (m1 := m1) (c1 := c1) (a2 := a2) (m2 := m2) (c2 := c2) (a3 := a3) (m3 := m3) (c3 := c3) h60)
  rw [hZ] at HSM
  have HZ := Lib.hid hZ
  obtain ⟨q1, q2, q3⟩ := h60
  clear hZ
  have ja := drow_cell (rowE (Ext.trans D2.out (Ext.trans D3.out D4.out)) R1.out)
  have jb := drow_cell (rowE (Ext.trans D3.out D4.out) R2.out)
  have jc := drow_cell (rowE D4.out R3.out)
  have D5 := Lib.hid hxz
  have EX5 := Lib.hid (EX4.out.trans hxz)
  clear hxz
  go_wp2_with (rw [HZ.out])
  refine HSM.out.mono ?_
  rintro e w' ⟨rfl, rfl⟩
  clear HSM ja jb jc
  obtain ⟨Q, h_Q⟩ : ∃ x, qN false (A * U36) B = x := ⟨_, rfl⟩
  have H_Q := Lib.hid h_Q
  clear h_Q
  obtain ⟨rb, h_rb⟩ : ∃ x, rdE B = x := ⟨_, rfl⟩
  have H_rb := Lib.hid h_rb
  clear h_rb
  obtain ⟨zB, h_zB⟩ : ∃ x, decide (B = 0) = x := ⟨_, rfl⟩
  have H_zB := Lib.hid h_zB
  clear h_zB
  obtain ⟨P, h_P⟩ : ∃ x, A * B = x := ⟨_, rfl⟩
  have H_P := Lib.hid h_P
  clear h_P
  obtain ⟨NN, h_NN⟩ : ∃ x, nn * U36 = x := ⟨_, rfl⟩
  have H_NN := Lib.hid h_NN
  clear h_NN
  obtain ⟨AN, h_AN⟩ : ∃ x, A * nn = x := ⟨_, rfl⟩
  have H_AN := Lib.hid h_AN
  clear h_AN
  obtain ⟨AU, h_AU⟩ : ∃ x, A * U36 = x := ⟨_, rfl⟩
  have H_AU := Lib.hid h_AU
  clear h_AU
  have F1 := Lib.hid (show 1 * U36 = U36 from Nat.one_mul _)
  have F2 := Lib.hid (show A * NN / U36 = AN from by rw [← H_NN.out, ← H_AN.out]; exact mul_unit A nn (Nat.pos_of_ne_zero U36_ne))
  have C5 := Lib.hid (dof_at 1 U36 (by decide) F1.out Z)
  go_wp2_with fail
  refine C5.out.mono ?_
  rintro e w5 ⟨p5, n5, c5, rfl, o5, x5, l5⟩
  have S5 := Lib.hid o5.sl
  clear o5
  have D6 := Lib.hid x5
  have EX6 := Lib.hid (EX5.out.trans x5)
  clear x5
  clear C5
  obtain ⟨V6, hV⟩ : ∃ V, w5.alloc (.cells #[.slice p5 n5 c5] 25) = V := ⟨_, rfl⟩
  have R6 := Lib.hid (show V6.heap[w5.heap.size]? = some (.cells #[.slice p5 n5 c5] 25 (0, 0)) by rw [← hV]; exact heap_alloc_new w5 _)
  have x6 : Ext w5 V6 := by rw [← hV]; exact (Ext.refl _).alloc _
  have HV6 := Lib.hid hV
  clear hV
  have D7 := Lib.hid x6
  have EX7 := Lib.hid (EX6.out.trans x6)
  clear x6
  have ja := drow_cell (rowE (Ext.trans D2.out (Ext.trans D3.out (Ext.trans D4.out (Ext.trans D5.out (Ext.trans D6.out D7.out))))) R1.out)
  have jb := drow_cell (rowE (Ext.trans D3.out (Ext.trans D4.out (Ext.trans D5.out (Ext.trans D6.out D7.out)))) R2.out)
  have C7 := Lib.hid (dquo_gen A B Q rb (HA1.out.old (Ext.trans D1.out (Ext.trans D2.out (Ext.trans D3.out (Ext.trans D4.out (Ext.trans D5.out (Ext.trans D6.out D7.out))))))) (HA2.out.old (Ext.trans D1.out (Ext.trans D2.out (Ext.trans D3.out (Ext.trans D4.out (Ext.trans D5.out (Ext.trans D6.out D7.out))))))) HQ1.out HQ2.out H_Q.out H_rb.out (by omega) (by omega))
  go_wp2_with (rw [HV6.out])
  refine C7.out.mono ?_
  rintro e w7 ⟨p7, n7, c7, rfl, o7, x7, l7⟩
  clear ja jb
  have S7 := Lib.hid o7.sl
  clear o7
  have D8 := Lib.hid x7
  have EX8 := Lib.hid (EX7.out.trans x7)
  clear x7
  clear C7
  obtain ⟨V8, hV⟩ : ∃ V, w7.alloc (.cells #[.slice p7 n7 c7] 25) = V := ⟨_, rfl⟩
  have R8 := Lib.hid (show V8.heap[w7.heap.size]? = some (.cells #[.slice p7 n7 c7] 25 (0, 0)) by rw [← hV]; exact heap_alloc_new w7 _)
  have x8 : Ext w7 V8 := by rw [← hV]; exact (Ext.refl _).alloc _
  have HV8 := Lib.hid hV
  clear hV
  have D9 := Lib.hid x8
  have EX9 := Lib.hid (EX8.out.trans x8)
  clear x8
  have jb := drow_cell (rowE (Ext.trans D3.out (Ext.trans D4.out (Ext.trans D5.out (Ext.trans D6.out (Ext.trans D7.out (Ext.trans D8.out D9.out)))))) R2.out)
  have C9 := Lib.hid (dzero_at B zB (HA2.out.old (Ext.trans D1.out (Ext.trans D2.out (Ext.trans D3.out (Ext.trans D4.out (Ext.trans D5.out (Ext.trans D6.out (Ext.trans D7.out (Ext.trans D8.out D9.out))))))))) HQ2.out H_zB.out (by omega))
  go_wp2_with (rw [HV8.out])
  refine C9.out.mono ?_
  rintro e w9 ⟨rfl, x9⟩
  clear jb
  have D10 := Lib.hid x9
  have EX10 := Lib.hid (EX9.out.trans x9)
  clear x9
  clear C9
  go_upto_if 41 with (fail)
  go_cut [12, 13, 14, 15, 16] from 42 to 90 (fun _ _ _ _ _ wx => Ext w9 wx)
  case first =>
    by_cases hB : B = 0
    · have hz : zB = true := by rw [← H_zB.out]; exact decide_eq_true hB
      subst hz
      go_wp2_with fail
      go_meet
      exact Ext.refl _
    have hz : zB = false := by rw [← H_zB.out]; exact decide_eq_false hB
    have HB := Lib.hid hB
    have HRB := Lib.hid (show rb = 0 by rw [← H_rb.out]; exact rdE_pos hB)
    clear hB
    subst hz
    have hr0 := HRB.out
    subst hr0
    have HQD := Lib.hid (show A * U36 / B = Q from by rw [← H_Q.out]; exact (qN_down HB.out).symm)
    obtain ⟨LO, h_LO⟩ : ∃ x, Q * B = x := ⟨_, rfl⟩
    have H_LO := Lib.hid h_LO
    clear h_LO
    obtain ⟨Q1, h_Q1⟩ : ∃ x, Q + 1 = x := ⟨_, rfl⟩
    have H_Q1 := Lib.hid h_Q1
    clear h_Q1
    obtain ⟨HI, h_HI⟩ : ∃ x, (Q + 1) * B = x := ⟨_, rfl⟩
    have H_HI := Lib.hid h_HI
    clear h_HI
    have F3 := Lib.hid (show LO ≤ AU from by rw [← H_LO.out, ← H_AU.out, ← HQD.out]; exact quo_low A U36 B)
    have F4 := Lib.hid (show AU < HI from by rw [← H_HI.out, ← H_AU.out, ← HQD.out]; exact quo_high A U36 (Nat.pos_of_ne_zero HB.out))
    have F5 := Lib.hid (show Q1 * B = HI from by rw [← H_Q1.out]; exact H_HI.out)
    have F6 := Lib.hid (show A * B / B = A from Nat.mul_div_cancel _ (Nat.pos_of_ne_zero HB.out))
    obtain ⟨g1, hg1, hg2⟩ : ∃ g : Int, cmpN LO AU = g ∧ decide ((0 : Int) < g) = false := ⟨_, rfl, by rw [decide_eq_false_iff_not]; exact cmpN_le_zero F3.out⟩
    have HG1 := Lib.hid hg1; clear hg1
    have HFD := field_dec
    have H10 : Hid (∀ w', Ext w9 w' → w'.cell? ⟨w7.heap.size, 0, none⟩ = some (.slice p7 n7 c7) ∧ w'.cell? ⟨V1.heap.size, 0, none⟩ = some (.slice a2 m2 c2) ∧ w'.cell? ⟨w.heap.size, 0, none⟩ = some (.slice a1 m1 c1) ∧ w'.cell? ⟨w5.heap.size, 0, none⟩ = some (.slice p5 n5 c5)) := Lib.hid (fun w' h => ⟨drow_cell (rowE (Ext.trans D10.out h) R8.out), drow_cell (rowE (Ext.trans (Ext.trans D3.out (Ext.trans D4.out (Ext.trans D5.out (Ext.trans D6.out (Ext.trans D7.out (Ext.trans D8.out (Ext.trans D9.out D10.out))))))) h) R2.out), drow_cell (rowE (Ext.trans (Ext.trans D2.out (Ext.trans D3.out (Ext.trans D4.out (Ext.trans D5.out (Ext.trans D6.out (Ext.trans D7.out (Ext.trans D8.out (Ext.trans D9.out D10.out)))))))) h) R1.out), drow_cell (rowE (Ext.trans (Ext.trans D8.out (Ext.trans D9.out D10.out)) h) R6.out)⟩)
    go_wp2_with fail
    go_region_held3 (fun w' => w'.cell? ⟨w7.heap.size, 0, none⟩ = some (.slice p7 n7 c7) ∧ w'.cell? ⟨V1.heap.size, 0, none⟩ = some (.slice a2 m2 c2) ∧ w'.cell? ⟨w.heap.size, 0, none⟩ = some (.slice a1 m1 c1) ∧ w'.cell? ⟨w5.heap.size, 0, none⟩ = some (.slice p5 n5 c5))
      (first | exact H10.out _ (Ext.refl _) | exact H10.out _ (Ext.refl _).drew | exact H10.out _ (by assumption))
      (first
        | (go_at_call_of 49 p7; refine (mul_at Q B LO (S7.out.old ((Ext.trans D9.out D10.out).trans (Ext.refl w9).drew)) (HA2.out.old ((Ext.trans D1.out (Ext.trans D2.out (Ext.trans D3.out (Ext.trans D4.out (Ext.trans D5.out (Ext.trans D6.out (Ext.trans D7.out (Ext.trans D8.out (Ext.trans D9.out D10.out))))))))).trans (Ext.refl w9).drew)) (val_lim _) HQ2.out H_LO.out (by omega) (by omega)).mono ?_; rintro e wr10_0 ⟨pr10_0, nr10_0, cr10_0, rfl, or10_0, xr10_0, lr10_0⟩; have Er10_0 : Ext w9 wr10_0 := (Ext.refl w9).drew.trans xr10_0)
        | (go_at_call 50; refine (bit_calls _).mono ?_; rintro e wr10_1 ⟨pr10_1, nr10_1, cr10_1, rfl, or10_1, xr10_1, lr10_1⟩; have Er10_1 : Ext w9 wr10_1 := Er10_0.trans xr10_1)
        | (go_at_call 14; refine (dadd_at Q 1 Q1 (S7.out.old ((Ext.trans D9.out D10.out).trans Er10_1)) or10_1.sl (val_lim _) (val_lim _) H_Q1.out (by omega) (by omega)).mono ?_; rintro e wr10_2 ⟨pr10_2, nr10_2, cr10_2, rfl, or10_2, xr10_2, lr10_2⟩; have Er10_2 : Ext w9 wr10_2 := Er10_1.trans xr10_2)
        | (go_at_call_of 49 pr10_2; refine (mul_at Q1 B HI or10_2.sl (HA2.out.old ((Ext.trans D1.out (Ext.trans D2.out (Ext.trans D3.out (Ext.trans D4.out (Ext.trans D5.out (Ext.trans D6.out (Ext.trans D7.out (Ext.trans D8.out (Ext.trans D9.out D10.out))))))))).trans Er10_2)) (val_lim _) HQ2.out F5.out (by omega) (by omega)).mono ?_; rintro e wr10_3 ⟨pr10_3, nr10_3, cr10_3, rfl, or10_3, xr10_3, lr10_3⟩; have Er10_3 : Ext w9 wr10_3 := Er10_2.trans xr10_3)
        | (go_at_call_of 49 a1; refine (mul_at A U36 AU (HA1.out.old ((Ext.trans D1.out (Ext.trans D2.out (Ext.trans D3.out (Ext.trans D4.out (Ext.trans D5.out (Ext.trans D6.out (Ext.trans D7.out (Ext.trans D8.out (Ext.trans D9.out D10.out))))))))).trans Er10_3)) (S5.out.old ((Ext.trans D7.out (Ext.trans D8.out (Ext.trans D9.out D10.out))).trans Er10_3)) HQ1.out (val_lim _) H_AU.out (by omega) (by omega)).mono ?_; rintro e wr10_4 ⟨pr10_4, nr10_4, cr10_4, rfl, or10_4, xr10_4, lr10_4⟩; have Er10_4 : Ext w9 wr10_4 := Er10_3.trans xr10_4))
    have K_lo := Lib.hid (or10_0.sl.old (xr10_1.trans (xr10_2.trans (xr10_3.trans xr10_4))))
    have K_hi := Lib.hid (or10_3.sl.old xr10_4)
    have K_wa := Lib.hid or10_4.sl
    have x10 := Er10_4
    clear xr10_0 or10_0 Er10_0 xr10_1 or10_1 Er10_1 xr10_2 or10_2 Er10_2 xr10_3 or10_3 Er10_3 xr10_4 or10_4 Er10_4
    have D11 := Lib.hid x10
    have EX11 := Lib.hid (EX10.out.trans x10)
    clear x10
    clear HFD
    have C11 := Lib.hid (cmp_at LO AU g1 K_lo.out K_wa.out (val_lim _) (val_lim _) HG1.out (by omega) (by omega))
    go_wp2_with fail
    refine C11.out.mono ?_
    rintro e w11 ⟨rfl, x11⟩
    have D12 := Lib.hid x11
    have EX12 := Lib.hid (EX11.out.trans x11)
    clear x11
    clear C11
    have C12 := Lib.hid (cmp_at HI AU 1 (K_hi.out.old D12.out) (K_wa.out.old D12.out) (val_lim _) (val_lim _) (cmpN_gt F4.out) (by omega) (by omega))
    go_wp2_with fail
    refine C12.out.mono ?_
    rintro e w12 ⟨rfl, x12⟩
    have D13 := Lib.hid x12
    have EX13 := Lib.hid (EX12.out.trans x12)
    clear x12
    clear C12
    have ja := drow_cell (rowE (Ext.trans D2.out (Ext.trans D3.out (Ext.trans D4.out (Ext.trans D5.out (Ext.trans D6.out (Ext.trans D7.out (Ext.trans D8.out (Ext.trans D9.out (Ext.trans D10.out (Ext.trans D11.out (Ext.trans D12.out D13.out))))))))))) R1.out)
    have jb := drow_cell (rowE (Ext.trans D3.out (Ext.trans D4.out (Ext.trans D5.out (Ext.trans D6.out (Ext.trans D7.out (Ext.trans D8.out (Ext.trans D9.out (Ext.trans D10.out (Ext.trans D11.out (Ext.trans D12.out D13.out)))))))))) R2.out)
    have C13 := Lib.hid (dmuldiv_at A B B A (HA1.out.old (Ext.trans D1.out (Ext.trans D2.out (Ext.trans D3.out (Ext.trans D4.out (Ext.trans D5.out (Ext.trans D6.out (Ext.trans D7.out (Ext.trans D8.out (Ext.trans D9.out (Ext.trans D10.out (Ext.trans D11.out (Ext.trans D12.out D13.out))))))))))))) (HA2.out.old (Ext.trans D1.out (Ext.trans D2.out (Ext.trans D3.out (Ext.trans D4.out (Ext.trans D5.out (Ext.trans D6.out (Ext.trans D7.out (Ext.trans D8.out (Ext.trans D9.out (Ext.trans D10.out (Ext.trans D11.out (Ext.trans D12.out D13.out))))))))))))) (HA2.out.old (Ext.trans D1.out (Ext.trans D2.out (Ext.trans D3.out (Ext.trans D4.out (Ext.trans D5.out (Ext.trans D6.out (Ext.trans D7.out (Ext.trans D8.out (Ext.trans D9.out (Ext.trans D10.out (Ext.trans D11.out (Ext.trans D12.out D13.out))))))))))))) HQ1.out HQ2.out HQ2.out HB.out F6.out (by omega) (by omega) (by omega))
    go_wp2_with fail
    refine C13.out.mono ?_
    rintro e w13 ⟨p13, n13, c13, rfl, o13, x13, l13⟩
    clear ja jb
    have S13 := Lib.hid o13.sl
    clear o13
    have D14 := Lib.hid x13
    have EX14 := Lib.hid (EX13.out.trans x13)
    clear x13
    clear C13
    obtain ⟨V14, hV⟩ : ∃ V, w13.alloc (.cells #[.slice p13 n13 c13] 25) = V := ⟨_, rfl⟩
    have R14 := Lib.hid (show V14.heap[w13.heap.size]? = some (.cells #[.slice p13 n13 c13] 25 (0, 0)) by rw [← hV]; exact heap_alloc_new w13 _)
    have x14 : Ext w13 V14 := by rw [← hV]; exact (Ext.refl _).alloc _
    have HV14 := Lib.hid hV
    clear hV
    have D15 := Lib.hid x14
    have EX15 := Lib.hid (EX14.out.trans x14)
    clear x14
    have H15 : Hid (∀ w', Ext V14 w' → w'.cell? ⟨w13.heap.size, 0, none⟩ = some (.slice p13 n13 c13) ∧ w'.cell? ⟨w.heap.size, 0, none⟩ = some (.slice a1 m1 c1)) := Lib.hid (fun w' h => ⟨drow_cell (rowE h R14.out), drow_cell (rowE (Ext.trans (Ext.trans D2.out (Ext.trans D3.out (Ext.trans D4.out (Ext.trans D5.out (Ext.trans D6.out (Ext.trans D7.out (Ext.trans D8.out (Ext.trans D9.out (Ext.trans D10.out (Ext.trans D11.out (Ext.trans D12.out (Ext.trans D13.out (Ext.trans D14.out D15.out))))))))))))) h) R1.out)⟩)
    go_wp2_with (rw [HV14.out])
    go_region_held3 (fun w' => w'.cell? ⟨w13.heap.size, 0, none⟩ = some (.slice p13 n13 c13) ∧ w'.cell? ⟨w.heap.size, 0, none⟩ = some (.slice a1 m1 c1))
      (first | exact H15.out _ (Ext.refl _) | exact H15.out _ (Ext.refl _).drew | exact H15.out _ (by assumption))
      (first
        | (go_at_call 52; refine (norm_at A (HA1.out.old ((Ext.trans D1.out (Ext.trans D2.out (Ext.trans D3.out (Ext.trans D4.out (Ext.trans D5.out (Ext.trans D6.out (Ext.trans D7.out (Ext.trans D8.out (Ext.trans D9.out (Ext.trans D10.out (Ext.trans D11.out (Ext.trans D12.out (Ext.trans D13.out (Ext.trans D14.out D15.out)))))))))))))).trans (Ext.refl V14).drew)) HQ1.out (by omega)).mono ?_; rintro e wr15_0 ⟨pr15_0, nr15_0, cr15_0, rfl, or15_0, xr15_0, lr15_0⟩; have Er15_0 : Ext V14 wr15_0 := (Ext.refl V14).drew.trans xr15_0)
        | (go_at_call 44; refine (hnat_at true (S13.out.old (D15.out.trans Er15_0)) or15_0.sl (decide_eq_true rfl) (by omega) (by omega)).mono ?_; rintro e wr15_1 ⟨rfl, xr15_1⟩; have Er15_1 : Ext V14 wr15_1 := Er15_0.trans xr15_1))
    have x15 := Er15_1
    clear xr15_0 or15_0 Er15_0 xr15_1 Er15_1
    have D16 := Lib.hid x15
    have EX16 := Lib.hid (EX15.out.trans x15)
    clear x15
    go_wp2_with fail
    go_meet
    exact (Ext.trans D11.out (Ext.trans D12.out (Ext.trans D13.out (Ext.trans D14.out (Ext.trans D15.out D16.out)))))
  have xC := hcut
  have D11 := Lib.hid xC
  have EX11 := Lib.hid (EX10.out.trans xC)
  clear xC
  by_cases hC : C = 0
  · have HC0 := Lib.hid (show rdE C = 21 by rw [hC]; rfl); have HC1 := Lib.hid (show qN false P C = 0 by rw [hC]; exact qN_zero _ _); have HC2 := Lib.hid (show qN true P C = 0 by rw [hC]; exact qN_zero _ _); have HC3 := Lib.hid (decide_eq_true hC); clear hC
    have ja := drow_cell (rowE (Ext.trans D2.out (Ext.trans D3.out (Ext.trans D4.out (Ext.trans D5.out (Ext.trans D6.out (Ext.trans D7.out (Ext.trans D8.out (Ext.trans D9.out (Ext.trans D10.out D11.out))))))))) R1.out)
    have jb := drow_cell (rowE (Ext.trans D3.out (Ext.trans D4.out (Ext.trans D5.out (Ext.trans D6.out (Ext.trans D7.out (Ext.trans D8.out (Ext.trans D9.out (Ext.trans D10.out D11.out)))))))) R2.out)
    have jc := drow_cell (rowE (Ext.trans D4.out (Ext.trans D5.out (Ext.trans D6.out (Ext.trans D7.out (Ext.trans D8.out (Ext.trans D9.out (Ext.trans D10.out D11.out))))))) R3.out)
    have C10 := Lib.hid (dmuldiv_gen A B C 0 21 (HA1.out.old (Ext.trans D1.out (Ext.trans D2.out (Ext.trans D3.out (Ext.trans D4.out (Ext.trans D5.out (Ext.trans D6.out (Ext.trans D7.out (Ext.trans D8.out (Ext.trans D9.out (Ext.trans D10.out D11.out))))))))))) (HA2.out.old (Ext.trans D1.out (Ext.trans D2.out (Ext.trans D3.out (Ext.trans D4.out (Ext.trans D5.out (Ext.trans D6.out (Ext.trans D7.out (Ext.trans D8.out (Ext.trans D9.out (Ext.trans D10.out D11.out))))))))))) (HA3.out.old (Ext.trans D1.out (Ext.trans D2.out (Ext.trans D3.out (Ext.trans D4.out (Ext.trans D5.out (Ext.trans D6.out (Ext.trans D7.out (Ext.trans D8.out (Ext.trans D9.out (Ext.trans D10.out D11.out))))))))))) HQ1.out HQ2.out HQ3.out (by rw [H_P.out]; exact HC1.out) HC0.out (by omega) (by omega) (by omega))
    go_wp2_with fail
    refine C10.out.mono ?_
    rintro e w10 ⟨p10, n10, c10, rfl, o10, x10, l10⟩
    clear ja jb jc
    have S10 := Lib.hid o10.sl
    clear o10
    have D12 := Lib.hid x10
    have EX12 := Lib.hid (EX11.out.trans x10)
    clear x10
    clear C10
    obtain ⟨V11, hV⟩ : ∃ V, w10.alloc (.cells #[.slice p10 n10 c10] 25) = V := ⟨_, rfl⟩
    have R11 := Lib.hid (show V11.heap[w10.heap.size]? = some (.cells #[.slice p10 n10 c10] 25 (0, 0)) by rw [← hV]; exact heap_alloc_new w10 _)
    have x11 : Ext w10 V11 := by rw [← hV]; exact (Ext.refl _).alloc _
    have HV11 := Lib.hid hV
    clear hV
    have D13 := Lib.hid x11
    have EX13 := Lib.hid (EX12.out.trans x11)
    clear x11
    have ja := drow_cell (rowE (Ext.trans D2.out (Ext.trans D3.out (Ext.trans D4.out (Ext.trans D5.out (Ext.trans D6.out (Ext.trans D7.out (Ext.trans D8.out (Ext.trans D9.out (Ext.trans D10.out (Ext.trans D11.out (Ext.trans D12.out D13.out))))))))))) R1.out)
    have jb := drow_cell (rowE (Ext.trans D3.out (Ext.trans D4.out (Ext.trans D5.out (Ext.trans D6.out (Ext.trans D7.out (Ext.trans D8.out (Ext.trans D9.out (Ext.trans D10.out (Ext.trans D11.out (Ext.trans D12.out D13.out)))))))))) R2.out)
    have jc := drow_cell (rowE (Ext.trans D4.out (Ext.trans D5.out (Ext.trans D6.out (Ext.trans D7.out (Ext.trans D8.out (Ext.trans D9.out (Ext.trans D10.out (Ext.trans D11.out (Ext.trans D12.out D13.out))))))))) R3.out)
    have C12 := Lib.hid (dmuldivup_gen A B C 0 21 (HA1.out.old (Ext.trans D1.out (Ext.trans D2.out (Ext.trans D3.out (Ext.trans D4.out (Ext.trans D5.out (Ext.trans D6.out (Ext.trans D7.out (Ext.trans D8.out (Ext.trans D9.out (Ext.trans D10.out (Ext.trans D11.out (Ext.trans D12.out D13.out))))))))))))) (HA2.out.old (Ext.trans D1.out (Ext.trans D2.out (Ext.trans D3.out (Ext.trans D4.out (Ext.trans D5.out (Ext.trans D6.out (Ext.trans D7.out (Ext.trans D8.out (Ext.trans D9.out (Ext.trans D10.out (Ext.trans D11.out (Ext.trans D12.out D13.out))))))))))))) (HA3.out.old (Ext.trans D1.out (Ext.trans D2.out (Ext.trans D3.out (Ext.trans D4.out (Ext.trans D5.out (Ext.trans D6.out (Ext.trans D7.out (Ext.trans D8.out (Ext.trans D9.out (Ext.trans D10.out (Ext.trans D11.out (Ext.trans D12.out D13.out))))))))))))) HQ1.out HQ2.out HQ3.out (by rw [H_P.out]; exact HC2.out) HC0.out (by omega) (by omega) (by omega))
    go_wp2_with (rw [HV11.out])
    refine C12.out.mono ?_
    rintro e w12 ⟨p12, n12, c12, rfl, o12, x12, l12⟩
    clear ja jb jc
    have S12 := Lib.hid o12.sl
    clear o12
    have D14 := Lib.hid x12
    have EX14 := Lib.hid (EX13.out.trans x12)
    clear x12
    clear C12
    obtain ⟨V13, hV⟩ : ∃ V, w12.alloc (.cells #[.slice p12 n12 c12] 25) = V := ⟨_, rfl⟩
    have R13 := Lib.hid (show V13.heap[w12.heap.size]? = some (.cells #[.slice p12 n12 c12] 25 (0, 0)) by rw [← hV]; exact heap_alloc_new w12 _)
    have x13 : Ext w12 V13 := by rw [← hV]; exact (Ext.refl _).alloc _
    have HV13 := Lib.hid hV
    clear hV
    have D15 := Lib.hid x13
    have EX15 := Lib.hid (EX14.out.trans x13)
    clear x13
    have jc := drow_cell (rowE (Ext.trans D4.out (Ext.trans D5.out (Ext.trans D6.out (Ext.trans D7.out (Ext.trans D8.out (Ext.trans D9.out (Ext.trans D10.out (Ext.trans D11.out (Ext.trans D12.out (Ext.trans D13.out (Ext.trans D14.out D15.out))))))))))) R3.out)
    have C14 := Lib.hid (dzero_at C true (HA3.out.old (Ext.trans D1.out (Ext.trans D2.out (Ext.trans D3.out (Ext.trans D4.out (Ext.trans D5.out (Ext.trans D6.out (Ext.trans D7.out (Ext.trans D8.out (Ext.trans D9.out (Ext.trans D10.out (Ext.trans D11.out (Ext.trans D12.out (Ext.trans D13.out (Ext.trans D14.out D15.out))))))))))))))) HQ3.out HC3.out (by omega))
    go_wp2_with (rw [HV13.out])
    refine C14.out.mono ?_
    rintro e w14 ⟨rfl, x14⟩
    clear jc
    have D16 := Lib.hid x14
    have EX16 := Lib.hid (EX15.out.trans x14)
    clear x14
    clear C14
    go_wp2_with fail
    go_ret
    exact ⟨rfl, EX16.out⟩
  have HC := Lib.hid hC; have HC3 := Lib.hid (decide_eq_false hC); clear hC
  obtain ⟨D, h_D⟩ : ∃ x, P / C = x := ⟨_, rfl⟩
  have H_D := Lib.hid h_D
  clear h_D
  obtain ⟨Uu, h_Uu⟩ : ∃ x, qN true P C = x := ⟨_, rfl⟩
  have H_Uu := Lib.hid h_Uu
  clear h_Uu
  obtain ⟨DC, h_DC⟩ : ∃ x, P / C * C = x := ⟨_, rfl⟩
  have H_DC := Lib.hid h_DC
  clear h_DC
  obtain ⟨x, h_x⟩ : ∃ x, decide (lim (P / C * C) = lim P) = x := ⟨_, rfl⟩
  have H_x := Lib.hid h_x
  clear h_x
  have F7 := Lib.hid (show qN false P C = D from by rw [← H_D.out]; exact qN_down HC.out)
  have F8 := Lib.hid (show D * C = DC from by rw [← H_D.out]; exact H_DC.out)
  have F9 := Lib.hid (show decide (lim DC = lim P) = x from by rw [← H_DC.out]; exact H_x.out)
  have RE := Lib.hid (show rdE C = 0 from rdE_pos HC.out)
  have ja := drow_cell (rowE (Ext.trans D2.out (Ext.trans D3.out (Ext.trans D4.out (Ext.trans D5.out (Ext.trans D6.out (Ext.trans D7.out (Ext.trans D8.out (Ext.trans D9.out (Ext.trans D10.out D11.out))))))))) R1.out)
  have jb := drow_cell (rowE (Ext.trans D3.out (Ext.trans D4.out (Ext.trans D5.out (Ext.trans D6.out (Ext.trans D7.out (Ext.trans D8.out (Ext.trans D9.out (Ext.trans D10.out D11.out)))))))) R2.out)
  have jc := drow_cell (rowE (Ext.trans D4.out (Ext.trans D5.out (Ext.trans D6.out (Ext.trans D7.out (Ext.trans D8.out (Ext.trans D9.out (Ext.trans D10.out D11.out))))))) R3.out)
  have C10 := Lib.hid (dmuldiv_gen A B C D 0 (HA1.out.old (Ext.trans D1.out (Ext.trans D2.out (Ext.trans D3.out (Ext.trans D4.out (Ext.trans D5.out (Ext.trans D6.out (Ext.trans D7.out (Ext.trans D8.out (Ext.trans D9.out (Ext.trans D10.out D11.out))))))))))) (HA2.out.old (Ext.trans D1.out (Ext.trans D2.out (Ext.trans D3.out (Ext.trans D4.out (Ext.trans D5.out (Ext.trans D6.out (Ext.trans D7.out (Ext.trans D8.out (Ext.trans D9.out (Ext.trans D10.out D11.out))))))))))) (HA3.out.old (Ext.trans D1.out (Ext.trans D2.out (Ext.trans D3.out (Ext.trans D4.out (Ext.trans D5.out (Ext.trans D6.out (Ext.trans D7.out (Ext.trans D8.out (Ext.trans D9.out (Ext.trans D10.out D11.out))))))))))) HQ1.out HQ2.out HQ3.out (by rw [H_P.out]; exact F7.out) RE.out (by omega) (by omega) (by omega))
  go_wp2_with fail
  refine C10.out.mono ?_
  rintro e w10 ⟨p10, n10, c10, rfl, o10, x10, l10⟩
  clear ja jb jc
  have S10 := Lib.hid o10.sl
  clear o10
  have D12 := Lib.hid x10
  have EX12 := Lib.hid (EX11.out.trans x10)
  clear x10
  clear C10
  obtain ⟨V11, hV⟩ : ∃ V, w10.alloc (.cells #[.slice p10 n10 c10] 25) = V := ⟨_, rfl⟩
  have R11 := Lib.hid (show V11.heap[w10.heap.size]? = some (.cells #[.slice p10 n10 c10] 25 (0, 0)) by rw [← hV]; exact heap_alloc_new w10 _)
  have x11 : Ext w10 V11 := by rw [← hV]; exact (Ext.refl _).alloc _
  have HV11 := Lib.hid hV
  clear hV
  have D13 := Lib.hid x11
  have EX13 := Lib.hid (EX12.out.trans x11)
  clear x11
  have ja := drow_cell (rowE (Ext.trans D2.out (Ext.trans D3.out (Ext.trans D4.out (Ext.trans D5.out (Ext.trans D6.out (Ext.trans D7.out (Ext.trans D8.out (Ext.trans D9.out (Ext.trans D10.out (Ext.trans D11.out (Ext.trans D12.out D13.out))))))))))) R1.out)
  have jb := drow_cell (rowE (Ext.trans D3.out (Ext.trans D4.out (Ext.trans D5.out (Ext.trans D6.out (Ext.trans D7.out (Ext.trans D8.out (Ext.trans D9.out (Ext.trans D10.out (Ext.trans D11.out (Ext.trans D12.out D13.out)))))))))) R2.out)
  have jc := drow_cell (rowE (Ext.trans D4.out (Ext.trans D5.out (Ext.trans D6.out (Ext.trans D7.out (Ext.trans D8.out (Ext.trans D9.out (Ext.trans D10.out (Ext.trans D11.out (Ext.trans D12.out D13.out))))))))) R3.out)
  have C12 := Lib.hid (dmuldivup_gen A B C Uu 0 (HA1.out.old (Ext.trans D1.out (Ext.trans D2.out (Ext.trans D3.out (Ext.trans D4.out (Ext.trans D5.out (Ext.trans D6.out (Ext.trans D7.out (Ext.trans D8.out (Ext.trans D9.out (Ext.trans D10.out (Ext.trans D11.out (Ext.trans D12.out D13.out))))))))))))) (HA2.out.old (Ext.trans D1.out (Ext.trans D2.out (Ext.trans D3.out (Ext.trans D4.out (Ext.trans D5.out (Ext.trans D6.out (Ext.trans D7.out (Ext.trans D8.out (Ext.trans D9.out (Ext.trans D10.out (Ext.trans D11.out (Ext.trans D12.out D13.out))))))))))))) (HA3.out.old (Ext.trans D1.out (Ext.trans D2.out (Ext.trans D3.out (Ext.trans D4.out (Ext.trans D5.out (Ext.trans D6.out (Ext.trans D7.out (Ext.trans D8.out (Ext.trans D9.out (Ext.trans D10.out (Ext.trans D11.out (Ext.trans D12.out D13.out))))))))))))) HQ1.out HQ2.out HQ3.out (by rw [H_P.out]; exact H_Uu.out) RE.out (by omega) (by omega) (by omega))
  go_wp2_with (rw [HV11.out])
  refine C12.out.mono ?_
  rintro e w12 ⟨p12, n12, c12, rfl, o12, x12, l12⟩
  clear ja jb jc
  have S12 := Lib.hid o12.sl
  clear o12
  have D14 := Lib.hid x12
  have EX14 := Lib.hid (EX13.out.trans x12)
  clear x12
  clear C12
  obtain ⟨V13, hV⟩ : ∃ V, w12.alloc (.cells #[.slice p12 n12 c12] 25) = V := ⟨_, rfl⟩
  have R13 := Lib.hid (show V13.heap[w12.heap.size]? = some (.cells #[.slice p12 n12 c12] 25 (0, 0)) by rw [← hV]; exact heap_alloc_new w12 _)
  have x13 : Ext w12 V13 := by rw [← hV]; exact (Ext.refl _).alloc _
  have HV13 := Lib.hid hV
  clear hV
  have D15 := Lib.hid x13
  have EX15 := Lib.hid (EX14.out.trans x13)
  clear x13
  have jc := drow_cell (rowE (Ext.trans D4.out (Ext.trans D5.out (Ext.trans D6.out (Ext.trans D7.out (Ext.trans D8.out (Ext.trans D9.out (Ext.trans D10.out (Ext.trans D11.out (Ext.trans D12.out (Ext.trans D13.out (Ext.trans D14.out D15.out))))))))))) R3.out)
  have C14 := Lib.hid (dzero_at C false (HA3.out.old (Ext.trans D1.out (Ext.trans D2.out (Ext.trans D3.out (Ext.trans D4.out (Ext.trans D5.out (Ext.trans D6.out (Ext.trans D7.out (Ext.trans D8.out (Ext.trans D9.out (Ext.trans D10.out (Ext.trans D11.out (Ext.trans D12.out (Ext.trans D13.out (Ext.trans D14.out D15.out))))))))))))))) HQ3.out HC3.out (by omega))
  go_wp2_with (rw [HV13.out])
  refine C14.out.mono ?_
  rintro e w14 ⟨rfl, x14⟩
  clear jc
  have D16 := Lib.hid x14
  have EX16 := Lib.hid (EX15.out.trans x14)
  clear x14
  clear C14
  have H15 : Hid (∀ w', Ext w14 w' → w'.cell? ⟨w10.heap.size, 0, none⟩ = some (.slice p10 n10 c10) ∧ w'.cell? ⟨V2.heap.size, 0, none⟩ = some (.slice a3 m3 c3) ∧ w'.cell? ⟨w.heap.size, 0, none⟩ = some (.slice a1 m1 c1) ∧ w'.cell? ⟨V1.heap.size, 0, none⟩ = some (.slice a2 m2 c2)) := Lib.hid (fun w' h => ⟨drow_cell (rowE (Ext.trans (Ext.trans D14.out (Ext.trans D15.out D16.out)) h) R11.out), drow_cell (rowE (Ext.trans (Ext.trans D4.out (Ext.trans D5.out (Ext.trans D6.out (Ext.trans D7.out (Ext.trans D8.out (Ext.trans D9.out (Ext.trans D10.out (Ext.trans D11.out (Ext.trans D12.out (Ext.trans D13.out (Ext.trans D14.out (Ext.trans D15.out D16.out)))))))))))) h) R3.out), drow_cell (rowE (Ext.trans (Ext.trans D2.out (Ext.trans D3.out (Ext.trans D4.out (Ext.trans D5.out (Ext.trans D6.out (Ext.trans D7.out (Ext.trans D8.out (Ext.trans D9.out (Ext.trans D10.out (Ext.trans D11.out (Ext.trans D12.out (Ext.trans D13.out (Ext.trans D14.out (Ext.trans D15.out D16.out)))))))))))))) h) R1.out), drow_cell (rowE (Ext.trans (Ext.trans D3.out (Ext.trans D4.out (Ext.trans D5.out (Ext.trans D6.out (Ext.trans D7.out (Ext.trans D8.out (Ext.trans D9.out (Ext.trans D10.out (Ext.trans D11.out (Ext.trans D12.out (Ext.trans D13.out (Ext.trans D14.out (Ext.trans D15.out D16.out))))))))))))) h) R2.out)⟩)
  go_wp2_with fail
  go_region_held3 (fun w' => w'.cell? ⟨w10.heap.size, 0, none⟩ = some (.slice p10 n10 c10) ∧ w'.cell? ⟨V2.heap.size, 0, none⟩ = some (.slice a3 m3 c3) ∧ w'.cell? ⟨w.heap.size, 0, none⟩ = some (.slice a1 m1 c1) ∧ w'.cell? ⟨V1.heap.size, 0, none⟩ = some (.slice a2 m2 c2))
    (first | exact H15.out _ (Ext.refl _) | exact H15.out _ (Ext.refl _).drew | exact H15.out _ (by assumption))
    (first
      | (go_at_call_of 49 p10; refine (mul_at D C DC (S10.out.old ((Ext.trans D13.out (Ext.trans D14.out (Ext.trans D15.out D16.out))).trans (Ext.refl w14).drew)) (HA3.out.old ((Ext.trans D1.out (Ext.trans D2.out (Ext.trans D3.out (Ext.trans D4.out (Ext.trans D5.out (Ext.trans D6.out (Ext.trans D7.out (Ext.trans D8.out (Ext.trans D9.out (Ext.trans D10.out (Ext.trans D11.out (Ext.trans D12.out (Ext.trans D13.out (Ext.trans D14.out (Ext.trans D15.out D16.out))))))))))))))).trans (Ext.refl w14).drew)) (val_lim _) HQ3.out F8.out (by omega) (by omega)).mono ?_; rintro e wr15_0 ⟨pr15_0, nr15_0, cr15_0, rfl, or15_0, xr15_0, lr15_0⟩; have Er15_0 : Ext w14 wr15_0 := (Ext.refl w14).drew.trans xr15_0)
      | (go_at_call_of 49 a1; refine (mul_at A B P (HA1.out.old ((Ext.trans D1.out (Ext.trans D2.out (Ext.trans D3.out (Ext.trans D4.out (Ext.trans D5.out (Ext.trans D6.out (Ext.trans D7.out (Ext.trans D8.out (Ext.trans D9.out (Ext.trans D10.out (Ext.trans D11.out (Ext.trans D12.out (Ext.trans D13.out (Ext.trans D14.out (Ext.trans D15.out D16.out))))))))))))))).trans Er15_0)) (HA2.out.old ((Ext.trans D1.out (Ext.trans D2.out (Ext.trans D3.out (Ext.trans D4.out (Ext.trans D5.out (Ext.trans D6.out (Ext.trans D7.out (Ext.trans D8.out (Ext.trans D9.out (Ext.trans D10.out (Ext.trans D11.out (Ext.trans D12.out (Ext.trans D13.out (Ext.trans D14.out (Ext.trans D15.out D16.out))))))))))))))).trans Er15_0)) HQ1.out HQ2.out H_P.out (by omega) (by omega)).mono ?_; rintro e wr15_1 ⟨pr15_1, nr15_1, cr15_1, rfl, or15_1, xr15_1, lr15_1⟩; have Er15_1 : Ext w14 wr15_1 := Er15_0.trans xr15_1)
      | (go_at_call 44; refine (hnat_at x (or15_0.sl.old xr15_1) or15_1.sl F9.out (by omega) (by omega)).mono ?_; rintro e wr15_2 ⟨rfl, xr15_2⟩; have Er15_2 : Ext w14 wr15_2 := Er15_1.trans xr15_2))
  have x15 := Er15_2
  clear xr15_0 or15_0 Er15_0 xr15_1 or15_1 Er15_1 xr15_2 Er15_2
  have D17 := Lib.hid x15
  have EX17 := Lib.hid (EX16.out.trans x15)
  clear x15
  have hw0 : IntKind.i64.wrap 0 = 0 := by decide
  go_upto_region 19 with (fail)
  go_cut [147] from 124 to 147 (fun v wx => v = .bool false ∧ Ext wr15_2 wx)
  case first =>
    by_cases hx : x = true
    · subst hx
      have HXX := Lib.hid (exact_up HC.out H_x.out)
      have G1 := Lib.hid (show cmpN D Uu = 0 from by rw [← H_D.out, ← H_Uu.out]; exact HXX.out)
      have H16 : Hid (∀ w', Ext wr15_2 w' → w'.cell? ⟨w10.heap.size, 0, none⟩ = some (.slice p10 n10 c10) ∧ w'.cell? ⟨w12.heap.size, 0, none⟩ = some (.slice p12 n12 c12)) := Lib.hid (fun w' h => ⟨drow_cell (rowE (Ext.trans (Ext.trans D14.out (Ext.trans D15.out (Ext.trans D16.out D17.out))) h) R11.out), drow_cell (rowE (Ext.trans (Ext.trans D16.out D17.out) h) R13.out)⟩)
      go_wp2_with fail
      refine wp_region_held_drew (S := fun w' => w'.cell? ⟨w10.heap.size, 0, none⟩ = some (.slice p10 n10 c10) ∧ w'.cell? ⟨w12.heap.size, 0, none⟩ = some (.slice p12 n12 c12)) (by kernel_rfl) (H16.out _ (Ext.refl _).drew) (fun hHeld => ?_)
      refine takeW (i := 0) (v := ?_) rfl (by kernel_rfl) (by kernel_rfl) (by kernel_rfl) (fun _ _ _ h => h) (Or.inl ⟨by rfl, ?_⟩) (by assumption) ?_
      rotate_left
      · (intro wz hSw; (try dsimp only at hSw); go_simp <;> with_reducible rfl)
      try simp only [Act.put, List.setIfInBounds_toArray, List.set_cons_zero, List.set_cons_succ]
      refine takeW (i := 1) (v := ?_) rfl (by kernel_rfl) (by kernel_rfl) (by kernel_rfl) (fun _ _ _ h => h) (Or.inl ⟨by rfl, ?_⟩) (by assumption) ?_
      rotate_left
      · (intro wz hSw; (try dsimp only at hSw); go_simp <;> with_reducible rfl)
      try simp only [Act.put, List.setIfInBounds_toArray, List.set_cons_zero, List.set_cons_succ]
      refine takeW (i := 2) (v := ?_) rfl (by kernel_rfl) (by kernel_rfl) (by kernel_rfl) (fun _ _ _ h => h) (Or.inl ⟨by rfl, ?_⟩) (by assumption) ?_
      rotate_left
      · (intro wz hSw; (try dsimp only at hSw); go_simp <;> with_reducible rfl)
      try simp only [Act.put, List.setIfInBounds_toArray, List.set_cons_zero, List.set_cons_succ]
      refine takeW (i := 3) (v := ?_) rfl (by kernel_rfl) (by kernel_rfl) (by kernel_rfl) (fun _ _ _ h => h) (Or.inl ⟨by rfl, ?_⟩) (by assumption) ?_
      rotate_left
      · (intro wz hSw; (try dsimp only at hSw); go_simp <;> with_reducible rfl)
      try simp only [Act.put, List.setIfInBounds_toArray, List.set_cons_zero, List.set_cons_succ]
      refine takeW (i := 4) (v := ?_) rfl (by kernel_rfl) (by kernel_rfl) (by kernel_rfl) (fun _ _ _ h => h) (Or.inl ⟨by rfl, ?_⟩) (by assumption) ?_
      rotate_left
      · (intro wz hSw; (try dsimp only at hSw); go_simp <;> with_reducible rfl)
      try simp only [Act.put, List.setIfInBounds_toArray, List.set_cons_zero, List.set_cons_succ]
      refine takeW (i := 5) (v := ?_) rfl (by kernel_rfl) (by kernel_rfl) (by kernel_rfl) (fun _ _ _ h => h) (Or.inl ⟨by rfl, ?_⟩) (by assumption) ?_
      rotate_left
      · (intro wz hSw; (try dsimp only at hSw); go_simp <;> with_reducible rfl)
      try simp only [Act.put, List.setIfInBounds_toArray, List.set_cons_zero, List.set_cons_succ]
      refine takeW (i := 6) (v := ?_) rfl (by kernel_rfl) (by kernel_rfl) (by kernel_rfl) (fun _ _ _ h => h) (Or.inl ⟨by rfl, ?_⟩) (by assumption) ?_
      rotate_left
      · (intro wz hSw; (try dsimp only at hSw); go_simp <;> with_reducible rfl)
      try simp only [Act.put, List.setIfInBounds_toArray, List.set_cons_zero, List.set_cons_succ]
      refine takeW (i := 7) (v := ?_) rfl (by kernel_rfl) (by kernel_rfl) (by kernel_rfl) (fun _ _ _ h => h) (Or.inl ⟨by rfl, ?_⟩) (by assumption) ?_
      rotate_left
      · (intro wz hSw; (try dsimp only at hSw); go_simp <;> with_reducible rfl)
      try simp only [Act.put, List.setIfInBounds_toArray, List.set_cons_zero, List.set_cons_succ]
      refine wpAnyH_ready (rs := [8]) (by kernel_rfl) (by simp) ?_
      refine consW rfl (fun K hK => ?_) AllReadyH.nil
      go_simp
      go_at_call_of 29 p10
      refine (dcmp_at D Uu 0 (S10.out.old ((Ext.trans D13.out (Ext.trans D14.out (Ext.trans D15.out (Ext.trans D16.out D17.out)))).trans (Ext.refl wr15_2).drew)) (S12.out.old ((Ext.trans D15.out (Ext.trans D16.out D17.out)).trans (Ext.refl wr15_2).drew)) (val_lim _) (val_lim _) G1.out (by omega) (by omega)).mono ?_
      rintro e wr16_0 ⟨rfl, xr16_0⟩
      have Er16_0 : Ext wr15_2 wr16_0 := (Ext.refl wr15_2).drew.trans xr16_0
      try go_wp2_with fail
      refine hK.out _ _ ?_ (fun hHeld => ?_)
      · (try dsimp only); exact H16.out _ Er16_0
      clear hK K
      try simp only [Act.put, List.setIfInBounds_toArray, List.set_cons_zero, List.set_cons_succ]
      refine takeW (i := 9) (v := ?_) rfl (by kernel_rfl) (by kernel_rfl) (by kernel_rfl) (fun _ _ _ h => h) (Or.inl ⟨by rfl, ?_⟩) (by assumption) ?_
      rotate_left
      · (intro wz hSw; (try dsimp only at hSw); go_simp <;> with_reducible rfl)
      try simp only [Act.put, List.setIfInBounds_toArray, List.set_cons_zero, List.set_cons_succ]
      refine takeW (i := 10) (v := ?_) rfl (by kernel_rfl) (by kernel_rfl) (by kernel_rfl) (fun _ _ _ h => h) (Or.inl ⟨by rfl, ?_⟩) (by assumption) ?_
      rotate_left
      · (intro wz hSw; (try dsimp only at hSw); go_simp <;> with_reducible rfl)
      try simp only [Act.put, List.setIfInBounds_toArray, List.set_cons_zero, List.set_cons_succ]
      refine takeW (i := 11) (v := ?_) rfl (by kernel_rfl) (by kernel_rfl) (by kernel_rfl) (fun _ _ _ h => h) (Or.inl ⟨by rfl, ?_⟩) (by assumption) ?_
      rotate_left
      · (intro wz hSw; (try dsimp only at hSw); go_simp <;> with_reducible rfl)
      try simp only [Act.put, List.setIfInBounds_toArray, List.set_cons_zero, List.set_cons_succ]
      refine takeW (i := 12) (v := ?_) rfl (by kernel_rfl) (by kernel_rfl) (by kernel_rfl) (fun _ _ _ h => h) (Or.inl ⟨by rfl, ?_⟩) (by assumption) ?_
      rotate_left
      · (intro wz hSw; (try dsimp only at hSw); go_simp <;> with_reducible rfl)
      try simp only [Act.put, List.setIfInBounds_toArray, List.set_cons_zero, List.set_cons_succ]
      refine takeW (i := 13) (v := ?_) rfl (by kernel_rfl) (by kernel_rfl) (by kernel_rfl) (fun _ _ _ h => h) (Or.inl ⟨by rfl, ?_⟩) (by assumption) ?_
      rotate_left
      · (intro wz hSw; (try dsimp only at hSw); go_simp <;> with_reducible rfl)
      try simp only [Act.put, List.setIfInBounds_toArray, List.set_cons_zero, List.set_cons_succ]
      refine takeW (i := 14) (v := ?_) rfl (by kernel_rfl) (by kernel_rfl) (by kernel_rfl) (fun _ _ _ h => h) (Or.inl ⟨by rfl, ?_⟩) (by assumption) ?_
      rotate_left
      · (intro wz hSw; (try dsimp only at hSw); go_simp <;> with_reducible rfl)
      try simp only [Act.put, List.setIfInBounds_toArray, List.set_cons_zero, List.set_cons_succ]
      refine takeW (i := 15) (v := ?_) rfl (by kernel_rfl) (by kernel_rfl) (by kernel_rfl) (fun _ _ _ h => h) (Or.inl ⟨by rfl, ?_⟩) (by assumption) ?_
      rotate_left
      · (intro wz hSw; (try dsimp only at hSw); go_simp <;> with_reducible rfl)
      try simp only [Act.put, List.setIfInBounds_toArray, List.set_cons_zero, List.set_cons_succ]
      refine skipW (i := 16) rfl (by kernel_rfl) (by kernel_rfl) (by kernel_rfl) (fun _ _ _ h => h) (by rfl) (by assumption) ?_
      try simp only [Act.put, List.setIfInBounds_toArray, List.set_cons_zero, List.set_cons_succ]
      refine skipW (i := 19) rfl (by kernel_rfl) (by kernel_rfl) (by kernel_rfl) (fun _ _ _ h => h) (by rfl) (by assumption) ?_
      try simp only [Act.put, List.setIfInBounds_toArray, List.set_cons_zero, List.set_cons_succ]
      refine skipW (i := 17) rfl (by kernel_rfl) (by kernel_rfl) (by kernel_rfl) (fun _ _ _ h => h) (by rfl) (by assumption) ?_
      try simp only [Act.put, List.setIfInBounds_toArray, List.set_cons_zero, List.set_cons_succ]
      refine skipW (i := 18) rfl (by kernel_rfl) (by kernel_rfl) (by kernel_rfl) (fun _ _ _ h => h) (by rfl) (by assumption) ?_
      try simp only [Act.put, List.setIfInBounds_toArray, List.set_cons_zero, List.set_cons_succ]
      refine skipW (i := 20) rfl (by kernel_rfl) (by kernel_rfl) (by kernel_rfl) (fun _ _ _ h => h) (by rfl) (by assumption) ?_
      try simp only [Act.put, List.setIfInBounds_toArray, List.set_cons_zero, List.set_cons_succ]
      refine skipW (i := 21) rfl (by kernel_rfl) (by kernel_rfl) (by kernel_rfl) (fun _ _ _ h => h) (by rfl) (by assumption) ?_
      try simp only [Act.put, List.setIfInBounds_toArray, List.set_cons_zero, List.set_cons_succ]
      refine takeW (i := 22) (v := ?_) rfl (by kernel_rfl) (by kernel_rfl) (by kernel_rfl) (fun _ _ _ h => h) (Or.inl ⟨by rfl, ?_⟩) (by assumption) ?_
      rotate_left
      · (intro wz hSw; (try dsimp only at hSw); go_simp <;> with_reducible rfl)
      try simp only [Act.put, List.setIfInBounds_toArray, List.set_cons_zero, List.set_cons_succ]
      refine takeW (i := 23) (v := ?_) rfl (by kernel_rfl) (by kernel_rfl) (by kernel_rfl) (fun _ _ _ h => h) (Or.inl ⟨by rfl, ?_⟩) (by assumption) ?_
      rotate_left
      · (intro wz hSw; (try dsimp only at hSw); go_simp <;> with_reducible rfl)
      try simp only [Act.put, List.setIfInBounds_toArray, List.set_cons_zero, List.set_cons_succ]
      refine wpAnyH_done (by kernel_rfl) ?_ _
      have x16 := Er16_0
      clear xr16_0 Er16_0
      have D18 := Lib.hid x16
      have EX18 := Lib.hid (EX17.out.trans x16)
      clear x16
      go_wp2_with fail
      go_meet
      exact ⟨rfl, D18.out⟩
    have hx2 : x = false := by cases x with
      | true => exact absurd rfl hx
      | false => rfl
    clear hx
    subst hx2
    have HXX := Lib.hid (odd_up HC.out H_x.out)
    obtain ⟨g1, h1, h2, h3⟩ : ∃ g : Int, cmpN D Uu = g ∧ (g == 0) = false ∧ decide (g = 0) = false := ⟨-1, by rw [← H_D.out, ← H_Uu.out, HXX.out]; exact cmpN_lt (Nat.lt_succ_self _), rfl, rfl⟩
    have G1 := Lib.hid h1; clear h1
    have G2 := Lib.hid (show D + 1 = Uu from by rw [← H_D.out, ← H_Uu.out]; exact HXX.out.symm)
    have H16 : Hid (∀ w', Ext wr15_2 w' → w'.cell? ⟨w10.heap.size, 0, none⟩ = some (.slice p10 n10 c10) ∧ w'.cell? ⟨w12.heap.size, 0, none⟩ = some (.slice p12 n12 c12)) := Lib.hid (fun w' h => ⟨drow_cell (rowE (Ext.trans (Ext.trans D14.out (Ext.trans D15.out (Ext.trans D16.out D17.out))) h) R11.out), drow_cell (rowE (Ext.trans (Ext.trans D16.out D17.out) h) R13.out)⟩)
    go_wp2_with fail
    go_region_held3 (fun w' => w'.cell? ⟨w10.heap.size, 0, none⟩ = some (.slice p10 n10 c10) ∧ w'.cell? ⟨w12.heap.size, 0, none⟩ = some (.slice p12 n12 c12))
      (first | exact H16.out _ (Ext.refl _) | exact H16.out _ (Ext.refl _).drew | exact H16.out _ (by assumption))
      (first
        | (go_at_call_of 29 p10; refine (dcmp_at D Uu g1 (S10.out.old ((Ext.trans D13.out (Ext.trans D14.out (Ext.trans D15.out (Ext.trans D16.out D17.out)))).trans (Ext.refl wr15_2).drew)) (S12.out.old ((Ext.trans D15.out (Ext.trans D16.out D17.out)).trans (Ext.refl wr15_2).drew)) (val_lim _) (val_lim _) G1.out (by omega) (by omega)).mono ?_; rintro e wr16_0 ⟨rfl, xr16_0⟩; have Er16_0 : Ext wr15_2 wr16_0 := (Ext.refl wr15_2).drew.trans xr16_0)
        | (go_at_call 50; refine (bit_calls _).mono ?_; rintro e wr16_1 ⟨pr16_1, nr16_1, cr16_1, rfl, or16_1, xr16_1, lr16_1⟩; have Er16_1 : Ext wr15_2 wr16_1 := Er16_0.trans xr16_1)
        | (go_at_call 14; refine (dadd_at D 1 Uu (S10.out.old ((Ext.trans D13.out (Ext.trans D14.out (Ext.trans D15.out (Ext.trans D16.out D17.out)))).trans Er16_1)) or16_1.sl (val_lim _) (val_lim _) G2.out (by omega) (by omega)).mono ?_; rintro e wr16_2 ⟨pr16_2, nr16_2, cr16_2, rfl, or16_2, xr16_2, lr16_2⟩; have Er16_2 : Ext wr15_2 wr16_2 := Er16_1.trans xr16_2)
        | (go_at_call_of 29 pr16_2; refine (dcmp_at Uu Uu 0 or16_2.sl (S12.out.old ((Ext.trans D15.out (Ext.trans D16.out D17.out)).trans Er16_2)) (val_lim _) (val_lim _) (cmpN_eq rfl) (by omega) (by omega)).mono ?_; rintro e wr16_3 ⟨rfl, xr16_3⟩; have Er16_3 : Ext wr15_2 wr16_3 := Er16_2.trans xr16_3))
    have x16 := Er16_3
    clear xr16_0 Er16_0 xr16_1 or16_1 Er16_1 xr16_2 or16_2 Er16_2 xr16_3 Er16_3
    have D18 := Lib.hid x16
    have EX18 := Lib.hid (EX17.out.trans x16)
    clear x16
    go_wp2_with fail
    go_meet
    exact ⟨rfl, D18.out⟩
  obtain ⟨rfl, xC⟩ := hcut
  have D18 := Lib.hid xC
  have EX18 := Lib.hid (EX17.out.trans xC)
  clear xC
  have H16 : Hid (∀ w', Ext wc w' → w'.cell? ⟨w.heap.size, 0, none⟩ = some (.slice a1 m1 c1)) := Lib.hid (fun w' h => drow_cell (rowE (Ext.trans (Ext.trans D2.out (Ext.trans D3.out (Ext.trans D4.out (Ext.trans D5.out (Ext.trans D6.out (Ext.trans D7.out (Ext.trans D8.out (Ext.trans D9.out (Ext.trans D10.out (Ext.trans D11.out (Ext.trans D12.out (Ext.trans D13.out (Ext.trans D14.out (Ext.trans D15.out (Ext.trans D16.out (Ext.trans D17.out D18.out)))))))))))))))) h) R1.out))
  go_wp2_with fail
  go_region_held3 (fun w' => w'.cell? ⟨w.heap.size, 0, none⟩ = some (.slice a1 m1 c1))
    (first | exact H16.out _ (Ext.refl _) | exact H16.out _ (Ext.refl _).drew | exact H16.out _ (by assumption))
    (first
      | (go_at_call 21; refine (dof_at nn NN HN.out H_NN.out _).mono ?_; rintro e wr16_0 ⟨pr16_0, nr16_0, cr16_0, rfl, or16_0, xr16_0, lr16_0⟩; have Er16_0 : Ext wc wr16_0 := (Ext.refl wc).drew.trans xr16_0)
      | (go_at_call 42; refine (dmul_at A NN AN (HA1.out.old ((Ext.trans D1.out (Ext.trans D2.out (Ext.trans D3.out (Ext.trans D4.out (Ext.trans D5.out (Ext.trans D6.out (Ext.trans D7.out (Ext.trans D8.out (Ext.trans D9.out (Ext.trans D10.out (Ext.trans D11.out (Ext.trans D12.out (Ext.trans D13.out (Ext.trans D14.out (Ext.trans D15.out (Ext.trans D16.out (Ext.trans D17.out D18.out))))))))))))))))).trans Er16_0)) or16_0.sl HQ1.out (val_lim _) F2.out (by omega) (by omega)).mono ?_; rintro e wr16_1 ⟨pr16_1, nr16_1, cr16_1, rfl, or16_1, xr16_1, lr16_1⟩; have Er16_1 : Ext wc wr16_1 := Er16_0.trans xr16_1)
      | (go_at_call 15; refine (dtimes_at A nn AN (HA1.out.old ((Ext.trans D1.out (Ext.trans D2.out (Ext.trans D3.out (Ext.trans D4.out (Ext.trans D5.out (Ext.trans D6.out (Ext.trans D7.out (Ext.trans D8.out (Ext.trans D9.out (Ext.trans D10.out (Ext.trans D11.out (Ext.trans D12.out (Ext.trans D13.out (Ext.trans D14.out (Ext.trans D15.out (Ext.trans D16.out (Ext.trans D17.out D18.out))))))))))))))))).trans Er16_1)) HQ1.out H_AN.out (by omega) HN.out).mono ?_; rintro e wr16_2 ⟨pr16_2, nr16_2, cr16_2, rfl, or16_2, xr16_2, lr16_2⟩; have Er16_2 : Ext wc wr16_2 := Er16_1.trans xr16_2)
      | (go_at_call 29; refine (dcmp_at AN AN 0 (or16_1.sl.old xr16_2) or16_2.sl (val_lim _) (val_lim _) (cmpN_eq rfl) (by omega) (by omega)).mono ?_; rintro e wr16_3 ⟨rfl, xr16_3⟩; have Er16_3 : Ext wc wr16_3 := Er16_2.trans xr16_3))
  have x16 := Er16_3
  clear xr16_0 or16_0 Er16_0 xr16_1 or16_1 Er16_1 xr16_2 or16_2 Er16_2 xr16_3 Er16_3
  have D19 := Lib.hid x16
  have EX19 := Lib.hid (EX18.out.trans x16)
  clear x16
  have ja := drow_cell (rowE (Ext.trans D2.out (Ext.trans D3.out (Ext.trans D4.out (Ext.trans D5.out (Ext.trans D6.out (Ext.trans D7.out (Ext.trans D8.out (Ext.trans D9.out (Ext.trans D10.out (Ext.trans D11.out (Ext.trans D12.out (Ext.trans D13.out (Ext.trans D14.out (Ext.trans D15.out (Ext.trans D16.out (Ext.trans D17.out (Ext.trans D18.out D19.out))))))))))))))))) R1.out)
  have C17 := Lib.hid (dtimes_at A nn AN (HA1.out.old (Ext.trans D1.out (Ext.trans D2.out (Ext.trans D3.out (Ext.trans D4.out (Ext.trans D5.out (Ext.trans D6.out (Ext.trans D7.out (Ext.trans D8.out (Ext.trans D9.out (Ext.trans D10.out (Ext.trans D11.out (Ext.trans D12.out (Ext.trans D13.out (Ext.trans D14.out (Ext.trans D15.out (Ext.trans D16.out (Ext.trans D17.out (Ext.trans D18.out D19.out))))))))))))))))))) HQ1.out H_AN.out (by omega) HN.out)
  go_wp2_with fail
  refine C17.out.mono ?_
  rintro e w17 ⟨p17, n17, c17, rfl, o17, x17, l17⟩
  clear ja
  have S17 := Lib.hid o17.sl
  clear o17
  have D20 := Lib.hid x17
  have EX20 := Lib.hid (EX19.out.trans x17)
  clear x17
  clear C17
  by_cases hn0 : nn = 0
  · have HE1 := Lib.hid (show rdE nn = 21 by rw [hn0]; rfl); have HE2 := Lib.hid (show qN false AN nn = 0 by rw [hn0]; exact qN_zero _ _)
    have hn1 : ((nn : Int) == 0) = true := by rw [hn0]; rfl
    clear hn0
    have C18 := Lib.hid (dover_gen AN nn 0 21 S17.out (val_lim _) HE2.out HE1.out (by omega) HN.out)
    go_wp2_with fail
    refine C18.out.mono ?_
    rintro e w18 ⟨p18, n18, c18, rfl, o18, x18, l18⟩
    have S18 := Lib.hid o18.sl
    clear o18
    have D21 := Lib.hid x18
    have EX21 := Lib.hid (EX20.out.trans x18)
    clear x18
    clear C18
    obtain ⟨V19, hV⟩ : ∃ V, w18.alloc (.cells #[.slice p18 n18 c18] 25) = V := ⟨_, rfl⟩
    have R19 := Lib.hid (show V19.heap[w18.heap.size]? = some (.cells #[.slice p18 n18 c18] 25 (0, 0)) by rw [← hV]; exact heap_alloc_new w18 _)
    have x19 : Ext w18 V19 := by rw [← hV]; exact (Ext.refl _).alloc _
    have HV19 := Lib.hid hV
    clear hV
    have D22 := Lib.hid x19
    have EX22 := Lib.hid (EX21.out.trans x19)
    clear x19
    go_wp2_with (rw [HV19.out])
    go_ret
    exact ⟨by first | rfl | (rw [hn1]; rfl), EX22.out⟩
  have hn1 : ((nn : Int) == 0) = false := by rw [beq_eq_false_iff_ne]; omega
  have HE1 := Lib.hid (rdE_pos hn0); have HE2 := Lib.hid (show qN false AN nn = A by rw [qN_down hn0, ← H_AN.out]; exact Nat.mul_div_cancel _ (Nat.pos_of_ne_zero hn0)); clear hn0
  have C18 := Lib.hid (dover_gen AN nn A 0 S17.out (val_lim _) HE2.out HE1.out (by omega) HN.out)
  go_wp2_with fail
  refine C18.out.mono ?_
  rintro e w18 ⟨p18, n18, c18, rfl, o18, x18, l18⟩
  have S18 := Lib.hid o18.sl
  clear o18
  have D21 := Lib.hid x18
  have EX21 := Lib.hid (EX20.out.trans x18)
  clear x18
  clear C18
  obtain ⟨V19, hV⟩ : ∃ V, w18.alloc (.cells #[.slice p18 n18 c18] 25) = V := ⟨_, rfl⟩
  have R19 := Lib.hid (show V19.heap[w18.heap.size]? = some (.cells #[.slice p18 n18 c18] 25 (0, 0)) by rw [← hV]; exact heap_alloc_new w18 _)
  have x19 : Ext w18 V19 := by rw [← hV]; exact (Ext.refl _).alloc _
  have HV19 := Lib.hid hV
  clear hV
  have D22 := Lib.hid x19
  have EX22 := Lib.hid (EX21.out.trans x19)
  clear x19
  have jo := drow_cell R19.out
  have ja := drow_cell (rowE (Ext.trans D2.out (Ext.trans D3.out (Ext.trans D4.out (Ext.trans D5.out (Ext.trans D6.out (Ext.trans D7.out (Ext.trans D8.out (Ext.trans D9.out (Ext.trans D10.out (Ext.trans D11.out (Ext.trans D12.out (Ext.trans D13.out (Ext.trans D14.out (Ext.trans D15.out (Ext.trans D16.out (Ext.trans D17.out (Ext.trans D18.out (Ext.trans D19.out (Ext.trans D20.out (Ext.trans D21.out D22.out)))))))))))))))))))) R1.out)
  have C20 := Lib.hid (dcmp_at A A 0 (S18.out.old D22.out) (HA1.out.old (Ext.trans D1.out (Ext.trans D2.out (Ext.trans D3.out (Ext.trans D4.out (Ext.trans D5.out (Ext.trans D6.out (Ext.trans D7.out (Ext.trans D8.out (Ext.trans D9.out (Ext.trans D10.out (Ext.trans D11.out (Ext.trans D12.out (Ext.trans D13.out (Ext.trans D14.out (Ext.trans D15.out (Ext.trans D16.out (Ext.trans D17.out (Ext.trans D18.out (Ext.trans D19.out (Ext.trans D20.out (Ext.trans D21.out D22.out)))))))))))))))))))))) (val_lim _) HQ1.out (cmpN_eq rfl) (by omega) (by omega))
  go_wp2_with (rw [HV19.out])
  refine C20.out.mono ?_
  rintro e w20 ⟨rfl, x20⟩
  clear jo ja
  have D23 := Lib.hid x20
  have EX23 := Lib.hid (EX22.out.trans x20)
  clear x20
  clear C20
  go_wp2_with fail
  go_ret
  exact ⟨rfl, EX23.out⟩

end Go.Proofs.YtdafjajleglccaaGreatDoor
