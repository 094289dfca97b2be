/- gleanlaw2.DecSteps: the walk. -/
import Derived.Test.YthnbbbkaofakaaaGreatDoorKnown2
import Derived.Test.YthnbbbkaofakaaaGreatDoorHelp2
namespace Go.Proofs.YthnbbbkaofakaaaGreatDoor
open Go.RowKit Go.Lib

theorem cmpN_le_zero {x y : Nat} (h : x ≤ y) : ¬ (0 : Int) < cmpN x y := by
  rcases Nat.lt_or_eq_of_le h with h | h
  · rw [cmpN_lt h]; decide
  · rw [cmpN_eq h]; decide
theorem packX {W w8 : World} {B C : Nat} {v u : Value} {T : TypeId} {o : Option Addr} {n c : Nat} {xs : List Nat} (R9 : w8.heap[B]? = some (.cells #[v] T (0, 0))) (E : Ext W w8) (hB : W.heap.size ≤ B) (hown : Own C w8 o n c xs) (hBC : B < C) :
    ∃ wF BB, BB = B ∧ wF = w8.setCell ⟨B, 0, none⟩ u ∧ Ext W wF ∧ wF.heap[BB]? = some (.cells #[u] T (0, 0)) ∧ Own C wF o n c xs :=
  ⟨_, _, rfl, rfl, box_store u E hB, heap_setCell_same w8 B 0 _ T u R9, hown.box u hBC⟩
theorem packAX {W w8 : World} {C : Nat} {u : Value} {T : TypeId} {o : Option Addr} {n c : Nat} {xs : List Nat} (E : Ext W w8) (hown : Own C w8 o n c xs) :
    ∃ wF BB, BB = w8.heap.size ∧ wF = w8.alloc (.cells #[u] T (0, 0)) ∧ Ext W wF ∧ wF.heap[BB]? = some (.cells #[u] T (0, 0)) ∧ Own C wF o n c xs :=
  ⟨_, _, rfl, rfl, E.alloc _, heap_alloc_new w8 _, hown.old ((Ext.refl _).alloc _)⟩
set_option maxHeartbeats 1000000 in
set_option maxRecDepth 100000 in
theorem bit_calls (w : World) : Calls Tryz.prog 12 #[] w (NewD w 1 (lim 1)) := by
  go_enter Tryz.func12, Tryz.ntmps12
  go_wp2_with fail
  refine (of_calls 1 (by decide) _).mono ?_
  rintro e w2 ⟨o2, no2, co2, rfl, hown2, hext2, hno2⟩
  have k1 := box_cell hext2
  have k2 := box_free hext2
  go_wp2_with fail
  try simp only [Exit.inBlock, Exit.then]
  refine bodyPost_ret (results_box1 rfl _ _ _ _ rfl (load_dec (box_row hext2 _))) rfl ?_
  exact ⟨o2, no2, co2, rfl, (hown2.box _ (by rw [alloc_size]; omega)).mono (by rw [alloc_size]; omega), box_store _ (((Ext.refl _).alloc _).trans hext2) (Nat.le_refl _), by omega⟩

set_option maxHeartbeats 16000000 in
set_option maxRecDepth 100000 in
theorem steps_law {a1 a2 a3 : Option Addr} {m1 c1 m2 c2 m3 c3 : Nat} {xs1 xs2 xs3 : List Nat} {w : World} (ha1 : Sl w a1 m1 c1 xs1) (ha2 : Sl w a2 m2 c2 xs2) (ha3 : Sl w a3 m3 c3 xs3) (htab : Tab w) (hM : MaxL w) :
    Calls Tryz.prog 3 #[DecV a1 m1 c1, DecV a2 m2 c2, DecV a3 m3 c3] w (RetE (.bool true) w) := by
  obtain ⟨A, hv1⟩ : ∃ X, val xs1 = X := ⟨_, rfl⟩
  obtain ⟨B, hv2⟩ : ∃ X, val xs2 = X := ⟨_, rfl⟩
  obtain ⟨C, hv3⟩ : ∃ X, val xs3 = X := ⟨_, rfl⟩
  have HQ1 := Lib.hid hv1; have HQ2 := Lib.hid hv2; have HQ3 := Lib.hid hv3
  have HA1 := Lib.hid ha1; have HA2 := Lib.hid ha2; have HA3 := Lib.hid ha3
  have HT := Lib.hid htab; have HM := Lib.hid hM
  clear hv1 hv2 hv3 ha1 ha2 ha3 htab hM
  obtain ⟨V1, hV⟩ : ∃ V, w.alloc (.cells #[.slice a1 m1 c1] 25) = V := ⟨_, rfl⟩
  have R1 := Lib.hid (show V1.heap[w.heap.size]? = some (.cells #[.slice a1 m1 c1] 25 (0, 0)) by rw [← hV]; exact heap_alloc_new w _)
  have x1 : Ext w V1 := by rw [← hV]; exact (Ext.refl _).alloc _
  have HV1 := Lib.hid hV
  clear hV
  have D1 := Lib.hid x1
  have EX1 := Lib.hid x1
  clear x1
  obtain ⟨V2, hV⟩ : ∃ V, V1.alloc (.cells #[.slice a2 m2 c2] 25) = V := ⟨_, rfl⟩
  have R2 := Lib.hid (show V2.heap[V1.heap.size]? = some (.cells #[.slice a2 m2 c2] 25 (0, 0)) by rw [← hV]; exact heap_alloc_new V1 _)
  have x2 : Ext V1 V2 := by rw [← hV]; exact (Ext.refl _).alloc _
  have HV2 := Lib.hid hV
  clear hV
  have D2 := Lib.hid x2
  have EX2 := Lib.hid (EX1.out.trans x2)
  clear x2
  obtain ⟨V3, hV⟩ : ∃ V, V2.alloc (.cells #[.slice a3 m3 c3] 25) = V := ⟨_, rfl⟩
  have R3 := Lib.hid (show V3.heap[V2.heap.size]? = some (.cells #[.slice a3 m3 c3] 25 (0, 0)) by rw [← hV]; exact heap_alloc_new V2 _)
  have x3 : Ext V2 V3 := by rw [← hV]; exact (Ext.refl _).alloc _
  have HV3 := Lib.hid hV
  clear hV
  have D3 := Lib.hid x3
  have EX3 := Lib.hid (EX2.out.trans x3)
  clear x3
  go_enter Tryz.func3, Tryz.ntmps3
  have C4 := Lib.hid (known2_calls V3 (HT.out.old EX3.out) (HM.out.old EX3.out))
  go_wp2_with (first | rw [HV1.out] | rw [HV2.out] | rw [HV3.out])
  refine C4.out.mono ?_
  rintro e w4 ⟨rfl, x4⟩
  have D4 := Lib.hid x4
  have EX4 := Lib.hid (EX3.out.trans x4)
  clear x4
  clear C4
  obtain ⟨Z, hZ⟩ : ∃ Z, w4.alloc (.cells #[.slice a1 m1 c1, .slice a2 m2 c2, .slice a3 m3 c3] 25) = Z := ⟨_, rfl⟩
  have hxz : Ext w4 Z := by rw [← hZ]; exact (Ext.refl _).alloc _
  by_cases h60 : m1 ≤ 40 ∧ m2 ≤ 40 ∧ m3 ≤ 40
  rotate_left
  · have HSM := Lib.hid (sd_no3 w4 (a1 := a1) (m1 := m1) (c1 := c1) (a2 := a2) (m2 := m2) (c2 := c2) (a3 := a3) (m3 := m3) (c3 := c3) h60)
    rw [hZ] at HSM
    have HZ := Lib.hid hZ; have HEZ := Lib.hid (EX4.out.trans hxz)
    clear hZ hxz
    have ja := drow_cell (rowE (Ext.trans D2.out (Ext.trans D3.out D4.out)) R1.out)
    have jb := drow_cell (rowE (Ext.trans D3.out D4.out) R2.out)
    have jc := drow_cell (rowE D4.out R3.out)
    go_wp2_with (rw [HZ.out])
    refine HSM.out.mono ?_
    rintro e w' ⟨rfl, rfl⟩
    go_wp2_with fail
    go_ret
    exact ⟨rfl, HEZ.out⟩
  have HSM := Lib.hid (sd_yes3 w4 (a1 := a1) (m1 := m1) (c1 := c1) (a2 := a2) (m2 := m2) (c2 := c2) (a3 := a3) (m3 := m3) (c3 := c3) h60)
  rw [hZ] at HSM
  have HZ := Lib.hid hZ
  obtain ⟨q1, q2, q3⟩ := h60
  clear hZ
  have ja := drow_cell (rowE (Ext.trans D2.out (Ext.trans D3.out D4.out)) R1.out)
  have jb := drow_cell (rowE (Ext.trans D3.out D4.out) R2.out)
  have jc := drow_cell (rowE D4.out R3.out)
  have D5 := Lib.hid hxz
  have EX5 := Lib.hid (EX4.out.trans hxz)
  clear hxz
  have jc2 := drow_cell (rowE (Ext.trans D4.out D5.out) R3.out)
  go_wp2_with (rw [HZ.out])
  refine HSM.out.mono ?_
  rintro e w' ⟨rfl, rfl⟩
  clear HSM ja jb jc jc2
  have jc := drow_cell (rowE (Ext.trans D4.out D5.out) R3.out)
  by_cases hC : C = 0
  · have HCZ := Lib.hid (dzero_at C true (HA3.out.old (Ext.trans D1.out (Ext.trans D2.out (Ext.trans D3.out (Ext.trans D4.out D5.out))))) HQ3.out (decide_eq_true hC) (by omega))
    go_wp2_with fail
    refine HCZ.out.mono ?_
    rintro e wz ⟨rfl, hxz⟩
    have HEZ := Lib.hid (EX5.out.trans hxz)
    go_wp2_with fail
    go_ret
    exact ⟨rfl, HEZ.out⟩
  have HC := Lib.hid hC
  have C5 := Lib.hid (dzero_at C false (HA3.out.old (Ext.trans D1.out (Ext.trans D2.out (Ext.trans D3.out (Ext.trans D4.out D5.out))))) HQ3.out (decide_eq_false hC) (by omega))
  go_wp2_with fail
  refine C5.out.mono ?_
  rintro e w5 ⟨rfl, x5⟩
  clear jc
  have D6 := Lib.hid x5
  have EX6 := Lib.hid (EX5.out.trans x5)
  clear x5
  clear C5
  clear hC
  obtain ⟨once, h_once⟩ : ∃ x, A * B / C = x := ⟨_, rfl⟩
  have H_once := Lib.hid h_once
  clear h_once
  obtain ⟨q, h_q⟩ : ∃ x, A * U36 / C = x := ⟨_, rfl⟩
  have H_q := Lib.hid h_q
  clear h_q
  obtain ⟨twice, h_twice⟩ : ∃ x, A * U36 / C * B / U36 = x := ⟨_, rfl⟩
  have H_twice := Lib.hid h_twice
  clear h_twice
  obtain ⟨room, h_room⟩ : ∃ x, 1 * B / U36 + 2 = x := ⟨_, rfl⟩
  have H_room := Lib.hid h_room
  clear h_room
  have HLO := Lib.hid (show twice ≤ once by rw [← H_twice.out, ← H_once.out]; exact steps_low A B (Nat.pos_of_ne_zero HC.out) (Nat.pos_of_ne_zero U36_ne))
  have HHI := Lib.hid (show once ≤ twice + room by rw [← H_twice.out, ← H_once.out, ← H_room.out, Nat.one_mul]; exact steps_high A B (Nat.pos_of_ne_zero HC.out) (Nat.pos_of_ne_zero U36_ne))
  have ja := drow_cell (rowE (Ext.trans D2.out (Ext.trans D3.out (Ext.trans D4.out (Ext.trans D5.out D6.out)))) R1.out)
  have jb := drow_cell (rowE (Ext.trans D3.out (Ext.trans D4.out (Ext.trans D5.out D6.out))) R2.out)
  have jc := drow_cell (rowE (Ext.trans D4.out (Ext.trans D5.out D6.out)) R3.out)
  have C6 := Lib.hid (dmuldiv_at A B C once (HA1.out.old (Ext.trans D1.out (Ext.trans D2.out (Ext.trans D3.out (Ext.trans D4.out (Ext.trans D5.out D6.out)))))) (HA2.out.old (Ext.trans D1.out (Ext.trans D2.out (Ext.trans D3.out (Ext.trans D4.out (Ext.trans D5.out D6.out)))))) (HA3.out.old (Ext.trans D1.out (Ext.trans D2.out (Ext.trans D3.out (Ext.trans D4.out (Ext.trans D5.out D6.out)))))) HQ1.out HQ2.out HQ3.out HC.out H_once.out (by omega) (by omega) (by omega))
  go_wp2_with fail
  refine C6.out.mono ?_
  rintro e w6 ⟨p6, n6, c6, rfl, o6, x6, l6⟩
  clear ja jb jc
  have S6 := Lib.hid o6.sl
  clear o6
  have D7 := Lib.hid x6
  have EX7 := Lib.hid (EX6.out.trans x6)
  clear x6
  clear C6
  obtain ⟨V7, hV⟩ : ∃ V, w6.alloc (.cells #[.slice p6 n6 c6] 25) = V := ⟨_, rfl⟩
  have R7 := Lib.hid (show V7.heap[w6.heap.size]? = some (.cells #[.slice p6 n6 c6] 25 (0, 0)) by rw [← hV]; exact heap_alloc_new w6 _)
  have x7 : Ext w6 V7 := by rw [← hV]; exact (Ext.refl _).alloc _
  have HV7 := Lib.hid hV
  clear hV
  have D8 := Lib.hid x7
  have EX8 := Lib.hid (EX7.out.trans x7)
  clear x7
  have ja := drow_cell (rowE (Ext.trans D2.out (Ext.trans D3.out (Ext.trans D4.out (Ext.trans D5.out (Ext.trans D6.out (Ext.trans D7.out D8.out)))))) R1.out)
  have jc := drow_cell (rowE (Ext.trans D4.out (Ext.trans D5.out (Ext.trans D6.out (Ext.trans D7.out D8.out)))) R3.out)
  have C8 := Lib.hid (dquo_at A C q (HA1.out.old (Ext.trans D1.out (Ext.trans D2.out (Ext.trans D3.out (Ext.trans D4.out (Ext.trans D5.out (Ext.trans D6.out (Ext.trans D7.out D8.out)))))))) (HA3.out.old (Ext.trans D1.out (Ext.trans D2.out (Ext.trans D3.out (Ext.trans D4.out (Ext.trans D5.out (Ext.trans D6.out (Ext.trans D7.out D8.out)))))))) HQ1.out HQ3.out HC.out H_q.out (by omega) (by omega))
  go_wp2_with (rw [HV7.out])
  refine C8.out.mono ?_
  rintro e w8 ⟨p8, n8, c8, rfl, o8, x8, l8⟩
  clear ja jc
  have S8 := Lib.hid o8.sl
  clear o8
  have D9 := Lib.hid x8
  have EX9 := Lib.hid (EX8.out.trans x8)
  clear x8
  clear C8
  obtain ⟨V9, hV⟩ : ∃ V, w8.alloc (.cells #[.slice p8 n8 c8] 25) = V := ⟨_, rfl⟩
  have R9 := Lib.hid (show V9.heap[w8.heap.size]? = some (.cells #[.slice p8 n8 c8] 25 (0, 0)) by rw [← hV]; exact heap_alloc_new w8 _)
  have x9 : Ext w8 V9 := by rw [← hV]; exact (Ext.refl _).alloc _
  have HV9 := Lib.hid hV
  clear hV
  have D10 := Lib.hid x9
  have EX10 := Lib.hid (EX9.out.trans x9)
  clear x9
  have jq := drow_cell R9.out
  have jb := drow_cell (rowE (Ext.trans D3.out (Ext.trans D4.out (Ext.trans D5.out (Ext.trans D6.out (Ext.trans D7.out (Ext.trans D8.out (Ext.trans D9.out D10.out))))))) R2.out)
  have C10 := Lib.hid (dmul_at q B twice (S8.out.old D10.out) (HA2.out.old (Ext.trans D1.out (Ext.trans D2.out (Ext.trans D3.out (Ext.trans D4.out (Ext.trans D5.out (Ext.trans D6.out (Ext.trans D7.out (Ext.trans D8.out (Ext.trans D9.out D10.out)))))))))) (val_lim _) HQ2.out (by rw [← H_q.out]; exact H_twice.out) (by omega) (by omega))
  go_wp2_with (rw [HV9.out])
  refine C10.out.mono ?_
  rintro e w10 ⟨p10, n10, c10, rfl, o10, x10, l10⟩
  clear jq jb
  have S10 := Lib.hid o10.sl
  clear o10
  have D11 := Lib.hid x10
  have EX11 := Lib.hid (EX10.out.trans x10)
  clear x10
  clear C10
  obtain ⟨V11, hV⟩ : ∃ V, w10.alloc (.cells #[.slice p10 n10 c10] 25) = V := ⟨_, rfl⟩
  have R11 := Lib.hid (show V11.heap[w10.heap.size]? = some (.cells #[.slice p10 n10 c10] 25 (0, 0)) by rw [← hV]; exact heap_alloc_new w10 _)
  have x11 : Ext w10 V11 := by rw [← hV]; exact (Ext.refl _).alloc _
  have HV11 := Lib.hid hV
  clear hV
  have D12 := Lib.hid x11
  have EX12 := Lib.hid (EX11.out.trans x11)
  clear x11
  obtain ⟨g1, hg1, hg2⟩ : ∃ g : Int, cmpN twice once = g ∧ decide ((0 : Int) < g) = false := ⟨_, rfl, by rw [decide_eq_false_iff_not]; exact cmpN_le_zero HLO.out⟩
  have HG1 := Lib.hid hg1; clear hg1
  have jtwice := drow_cell R11.out
  have jonce := drow_cell (rowE (Ext.trans D9.out (Ext.trans D10.out (Ext.trans D11.out D12.out))) R7.out)
  have C12 := Lib.hid (dcmp_at twice once g1 (S10.out.old D12.out) (S6.out.old (Ext.trans D8.out (Ext.trans D9.out (Ext.trans D10.out (Ext.trans D11.out D12.out))))) (val_lim _) (val_lim _) HG1.out (by omega) (by omega))
  go_wp2_with (rw [HV11.out])
  refine C12.out.mono ?_
  rintro e w12 ⟨rfl, x12⟩
  clear jtwice jonce
  have D13 := Lib.hid x12
  have EX13 := Lib.hid (EX12.out.trans x12)
  clear x12
  clear C12
  have HBC := Lib.hid (fun w' (h : Ext w12 w') => drow_cell (rowE (Ext.trans (Ext.trans D3.out (Ext.trans D4.out (Ext.trans D5.out (Ext.trans D6.out (Ext.trans D7.out (Ext.trans D8.out (Ext.trans D9.out (Ext.trans D10.out (Ext.trans D11.out (Ext.trans D12.out D13.out)))))))))) h) R2.out))
  have HBS := Lib.hid (fun w' (h : Ext w12 w') => HA2.out.old (EX13.out.trans h))
  have HLT := Lib.hid (show V1.heap.size < w12.heap.size by have h9 := row_lt (rowE (Ext.trans D3.out (Ext.trans D4.out (Ext.trans D5.out (Ext.trans D6.out (Ext.trans D7.out (Ext.trans D8.out (Ext.trans D9.out (Ext.trans D10.out (Ext.trans D11.out (Ext.trans D12.out D13.out)))))))))) R2.out); exact h9)
  have HB5 := Lib.hid (fun w' (h : Ext w12 w') B' (hB : w12.heap.size ≤ B') u => (show (w'.setCell ⟨B', 0, none⟩ u).cell? ⟨V1.heap.size, 0, none⟩ = some (.slice a2 m2 c2) by have z9 := HLT.out; rw [World.cell?_setCell_other _ _ _ _ (by intro e; injection e with e1; omega)]; exact HBC.out w' h))
  go_wp2_with fail
  go_region_held3 (fun w' => w'.cell? ⟨V1.heap.size, 0, none⟩ = some (.slice a2 m2 c2))
    (first | exact HBC.out _ (Ext.refl _).drew | exact HBC.out _ ((Ext.refl _).drew.alloc _) | exact HBC.out _ (by assumption) | exact HBC.out _ (Ext.alloc (by assumption) _) | exact HB5.out _ (by assumption) _ (Nat.le_refl _) _ | exact HB5.out _ (by assumption) _ (Ext.size (by assumption)) _ | exact HB5.out _ (Ext.alloc (by assumption) _) _ (Ext.size (by assumption)) _)
    (first
      | (go_at_call 12; refine (bit_calls _).mono ?_; rintro e y5 ⟨bo5, bn5, bk5, rfl, hown5, hext5, hno5⟩; have E5 : Ext w12 y5 := (by first | exact (Ext.refl _).drew.trans hext5 | exact ((Ext.refl _).drew.alloc _).trans hext5 | exact ((Ext.refl _).alloc _).drew.trans hext5); (first | (have R8 := row_new hext5; (try simp only [drew_size] at R8); have RF9 := Lib.hid R8; clear R8) | (have R8 := row_new (((Ext.refl _).drew).trans hext5); (try simp only [drew_size] at R8); have RF9 := Lib.hid R8; clear R8) | skip))
      | (go_at_call 9; refine (dmul_calls (hown5.sl.old (by first | exact Ext.refl _ | exact (Ext.refl _).alloc _)) (HBS.out _ (by first | exact E5 | exact E5.alloc _)) (by omega) (by omega)).mono ?_; rintro e y6 ⟨bo6, bn6, bk6, rfl, hown6, hext6, hno6⟩; have E6 : Ext w12 y6 := (by first | exact E5.trans hext6 | exact (E5.alloc _).trans hext6); (first | have RF9 := Lib.hid (row_ext hext6 RF9.out) | have RF9 := Lib.hid (row_new hext6) | skip))
      | (go_at_call 13; refine (of_calls 2 (by decide) _).mono ?_; rintro e y7 ⟨bo7, bn7, bk7, rfl, hown7, hext7, hno7⟩; have E7 : Ext w12 y7 := (by first | exact E6.trans hext7 | exact (E6.alloc _).trans hext7); (first | have HO6 := Lib.hid (hown6.sl.old hext7) | have HO6 := Lib.hid (hown6.sl.old (((Ext.refl _).alloc _).trans hext7))); (first | have RF9 := Lib.hid (row_ext hext7 RF9.out) | have RF9 := Lib.hid (row_new hext7) | skip))
      | (go_at_call 11; refine (dadd_calls (HO6.out.old (by first | exact Ext.refl _ | exact (Ext.refl _).alloc _)) (hown7.sl.old (by first | exact Ext.refl _ | exact (Ext.refl _).alloc _)) (by omega) (by omega)).mono ?_; rintro e y8 ⟨bo8, bn8, bk8, rfl, hown8, hext8, hno8⟩; have E8 : Ext w12 y8 := (by first | exact E7.trans hext8 | exact (E7.alloc _).trans hext8); (first | have HLT9 := Lib.hid (row_lt RF9.out) | skip); (first | have RF9 := Lib.hid (row_ext hext8 RF9.out) | have RF9 := Lib.hid (row_new hext8) | skip); (first | have k1 := row_cell RF9.out | skip); (first | have k2 := row_free RF9.out | skip)))
  all_goals (
    rw [val_lim, val_lim, val_lim, HQ2.out, H_room.out] at hown8
    first
      | have PK := packX (u := .slice bo8 bn8 bk8) RF9.out E8 (Nat.le_refl _) hown8 HLT9.out
      | have PK := packX (u := .slice bo8 bn8 bk8) RF9.out E8 (Ext.size (by assumption)) hown8 HLT9.out
      | have PK := packX (u := .slice bo8 bn8 bk8) RF9.out E8 (Ext.size (by assumption)) hown8 (by rw [alloc_size]; omega)
      | have PK := packAX (u := .slice bo8 bn8 bk8) (T := 25) E8 hown8
    obtain ⟨wF, BB, hBB, hwF, EF, RF, SF⟩ := PK
    rw [← hwF, ← hBB]
    have HRF := Lib.hid RF; have HEF := Lib.hid EF; have HSF := Lib.hid SF.sl
    try clear k1 k2
    clear hBB hwF EF RF SF hown8 hext8 E8 E7 E6 E5 hown7 hown6 hown5 hext7 hext6 hext5
    have HS := Lib.hid (fun w' (h : Ext wF w') => (⟨drow_cell (rowE (Ext.trans (Ext.trans D9.out (Ext.trans D10.out (Ext.trans D11.out (Ext.trans D12.out D13.out)))) (HEF.out.trans h)) R7.out), drow_cell (rowE (Ext.trans D13.out (HEF.out.trans h)) R11.out), drow_cell (rowE h HRF.out)⟩ : w'.cell? ⟨w6.heap.size, 0, none⟩ = some (.slice p6 n6 c6) ∧ w'.cell? ⟨w10.heap.size, 0, none⟩ = some (.slice p10 n10 c10) ∧ w'.cell? ⟨BB, 0, none⟩ = some (.slice bo8 bn8 bk8)))
    have HO1 := Lib.hid (S6.out.old ((Ext.trans D8.out (Ext.trans D9.out (Ext.trans D10.out (Ext.trans D11.out (Ext.trans D12.out D13.out))))).trans HEF.out)); have HO2 := Lib.hid (S10.out.old ((Ext.trans D12.out D13.out).trans HEF.out))
    obtain ⟨g2, hg3, hg4⟩ : ∃ g : Int, cmpN once (twice + room) = g ∧ decide (g ≤ 0) = true := ⟨_, rfl, by rw [decide_eq_true_iff]; have := cmpN_le_zero HHI.out; omega⟩
    have HG2 := Lib.hid hg3; clear hg3
    go_wp2_with fail
    go_region_held3 (fun w' => w'.cell? ⟨w6.heap.size, 0, none⟩ = some (.slice p6 n6 c6) ∧ w'.cell? ⟨w10.heap.size, 0, none⟩ = some (.slice p10 n10 c10) ∧ w'.cell? ⟨BB, 0, none⟩ = some (.slice bo8 bn8 bk8))
      (first | exact HS.out _ (Ext.refl _).drew | exact HS.out _ (by assumption))
      (first
        | (go_at_call 11; refine (dadd_at twice room _ (HO2.out.old (Ext.refl _).drew) (HSF.out.old (Ext.refl _).drew) (val_lim _) (val_lim _) rfl (by omega) (by omega)).mono ?_; rintro e z1 ⟨s1, t1, u1, rfl, hz1, hy1, hl1⟩; have G1 : Ext wF z1 := (Ext.refl wF).drew.trans hy1)
        | (go_at_call 10; refine (dcmp_at once (twice + room) g2 (HO1.out.old G1) hz1.sl (val_lim _) (val_lim _) HG2.out (by omega) (by omega)).mono ?_; rintro e z2 ⟨rfl, hy2⟩; have G2 : Ext wF z2 := G1.trans hy2))
    have HG := Lib.hid G2
    go_wp2_with fail
    go_ret
    exact ⟨by first | rfl | (rw [hg4]; rfl), EX13.out.trans (HEF.out.trans HG.out)⟩)

end Go.Proofs.YthnbbbkaofakaaaGreatDoor
