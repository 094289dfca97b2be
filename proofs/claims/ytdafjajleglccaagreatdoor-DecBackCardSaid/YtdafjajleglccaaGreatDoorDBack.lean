/- gleanlaw2.DecBack: the walk. -/
import Derived.Test.YtdafjajleglccaaGreatDoorKnown2
import Derived.Test.YtdafjajleglccaaGreatDoorHelp2
import Derived.Test.YtdafjajleglccaaGreatDoorDGen
import Derived.Deep.CutRange
namespace Go.Proofs.YtdafjajleglccaaGreatDoor
open Go.RowKit Go.Lib

theorem zero_cmp (A : Nat) : ∃ (z : Bool) (g : Int), decide (A = 0) = z ∧ cmpN A 0 = g ∧ decide (g = 0) = z := by
  refine ⟨_, _, rfl, rfl, ?_⟩
  by_cases h : A = 0
  · rw [cmpN_eq h]; simp [h]
  · rw [cmpN_gt (by omega)]; simp [h]

set_option maxHeartbeats 16000000 in
set_option maxRecDepth 100000 in
theorem dback_law {a1 a2 : Option Addr} {m1 c1 m2 c2 : Nat} {xs1 xs2 : List Nat} {w : World} (ha1 : Sl w a1 m1 c1 xs1) (ha2 : Sl w a2 m2 c2 xs2) (htab : Tab w) (hM : MaxL w) :
    Calls Tryz.prog 8 #[DecV a1 m1 c1, DecV a2 m2 c2] w (RetE (.bool true) w) := by
  obtain ⟨A, hv1⟩ : ∃ X, val xs1 = X := ⟨_, rfl⟩
  obtain ⟨B, hv2⟩ : ∃ X, val xs2 = X := ⟨_, rfl⟩
  have HQ1 := Lib.hid hv1; have HA1 := Lib.hid ha1
  have HQ2 := Lib.hid hv2; have HA2 := Lib.hid ha2
  have HT := Lib.hid htab; have HM := Lib.hid hM
  clear hv1 ha1 hv2 ha2 htab hM
  obtain ⟨V1, hV⟩ : ∃ V, w.alloc (.cells #[.slice a1 m1 c1] 25) = V := ⟨_, rfl⟩
  have R1 := Lib.hid (show V1.heap[w.heap.size]? = some (.cells #[.slice a1 m1 c1] 25 (0, 0)) by rw [← hV]; exact heap_alloc_new w _)
  have x1 : Ext w V1 := by rw [← hV]; exact (Ext.refl _).alloc _
  have HV1 := Lib.hid hV
  clear hV
  have D1 := Lib.hid x1
  have EX1 := Lib.hid x1
  clear x1
  obtain ⟨V2, hV⟩ : ∃ V, V1.alloc (.cells #[.slice a2 m2 c2] 25) = V := ⟨_, rfl⟩
  have R2 := Lib.hid (show V2.heap[V1.heap.size]? = some (.cells #[.slice a2 m2 c2] 25 (0, 0)) by rw [← hV]; exact heap_alloc_new V1 _)
  have x2 : Ext V1 V2 := by rw [← hV]; exact (Ext.refl _).alloc _
  have HV2 := Lib.hid hV
  clear hV
  have D2 := Lib.hid x2
  have EX2 := Lib.hid (EX1.out.trans x2)
  clear x2
  go_enter Tryz.func8, Tryz.ntmps8
  have C3 := Lib.hid (known2_calls V2 (HT.out.old EX2.out) (HM.out.old EX2.out))
  go_wp2_with (first | rw [HV1.out] | rw [HV2.out])
  refine C3.out.mono ?_
  rintro e w3 ⟨rfl, x3⟩
  have D3 := Lib.hid x3
  have EX3 := Lib.hid (EX2.out.trans x3)
  clear x3
  clear C3
  obtain ⟨Z, hZ⟩ : ∃ Z, w3.alloc (.cells #[.slice a1 m1 c1, .slice a2 m2 c2] 25) = Z := ⟨_, rfl⟩
  have hxz : Ext w3 Z := by rw [← hZ]; exact (Ext.refl _).alloc _
  by_cases h60 : m1 ≤ 40 ∧ m2 ≤ 40
  rotate_left
  · have HSM := Lib.hid (sd_no2 w3 (a1 := a1) (m1 := m1) (c1 := c1) (a2 := a2) (m2 := m2) (c2 := c2) h60)
    rw [hZ] at HSM
    have HZ := Lib.hid hZ; have HEZ := Lib.hid (EX3.out.trans hxz)
    clear hZ hxz
    have ja := drow_cell (rowE (Ext.trans D2.out D3.out) R1.out)
    have jb := drow_cell (rowE D3.out R2.out)
    go_wp2_with (rw [HZ.out])
    refine HSM.out.mono ?_
    rintro e w' ⟨rfl, rfl⟩
    go_wp2_with fail
    go_ret
    exact ⟨rfl, HEZ.out⟩
  have HSM := Lib.hid (sd_yes2 w3 (a1 := a1) (m1 := m1) (c1 := c1) (a2 := a2) (m2 := m2) (c2 := c2) h60)
  rw [hZ] at HSM
  have HZ := Lib.hid hZ
  obtain ⟨q1, q2⟩ := h60
  clear hZ
  have ja := drow_cell (rowE (Ext.trans D2.out D3.out) R1.out)
  have jb := drow_cell (rowE D3.out R2.out)
  have D4 := Lib.hid hxz
  have EX4 := Lib.hid (EX3.out.trans hxz)
  clear hxz
  go_wp2_with (rw [HZ.out])
  refine HSM.out.mono ?_
  rintro e w' ⟨rfl, rfl⟩
  clear HSM ja jb
  obtain ⟨N0, h_N0⟩ : ∃ x, A / U36 = x := ⟨_, rfl⟩
  have H_N0 := Lib.hid h_N0
  clear h_N0
  obtain ⟨R0, h_R0⟩ : ∃ x, A % U36 = x := ⟨_, rfl⟩
  have H_R0 := Lib.hid h_R0
  clear h_R0
  obtain ⟨NU, h_NU⟩ : ∃ x, A / U36 * U36 = x := ⟨_, rfl⟩
  have H_NU := Lib.hid h_NU
  clear h_NU
  obtain ⟨S0, h_S0⟩ : ∃ x, A + B = x := ⟨_, rfl⟩
  have H_S0 := Lib.hid h_S0
  clear h_S0
  obtain ⟨lt, h_lt⟩ : ∃ x, decText A = x := ⟨_, rfl⟩
  have H_lt := Lib.hid h_lt
  clear h_lt
  have E1 := Lib.hid (show NU + R0 = A from by rw [← H_NU.out, ← H_R0.out]; exact whole_rest A U36)
  have E2 := Lib.hid (show N0 * U36 = NU from by rw [← H_N0.out]; exact H_NU.out)
  have E3 := Lib.hid (show S0 - B = A from by have := H_S0.out; omega)
  have E4 := Lib.hid (show B ≤ S0 from by have := H_S0.out; omega)
  have E5 := Lib.hid (show R0 < U36 from by rw [← H_R0.out]; exact Nat.mod_lt _ (Nat.pos_of_ne_zero U36_ne))
  have E6 := Lib.hid (show lt.length ≤ 1000 from by have h1 := HA1.out.trimmed_len; rw [HQ1.out] at h1; have h2 := decText_len h1; rw [H_lt.out] at h2; omega)
  have E7 := Lib.hid (show 1 * U36 = U36 from Nat.one_mul _)
  obtain ⟨z0, g0, h_z, h_g, hzg⟩ := zero_cmp A
  have H_z0 := Lib.hid h_z; have H_g0 := Lib.hid h_g; have H_zg := Lib.hid hzg; clear h_z h_g hzg
  have ja := drow_cell (rowE (Ext.trans D2.out (Ext.trans D3.out D4.out)) R1.out)
  have C4 := Lib.hid (dtrunc_at A N0 R0 (HA1.out.old (Ext.trans D1.out (Ext.trans D2.out (Ext.trans D3.out D4.out)))) HQ1.out H_N0.out H_R0.out (by omega))
  go_wp2_with fail
  refine C4.out.mono ?_
  rintro e w4 ⟨p4, c4, n4, q4, d4, m4, rfl, o4, u4, x4, l4, y4⟩
  clear ja
  have S4 := Lib.hid o4.sl; have T4 := Lib.hid u4.sl
  clear o4 u4
  have D5 := Lib.hid x4
  have EX5 := Lib.hid (EX4.out.trans x4)
  clear x4
  clear C4
  obtain ⟨V5, hV⟩ : ∃ V, w4.alloc (.cells #[.slice q4 m4 d4] 25) = V := ⟨_, rfl⟩
  have R5 := Lib.hid (show V5.heap[w4.heap.size]? = some (.cells #[.slice q4 m4 d4] 25 (0, 0)) by rw [← hV]; exact heap_alloc_new w4 _)
  have x5 : Ext w4 V5 := by rw [← hV]; exact (Ext.refl _).alloc _
  have HV5 := Lib.hid hV
  clear hV
  have D6 := Lib.hid x5
  have EX6 := Lib.hid (EX5.out.trans x5)
  clear x5
  have ja := drow_cell (rowE (Ext.trans D2.out (Ext.trans D3.out (Ext.trans D4.out (Ext.trans D5.out D6.out)))) R1.out)
  have C6 := Lib.hid (dtext_at A lt (HA1.out.old (Ext.trans D1.out (Ext.trans D2.out (Ext.trans D3.out (Ext.trans D4.out (Ext.trans D5.out D6.out)))))) HQ1.out H_lt.out (by omega) (HT.out.old EX6.out))
  go_wp2_with (rw [HV5.out])
  refine C6.out.mono ?_
  rintro e w6 ⟨rfl, x6⟩
  clear ja
  have D7 := Lib.hid x6
  have EX7 := Lib.hid (EX6.out.trans x6)
  clear x6
  clear C6
  have C7 := Lib.hid (dparse_back A lt H_lt.out E6.out (HM.out.old EX7.out))
  go_wp2_with fail
  refine C7.out.mono ?_
  rintro e w7 ⟨p7, n7, c7, rfl, o7, x7, l7⟩
  have S7 := Lib.hid o7.sl
  clear o7
  have D8 := Lib.hid x7
  have EX8 := Lib.hid (EX7.out.trans x7)
  clear x7
  clear C7
  obtain ⟨V8, hV⟩ : ∃ V, w7.alloc (.cells #[.slice p7 n7 c7] 25) = V := ⟨_, rfl⟩
  have R8 := Lib.hid (show V8.heap[w7.heap.size]? = some (.cells #[.slice p7 n7 c7] 25 (0, 0)) by rw [← hV]; exact heap_alloc_new w7 _)
  have x8 : Ext w7 V8 := by rw [← hV]; exact (Ext.refl _).alloc _
  have HV8 := Lib.hid hV
  clear hV
  have D9 := Lib.hid x8
  have EX9 := Lib.hid (EX8.out.trans x8)
  clear x8
  have HBC := Lib.hid (fun w' (h : Ext V8 w') => (show w'.cell? ⟨w.heap.size, 0, none⟩ = some (.slice a1 m1 c1) ∧ w'.cell? ⟨V1.heap.size, 0, none⟩ = some (.slice a2 m2 c2) from ⟨drow_cell (rowE (Ext.trans (Ext.trans D2.out (Ext.trans D3.out (Ext.trans D4.out (Ext.trans D5.out (Ext.trans D6.out (Ext.trans D7.out (Ext.trans D8.out D9.out))))))) h) R1.out), drow_cell (rowE (Ext.trans (Ext.trans D3.out (Ext.trans D4.out (Ext.trans D5.out (Ext.trans D6.out (Ext.trans D7.out (Ext.trans D8.out D9.out)))))) h) R2.out)⟩))
  have hlt_a : w.heap.size < V8.heap.size := row_lt (rowE (Ext.trans D2.out (Ext.trans D3.out (Ext.trans D4.out (Ext.trans D5.out (Ext.trans D6.out (Ext.trans D7.out (Ext.trans D8.out D9.out))))))) R1.out)
  have hlt_b : V1.heap.size < V8.heap.size := row_lt (rowE (Ext.trans D3.out (Ext.trans D4.out (Ext.trans D5.out (Ext.trans D6.out (Ext.trans D7.out (Ext.trans D8.out D9.out)))))) R2.out)
  have HLT_a := Lib.hid hlt_a; clear hlt_a
  have HLT_b := Lib.hid hlt_b; clear hlt_b
  have HB5 := Lib.hid (fun w' (h : Ext V8 w') B' (hB : V8.heap.size ≤ B') u => (show (w'.setCell ⟨B', 0, none⟩ u).cell? ⟨w.heap.size, 0, none⟩ = some (.slice a1 m1 c1) ∧ (w'.setCell ⟨B', 0, none⟩ u).cell? ⟨V1.heap.size, 0, none⟩ = some (.slice a2 m2 c2) from ⟨by rw [World.cell?_setCell_other _ _ _ _ (by intro e; have e1 := congrArg Addr.block e; have z9 := HLT_a.out; simp only at e1; omega)]; exact (HBC.out w' h).1, by rw [World.cell?_setCell_other _ _ _ _ (by intro e; have e1 := congrArg Addr.block e; have z9 := HLT_b.out; simp only at e1; omega)]; exact (HBC.out w' h).2⟩))
  go_upto_region 7 with (rw [HV8.out])
  go_cut [9, 10] from 29 to 36 (fun v9 v10 wx => ∃ (B9 : Nat) (o9 : Option Addr) (n9 c9 : Nat), v9 = .pointer (some ⟨B9, 0, none⟩) ∧ v10 = .int .i64 0 ∧ wx.heap[B9]? = some (.cells #[.slice o9 n9 c9] 25 (0, 0)) ∧ Sl wx o9 n9 c9 (lim A) ∧ n9 ≤ (m1 + m2 + 1) ∧ Ext V8 wx)
  case first =>
    go_wp2_with fail
    go_region_held3 (fun w' => w'.cell? ⟨w.heap.size, 0, none⟩ = some (.slice a1 m1 c1) ∧ w'.cell? ⟨V1.heap.size, 0, none⟩ = some (.slice a2 m2 c2))
      (first | exact HBC.out _ (Ext.refl _).drew | exact HBC.out _ ((Ext.refl _).drew.alloc _) | exact HBC.out _ ((Ext.refl _).alloc _).drew | exact HBC.out _ (by assumption) | exact HBC.out _ (Ext.alloc (by assumption) _) | exact HB5.out _ (by assumption) _ (Nat.le_refl _) _ | exact HB5.out _ (by assumption) _ (Ext.size (by assumption)) _ | exact HB5.out _ (Ext.alloc (by assumption) _) _ (Ext.size (by assumption)) _)
      (first
        | (go_at_call 14; refine (dadd_at A B S0 (HA1.out.old ((Ext.trans D1.out (Ext.trans D2.out (Ext.trans D3.out (Ext.trans D4.out (Ext.trans D5.out (Ext.trans D6.out (Ext.trans D7.out (Ext.trans D8.out D9.out)))))))).trans (by first | exact (Ext.refl _).drew | exact (Ext.refl _).drew.alloc _ | exact ((Ext.refl _).alloc _).drew))) (HA2.out.old ((Ext.trans D1.out (Ext.trans D2.out (Ext.trans D3.out (Ext.trans D4.out (Ext.trans D5.out (Ext.trans D6.out (Ext.trans D7.out (Ext.trans D8.out D9.out)))))))).trans (by first | exact (Ext.refl _).drew | exact (Ext.refl _).drew.alloc _ | exact ((Ext.refl _).alloc _).drew))) HQ1.out HQ2.out H_S0.out (by omega) (by omega)).mono ?_; rintro e y9_0 ⟨bo9_0, bn9_0, bk9_0, rfl, ho9_0, hx9_0, hn9_0⟩; have E9_0 : Ext V8 y9_0 := (by first | exact (Ext.refl _).drew.trans hx9_0 | exact ((Ext.refl _).drew.alloc _).trans hx9_0 | exact ((Ext.refl _).alloc _).drew.trans hx9_0); (first | (have R8 := row_new hx9_0; (try simp only [drew_size] at R8); have RF9 := Lib.hid R8; clear R8) | (have R8 := row_new (((Ext.refl _).drew).trans hx9_0); (try simp only [drew_size] at R8); have RF9 := Lib.hid R8; clear R8) | skip))
        | (go_at_call 16; refine (dsub_at S0 B A (ho9_0.sl.old (by first | exact Ext.refl _ | exact (Ext.refl _).alloc _)) (HA2.out.old ((Ext.trans D1.out (Ext.trans D2.out (Ext.trans D3.out (Ext.trans D4.out (Ext.trans D5.out (Ext.trans D6.out (Ext.trans D7.out (Ext.trans D8.out D9.out)))))))).trans (by first | exact E9_0 | exact E9_0.alloc _))) (val_lim _) HQ2.out E4.out E3.out (by omega) (by omega)).mono ?_; rintro e y9_1 ⟨bo9_1, bn9_1, bk9_1, rfl, ho9_1, hx9_1, hn9_1⟩; have E9_1 : Ext V8 y9_1 := (by first | exact E9_0.trans hx9_1 | exact (E9_0.alloc _).trans hx9_1); (first | have HO9_0 := Lib.hid (ho9_0.sl.old hx9_1) | have HO9_0 := Lib.hid (ho9_0.sl.old (((Ext.refl _).alloc _).trans hx9_1))); (first | have HLT9 := Lib.hid (row_lt RF9.out) | skip); (first | have RF9 := Lib.hid (row_ext hx9_1 RF9.out) | have RF9 := Lib.hid (row_new hx9_1) | skip); (first | have k1 := row_cell RF9.out | skip); (first | have k2 := row_free RF9.out | skip)))
    all_goals (
      first
        | have PK := packX (u := .slice bo9_1 bn9_1 bk9_1) RF9.out E9_1 (Nat.le_refl _) ho9_1 HLT9.out
        | have PK := packX (u := .slice bo9_1 bn9_1 bk9_1) RF9.out E9_1 (Ext.size (by assumption)) ho9_1 HLT9.out
        | have PK := packX (u := .slice bo9_1 bn9_1 bk9_1) RF9.out E9_1 (Ext.size (by assumption)) ho9_1 (by rw [alloc_size]; omega)
        | have PK := packAX (u := .slice bo9_1 bn9_1 bk9_1) (T := 25) E9_1 ho9_1
      obtain ⟨wF, BB, hBB, hwF, EF, RF, SF⟩ := PK
      rw [← hwF, ← hBB]
      have HREL := Lib.hid (And.intro RF (And.intro SF.sl EF))
      have HNN := Lib.hid hn9_1
      try clear k1 k2
      clear hBB hwF EF RF SF ho9_1 hx9_1 E9_1 ho9_0 hx9_0 E9_0
      go_wp2_with fail
      go_meet
      exact ⟨BB, bo9_1, bn9_1, bk9_1, rfl, rfl, HREL.out.1, HREL.out.2.1, by have := HNN.out; omega, HREL.out.2.2⟩)
  obtain ⟨BB, o9, n9, c9, rfl, rfl, RF, SF, LF, xF⟩ := hcut
  have HRF := Lib.hid RF; have HSF := Lib.hid SF; clear RF SF
  have D10 := Lib.hid xF
  have EX10 := Lib.hid (EX9.out.trans xF)
  clear xF
  have H10 : Hid (∀ w', Ext wc w' → w'.cell? ⟨w4.heap.size, 0, none⟩ = some (.slice q4 m4 d4) ∧ w'.cell? ⟨w.heap.size, 0, none⟩ = some (.slice a1 m1 c1) ∧ w'.cell? ⟨w7.heap.size, 0, none⟩ = some (.slice p7 n7 c7) ∧ w'.cell? ⟨BB, 0, none⟩ = some (.slice o9 n9 c9)) := Lib.hid (fun w' h => ⟨drow_cell (rowE (Ext.trans (Ext.trans D7.out (Ext.trans D8.out (Ext.trans D9.out D10.out))) h) R5.out), drow_cell (rowE (Ext.trans (Ext.trans D2.out (Ext.trans D3.out (Ext.trans D4.out (Ext.trans D5.out (Ext.trans D6.out (Ext.trans D7.out (Ext.trans D8.out (Ext.trans D9.out D10.out)))))))) h) R1.out), drow_cell (rowE (Ext.trans D10.out h) R8.out), drow_cell (rowE h HRF.out)⟩)
  go_wp2_with fail
  go_region_held3 (fun w' => w'.cell? ⟨w4.heap.size, 0, none⟩ = some (.slice q4 m4 d4) ∧ w'.cell? ⟨w.heap.size, 0, none⟩ = some (.slice a1 m1 c1) ∧ w'.cell? ⟨w7.heap.size, 0, none⟩ = some (.slice p7 n7 c7) ∧ w'.cell? ⟨BB, 0, none⟩ = some (.slice o9 n9 c9))
    (first | exact H10.out _ (Ext.refl _) | exact H10.out _ (Ext.refl _).drew | exact H10.out _ (by assumption))
    (first
      | (go_at_call 25; refine (dofnat_at N0 NU (S4.out.old ((Ext.trans D6.out (Ext.trans D7.out (Ext.trans D8.out (Ext.trans D9.out D10.out)))).trans (Ext.refl wc).drew)) (val_lim _) E2.out (by omega)).mono ?_; rintro e wr10_0 ⟨pr10_0, nr10_0, cr10_0, rfl, or10_0, xr10_0, lr10_0⟩; have Er10_0 : Ext wc wr10_0 := (Ext.refl wc).drew.trans xr10_0)
      | (go_at_call 14; refine (dadd_at NU R0 A or10_0.sl (T4.out.old ((Ext.trans D6.out (Ext.trans D7.out (Ext.trans D8.out (Ext.trans D9.out D10.out)))).trans Er10_0)) (val_lim _) (val_lim _) E1.out (by omega) (by omega)).mono ?_; rintro e wr10_1 ⟨pr10_1, nr10_1, cr10_1, rfl, or10_1, xr10_1, lr10_1⟩; have Er10_1 : Ext wc wr10_1 := Er10_0.trans xr10_1)
      | (go_at_call_of 29 pr10_1; refine (dcmp_at A A 0 or10_1.sl (HA1.out.old ((Ext.trans D1.out (Ext.trans D2.out (Ext.trans D3.out (Ext.trans D4.out (Ext.trans D5.out (Ext.trans D6.out (Ext.trans D7.out (Ext.trans D8.out (Ext.trans D9.out D10.out))))))))).trans Er10_1)) (val_lim _) HQ1.out (cmpN_eq rfl) (by omega) (by omega)).mono ?_; rintro e wr10_2 ⟨rfl, xr10_2⟩; have Er10_2 : Ext wc wr10_2 := Er10_1.trans xr10_2)
      | (go_at_call 21; refine (dof_at 1 U36 (by decide) E7.out _).mono ?_; rintro e wr10_3 ⟨pr10_3, nr10_3, cr10_3, rfl, or10_3, xr10_3, lr10_3⟩; have Er10_3 : Ext wc wr10_3 := Er10_2.trans xr10_3)
      | (go_at_call_of 29 q4; refine (dcmp_at R0 U36 (-1) (T4.out.old ((Ext.trans D6.out (Ext.trans D7.out (Ext.trans D8.out (Ext.trans D9.out D10.out)))).trans Er10_3)) or10_3.sl (val_lim _) (val_lim _) (cmpN_lt E5.out) (by omega) (by omega)).mono ?_; rintro e wr10_4 ⟨rfl, xr10_4⟩; have Er10_4 : Ext wc wr10_4 := Er10_3.trans xr10_4)
      | (go_at_call 52; refine (norm_at A (HA1.out.old ((Ext.trans D1.out (Ext.trans D2.out (Ext.trans D3.out (Ext.trans D4.out (Ext.trans D5.out (Ext.trans D6.out (Ext.trans D7.out (Ext.trans D8.out (Ext.trans D9.out D10.out))))))))).trans Er10_4)) HQ1.out (by omega)).mono ?_; rintro e wr10_5 ⟨pr10_5, nr10_5, cr10_5, rfl, or10_5, xr10_5, lr10_5⟩; have Er10_5 : Ext wc wr10_5 := Er10_4.trans xr10_5)
      | (go_at_call 44; refine (hnat_at true (S7.out.old ((Ext.trans D9.out D10.out).trans Er10_5)) or10_5.sl (decide_eq_true rfl) (by omega) (by omega)).mono ?_; rintro e wr10_6 ⟨rfl, xr10_6⟩; have Er10_6 : Ext wc wr10_6 := Er10_5.trans xr10_6)
      | (go_at_call_of 29 o9; refine (dcmp_at A A 0 (HSF.out.old Er10_6) (HA1.out.old ((Ext.trans D1.out (Ext.trans D2.out (Ext.trans D3.out (Ext.trans D4.out (Ext.trans D5.out (Ext.trans D6.out (Ext.trans D7.out (Ext.trans D8.out (Ext.trans D9.out D10.out))))))))).trans Er10_6)) (val_lim _) HQ1.out (cmpN_eq rfl) (by omega) (by omega)).mono ?_; rintro e wr10_7 ⟨rfl, xr10_7⟩; have Er10_7 : Ext wc wr10_7 := Er10_6.trans xr10_7)
      | (go_at_call 27; refine (dzero_at A z0 (HA1.out.old ((Ext.trans D1.out (Ext.trans D2.out (Ext.trans D3.out (Ext.trans D4.out (Ext.trans D5.out (Ext.trans D6.out (Ext.trans D7.out (Ext.trans D8.out (Ext.trans D9.out D10.out))))))))).trans Er10_7)) HQ1.out H_z0.out (by omega)).mono ?_; rintro e wr10_8 ⟨rfl, xr10_8⟩; have Er10_8 : Ext wc wr10_8 := Er10_7.trans xr10_8)
      | (go_at_call_of 29 a1; refine (dcmp_at A 0 g0 (HA1.out.old ((Ext.trans D1.out (Ext.trans D2.out (Ext.trans D3.out (Ext.trans D4.out (Ext.trans D5.out (Ext.trans D6.out (Ext.trans D7.out (Ext.trans D8.out (Ext.trans D9.out D10.out))))))))).trans Er10_8)) (Sl.nil _) HQ1.out rfl H_g0.out (by omega) (by omega)).mono ?_; rintro e wr10_9 ⟨rfl, xr10_9⟩; have Er10_9 : Ext wc wr10_9 := Er10_8.trans xr10_9))
  have x10 := Er10_9
  clear xr10_0 or10_0 Er10_0 xr10_1 or10_1 Er10_1 xr10_2 Er10_2 xr10_3 or10_3 Er10_3 xr10_4 Er10_4 xr10_5 or10_5 Er10_5 xr10_6 Er10_6 xr10_7 Er10_7 xr10_8 Er10_8 xr10_9 Er10_9
  have D11 := Lib.hid x10
  have EX11 := Lib.hid (EX10.out.trans x10)
  clear x10
  go_wp2_with fail
  go_ret
  exact ⟨by have h9 := H_zg.out; first | rfl | (subst h9; rfl) | (subst h9; simp; rfl), EX11.out⟩

end Go.Proofs.YtdafjajleglccaaGreatDoor
