/- gleanlaw2.DecParts: the walk. -/
import Derived.Test.YtdafjajleglccaaGreatDoorKnown2
import Derived.Test.YtdafjajleglccaaGreatDoorHelp2
import Derived.Test.YtdafjajleglccaaGreatDoorDGen
namespace Go.Proofs.YtdafjajleglccaaGreatDoor
open Go.RowKit Go.Lib

def PtRel (w1 : World) (B n d : Nat) (f : Nat → Nat) (iv : Value) (wr : World) : Prop :=
  ∃ (k : Nat) (o : Option Addr) (m c : Nat), k ≤ n ∧ iv = .int .i64 (k : Int) ∧ wr.heap[B]? = some (.cells #[.slice o m c] 25 (0, 0)) ∧ Own (B + 1) wr o m c (lim (f k)) ∧ m ≤ d * k ∧ Ext w1 wr
theorem take_sum (ss : List Nat) (k : Nat) (h : k < ss.length) : (ss.take (k + 1)).sum = (ss.take k).sum + ss.getD k 0 := by
  rw [List.take_succ_eq_append_getElem h, List.sum_append, getD_of_lt h]; simp
theorem part_take (A tot : Nat) (ss : List Nat) (k : Nat) (h : k < ss.length) : partSum A tot (ss.take (k + 1)) = partSum A tot (ss.take k) + A * ss.getD k 0 / tot := by
  unfold partSum
  rw [List.take_succ_eq_append_getElem h, List.map_append, List.sum_append, getD_of_lt h]; simp

set_option maxHeartbeats 16000000 in
set_option maxRecDepth 100000 in
theorem dpts_law {a1 : Option Addr} {m1 c1 : Nat} {xs1 : List Nat} {w : World} (ha1 : Sl w a1 m1 c1 xs1) {sa : Option Addr} {sn sc : Nat} {ss : List Nat} (hss : Sl w sa sn sc ss) (htab : Tab w) (hM : MaxL w) :
    Calls Tryz.prog 9 #[DecV a1 m1 c1, .slice sa sn sc] w (RetE (.bool true) w) := by
  obtain ⟨A, hv1⟩ : ∃ X, val xs1 = X := ⟨_, rfl⟩
  have HQ1 := Lib.hid hv1; have HA1 := Lib.hid ha1
  have HT := Lib.hid htab; have HM := Lib.hid hM
  clear hv1 ha1 htab hM
  obtain ⟨i0, hi, hz0, hs, hby⟩ := info_parts info64
  have H1 := Lib.hid hi; have H3 := Lib.hid hs
  have HSS := Lib.hid hss; clear hss hi hs hz0 hby
  obtain ⟨V1, hV⟩ : ∃ V, w.alloc (.cells #[.slice a1 m1 c1] 25) = V := ⟨_, rfl⟩
  have R1 := Lib.hid (show V1.heap[w.heap.size]? = some (.cells #[.slice a1 m1 c1] 25 (0, 0)) by rw [← hV]; exact heap_alloc_new w _)
  have x1 : Ext w V1 := by rw [← hV]; exact (Ext.refl _).alloc _
  have HV1 := Lib.hid hV
  clear hV
  have D1 := Lib.hid x1
  have EX1 := Lib.hid x1
  clear x1
  go_enter Tryz.func9, Tryz.ntmps9
  have C2 := Lib.hid (known2_calls V1 (HT.out.old EX1.out) (HM.out.old EX1.out))
  go_wp2_with (rw [HV1.out])
  refine C2.out.mono ?_
  rintro e w2 ⟨rfl, x2⟩
  have D2 := Lib.hid x2
  have EX2 := Lib.hid (EX1.out.trans x2)
  clear x2
  clear C2
  obtain ⟨Z, hZ⟩ : ∃ Z, w2.alloc (.cells #[.slice a1 m1 c1] 25) = Z := ⟨_, rfl⟩
  have hxz : Ext w2 Z := by rw [← hZ]; exact (Ext.refl _).alloc _
  by_cases h60 : m1 ≤ 40
  rotate_left
  · have HSM := Lib.hid (sd_no1 w2 (a1 := a1) (m1 := m1) (c1 := c1) h60)
    rw [hZ] at HSM
    have HZ := Lib.hid hZ; have HEZ := Lib.hid (EX2.out.trans hxz)
    clear hZ hxz
    have ja := drow_cell (rowE D2.out R1.out)
    go_wp2_with (rw [HZ.out])
    refine HSM.out.mono ?_
    rintro e w' ⟨rfl, rfl⟩
    go_wp2_with fail
    go_ret
    exact ⟨rfl, HEZ.out⟩
  have HSM := Lib.hid (sd_yes1 w2 (a1 := a1) (m1 := m1) (c1 := c1) h60)
  rw [hZ] at HSM
  have HZ := Lib.hid hZ
  have q1 := h60; clear h60
  clear hZ
  have ja := drow_cell (rowE D2.out R1.out)
  have D3 := Lib.hid hxz
  have EX3 := Lib.hid (EX2.out.trans hxz)
  clear hxz
  go_wp2_with (rw [HZ.out])
  refine HSM.out.mono ?_
  rintro e w' ⟨rfl, rfl⟩
  clear HSM ja
  by_cases h20 : sn ≤ 20
  rotate_left
  · have g20 : (20 : Int) < (sn : Int) := by omega
    go_wp2_with fail
    go_ret
    exact ⟨rfl, EX3.out⟩
  have g20 : ¬ (20 : Int) < (sn : Int) := by omega
  obtain ⟨V3, hV⟩ : ∃ V, Z.alloc (.cells #[.slice none 0 0] 25) = V := ⟨_, rfl⟩
  have R3 := Lib.hid (show V3.heap[Z.heap.size]? = some (.cells #[.slice none 0 0] 25 (0, 0)) by rw [← hV]; exact heap_alloc_new Z _)
  have x3 : Ext Z V3 := by rw [← hV]; exact (Ext.refl _).alloc _
  have HV3 := Lib.hid hV
  clear hV
  have D4 := Lib.hid x3
  have EX4 := Lib.hid (EX3.out.trans x3)
  clear x3
  have HLT1 := Lib.hid (show Z.heap.size < V3.heap.size from row_lt R3.out)
  go_wp2_with fail
  rw [HV3.out]
  go_loopw [6] (fun iv wr => PtRel Z (Z.heap.size) sn 4 (fun k => (ss.take k).sum * U36) iv wr) (fun iv _ => sn - (RowKit.intOf iv).toNat)
  case atStart => exact ⟨0, none, 0, 0, by omega, rfl, R3.out, by rw [show (fun k => (ss.take k).sum * U36) 0 = 0 by simp]; exact Own.nil _ _, by omega, D4.out⟩
  case round =>
    obtain ⟨k, ok, ek, ck, hk, rfl, hrow, hown, hmk, hex⟩ := hrel
    have HROWk := Lib.hid hrow; have HOWNk := Lib.hid hown; have HMk := Lib.hid hmk
    clear hrow hown hmk
    have D4 := Lib.hid hex
    have EX4 := Lib.hid (EX3.out.trans hex)
    clear hex
    by_cases hkn : k = sn
    rotate_left
    · have hlt : (k : Int) < (sn : Int) := by omega
      obtain ⟨sb, so, hix, hcell, -⟩ := (HSS.out.old EX4.out).ix (P := Tryz.prog) Tryz.underlying22 H1.out H3.out
      have x1 := hix k (by omega)
      have x2 := hcell k (by omega)
      have hsB := HSS.out.bd.getD (by decide) k
      have HSTEP := Lib.hid (take_sum ss k (by rw [HSS.out.len]; omega))
      clear hix hcell
      obtain ⟨s, hs⟩ : ∃ s, ss.getD k 0 = s := ⟨_, rfl⟩
      rw [hs] at x2 hsB HSTEP
      clear hs
      have HSB := Lib.hid hsB
      obtain ⟨SV, hSV⟩ : ∃ x, s * U36 = x := ⟨_, rfl⟩
      have HSV := Lib.hid hSV; clear hSV
      have HSUM := Lib.hid (show (ss.take k).sum * U36 + SV = (ss.take (k + 1)).sum * U36 by rw [HSTEP.out, ← HSV.out, Nat.add_mul])
      have hm := HMk.out
      have ED := (Ext.refl wr).drew
      have x3 := ED.cell x2
      have j0 := drow_cell (rowE ED HROWk.out)
      have HED := Lib.hid ED; have HX2 := Lib.hid x2
      have HLTw := Lib.hid (row_lt HROWk.out)
      clear x2 hsB ED
      go_wp2_with fail
      go_region_with (first
        | (go_at_call 21; refine (dof_at s SV HSB.out HSV.out _).mono ?_; rintro e y1 ⟨p1, n1, d1, rfl, ho1, hx1, hn1⟩; have E1 : Ext wr y1 := HED.out.trans hx1; have j1 := drow_cell (rowE E1 HROWk.out); have x4 := E1.cell HX2.out)
        | (go_at_call 14; refine (dadd_at ((ss.take k).sum * U36) SV ((ss.take (k + 1)).sum * U36) (HOWNk.out.sl.old E1) ho1.sl (val_lim _) (val_lim _) HSUM.out (by omega) (by omega)).mono ?_; rintro e y2 ⟨p2, n2, d2, rfl, ho2, hx2, hn2⟩; have E2 : Ext wr y2 := E1.trans hx2; have j2 := drow_cell (rowE E2 HROWk.out); have j3 := row_free (rowE E2 HROWk.out)))
      all_goals (
        have HREL := Lib.hid (fun iv (hiv : iv = Value.int .i64 ((k + 1 : Nat) : Int)) => show PtRel Z (Z.heap.size) sn 4 (fun k => (ss.take k).sum * U36) iv (y2.setCell ⟨Z.heap.size, 0, none⟩ (.slice p2 n2 d2)) from ⟨k + 1, p2, n2, d2, by omega, hiv, heap_setCell_same y2 (Z.heap.size) 0 _ _ _ (rowE E2 HROWk.out), (ho2.box _ (Nat.lt_of_lt_of_le HLTw.out E1.size)).mono (Nat.lt_of_lt_of_le HLTw.out E1.size), by omega, box_store _ (D4.out.trans E2) (Nat.le_refl _)⟩)
        clear ho1 hx1 ho2 hx2 E1 E2 j0 j1 x3 x4
        go_wp2_with fail
        go_roundw
        case rel => exact HREL.out _ (by go_num)
        case measure => simp only [RowKit.intOf]; omega)
    have hge : ¬ ((k : Int) < (sn : Int)) := by omega
    have HWH := Lib.hid (show ss.take k = ss by rw [hkn]; exact List.take_of_length_le (by rw [HSS.out.len]; exact Nat.le_refl _))
    obtain ⟨tot, htot⟩ : ∃ x, ss.sum = x := ⟨_, rfl⟩
    obtain ⟨T, hT⟩ : ∃ x, tot * U36 = x := ⟨_, rfl⟩
    have HTOT := Lib.hid htot; have HT2 := Lib.hid hT; clear htot hT
    have HALL := Lib.hid (show Sl wr ok ek ck (lim T) by have h := HOWNk.out.sl; simp only [HWH.out, HTOT.out, HT2.out] at h; exact h)
    have hm1 : ek ≤ 80 := by have := HMk.out; omega
    clear hkn
    by_cases hT0 : T = 0
    · have HZ0 := Lib.hid (decide_eq_true hT0)
      clear hT0
      have jall := drow_cell HROWk.out
      have C4 := Lib.hid (dzero_at T true HALL.out (val_lim _) HZ0.out (by omega))
      go_wp2_with fail
      refine C4.out.mono ?_
      rintro e w4 ⟨rfl, x4⟩
      clear jall
      have D5 := Lib.hid x4
      have EX5 := Lib.hid (EX4.out.trans x4)
      clear x4
      clear C4
      go_wp2_with fail
      go_ret
      exact ⟨rfl, EX5.out⟩
    have HZ0 := Lib.hid (decide_eq_false hT0); have HT0 := Lib.hid hT0; clear hT0
    have HTP := Lib.hid (show 0 < tot from Nat.pos_of_ne_zero (fun h => HT0.out (by rw [← HT2.out, h, Nat.zero_mul])))
    have jall := drow_cell HROWk.out
    have C4 := Lib.hid (dzero_at T false HALL.out (val_lim _) HZ0.out (by omega))
    go_wp2_with fail
    refine C4.out.mono ?_
    rintro e w4 ⟨rfl, x4⟩
    clear jall
    have D5 := Lib.hid x4
    have EX5 := Lib.hid (EX4.out.trans x4)
    clear x4
    clear C4
    obtain ⟨V5, hV⟩ : ∃ V, w4.alloc (.cells #[.slice none 0 0] 25) = V := ⟨_, rfl⟩
    have R5 := Lib.hid (show V5.heap[w4.heap.size]? = some (.cells #[.slice none 0 0] 25 (0, 0)) by rw [← hV]; exact heap_alloc_new w4 _)
    have x5 : Ext w4 V5 := by rw [← hV]; exact (Ext.refl _).alloc _
    have HV5 := Lib.hid hV
    clear hV
    have D6 := Lib.hid x5
    have EX6 := Lib.hid (EX5.out.trans x5)
    clear x5
    go_wp2_with fail
    rw [HV5.out]
    go_loopw [8] (fun iv wr => PtRel w4 (w4.heap.size) sn 50 (fun k => partSum A tot (ss.take k)) iv wr) (fun iv _ => sn - (RowKit.intOf iv).toNat)
    case atStart => exact ⟨0, none, 0, 0, by omega, rfl, R5.out, by rw [show (fun k => partSum A tot (ss.take k)) 0 = 0 by simp [partSum]]; exact Own.nil _ _, by omega, D6.out⟩
    case round =>
      clear hge
      obtain ⟨j, oj, ej, cj, hj, rfl, hrow, hown, hmj, hex⟩ := hrel
      have HROWj := Lib.hid hrow; have HOWNj := Lib.hid hown; have HMj := Lib.hid hmj
      clear hrow hown hmj
      have D6 := Lib.hid hex
      have EX6 := Lib.hid (EX5.out.trans hex)
      clear hex
      by_cases hjn : j = sn
      rotate_left
      · have hlt : (j : Int) < (sn : Int) := by omega
        obtain ⟨sb, so, hix, hcell, -⟩ := (HSS.out.old EX6.out).ix (P := Tryz.prog) Tryz.underlying22 H1.out H3.out
        have x1 := hix j (by omega)
        have x2 := hcell j (by omega)
        have hsB := HSS.out.bd.getD (by decide) j
        have HPT := Lib.hid (part_take A tot ss j (by rw [HSS.out.len]; omega))
        clear hix hcell
        obtain ⟨s, hs⟩ : ∃ s, ss.getD j 0 = s := ⟨_, rfl⟩
        rw [hs] at x2 hsB HPT
        clear hs
        have HSB := Lib.hid hsB
        obtain ⟨SV, hSV⟩ : ∃ x, s * U36 = x := ⟨_, rfl⟩
        have HSV := Lib.hid hSV; clear hSV
        obtain ⟨PV, hPV⟩ : ∃ x, A * s / tot = x := ⟨_, rfl⟩
        have HPV := Lib.hid hPV; clear hPV
        have HQ0 := Lib.hid (show A * SV / T = PV by rw [← HSV.out, ← HT2.out, ← HPV.out, ← Nat.mul_assoc]; exact Nat.mul_div_mul_right _ _ (Nat.pos_of_ne_zero U36_ne))
        have HPS := Lib.hid (show partSum A tot (ss.take j) + PV = partSum A tot (ss.take (j + 1)) by rw [HPT.out, HPV.out])
        have hm := HMj.out
        have HX2 := Lib.hid x2; have HSLT := Lib.hid (World.block_lt_of_cell? wr _ x2); clear hsB x2
        have HBC := Lib.hid (fun w' (h : Ext wr w') => (show w'.cell? ⟨w.heap.size, 0, none⟩ = some (.slice a1 m1 c1) ∧ w'.cell? ⟨Z.heap.size, 0, none⟩ = some (.slice ok ek ck) ∧ w'.cell? ⟨sb, so + j, none⟩ = some (.int .u64 (s : Int)) from ⟨drow_cell (rowE (Ext.trans (Ext.trans D2.out (Ext.trans D3.out (Ext.trans D4.out (Ext.trans D5.out D6.out)))) h) R1.out), drow_cell (rowE (Ext.trans (Ext.trans D5.out D6.out) h) HROWk.out), h.cell HX2.out⟩))
        have hlt_a : w.heap.size < wr.heap.size := row_lt (rowE (Ext.trans D2.out (Ext.trans D3.out (Ext.trans D4.out (Ext.trans D5.out D6.out)))) R1.out)
        have hlt_all : Z.heap.size < wr.heap.size := row_lt (rowE (Ext.trans D5.out D6.out) HROWk.out)
        have HLT_a := Lib.hid hlt_a; clear hlt_a
        have HLT_all := Lib.hid hlt_all; clear hlt_all
        have HB5 := Lib.hid (fun w' (h : Ext wr w') B' (hB : wr.heap.size ≤ B') u => (show (w'.setCell ⟨B', 0, none⟩ u).cell? ⟨w.heap.size, 0, none⟩ = some (.slice a1 m1 c1) ∧ (w'.setCell ⟨B', 0, none⟩ u).cell? ⟨Z.heap.size, 0, none⟩ = some (.slice ok ek ck) ∧ (w'.setCell ⟨B', 0, none⟩ u).cell? ⟨sb, so + j, none⟩ = some (.int .u64 (s : Int)) from ⟨by rw [World.cell?_setCell_other _ _ _ _ (by intro e; have e1 := congrArg Addr.block e; have z9 := HLT_a.out; simp only at e1; omega)]; exact (HBC.out w' h).1, by rw [World.cell?_setCell_other _ _ _ _ (by intro e; have e1 := congrArg Addr.block e; have z9 := HLT_all.out; simp only at e1; omega)]; exact (HBC.out w' h).2.1, by rw [World.cell?_setCell_other _ _ _ _ (by intro e; have e1 := congrArg Addr.block e; have z9 := HSLT.out; simp only at e1 z9; omega)]; exact (HBC.out w' h).2.2⟩))
        go_wp2_with fail
        go_region_held3 (fun w' => w'.cell? ⟨w.heap.size, 0, none⟩ = some (.slice a1 m1 c1) ∧ w'.cell? ⟨Z.heap.size, 0, none⟩ = some (.slice ok ek ck) ∧ w'.cell? ⟨sb, so + j, none⟩ = some (.int .u64 (s : Int)))
          (first | exact HBC.out _ (Ext.refl _).drew | exact HBC.out _ ((Ext.refl _).drew.alloc _) | exact HBC.out _ ((Ext.refl _).alloc _).drew | exact HBC.out _ (by assumption) | exact HBC.out _ (Ext.alloc (by assumption) _) | exact HB5.out _ (by assumption) _ (Nat.le_refl _) _ | exact HB5.out _ (by assumption) _ (Ext.size (by assumption)) _ | exact HB5.out _ (Ext.alloc (by assumption) _) _ (Ext.size (by assumption)) _)
          (first
            | (go_at_call 21; refine (dof_at s SV HSB.out HSV.out _).mono ?_; rintro e y6_0 ⟨bo6_0, bn6_0, bk6_0, rfl, ho6_0, hx6_0, hn6_0⟩; have E6_0 : Ext wr y6_0 := (by first | exact (Ext.refl _).drew.trans hx6_0 | exact ((Ext.refl _).drew.alloc _).trans hx6_0 | exact ((Ext.refl _).alloc _).drew.trans hx6_0); (first | (have R8 := row_new hx6_0; (try simp only [drew_size] at R8); have RF9 := Lib.hid R8; clear R8) | (have R8 := row_new (((Ext.refl _).drew).trans hx6_0); (try simp only [drew_size] at R8); have RF9 := Lib.hid R8; clear R8) | skip))
            | (go_at_call 34; refine (dmuldiv_at A SV T PV (HA1.out.old ((Ext.trans D1.out (Ext.trans D2.out (Ext.trans D3.out (Ext.trans D4.out (Ext.trans D5.out D6.out))))).trans (by first | exact E6_0 | exact E6_0.alloc _))) (ho6_0.sl.old (by first | exact Ext.refl _ | exact (Ext.refl _).alloc _)) (HALL.out.old ((Ext.trans D5.out D6.out).trans (by first | exact E6_0 | exact E6_0.alloc _))) HQ1.out (val_lim _) (val_lim _) HT0.out HQ0.out (by omega) (by omega) (by omega)).mono ?_; rintro e y6_1 ⟨bo6_1, bn6_1, bk6_1, rfl, ho6_1, hx6_1, hn6_1⟩; have E6_1 : Ext wr y6_1 := (by first | exact E6_0.trans hx6_1 | exact (E6_0.alloc _).trans hx6_1); (first | have HO6_0 := Lib.hid (ho6_0.sl.old hx6_1) | have HO6_0 := Lib.hid (ho6_0.sl.old (((Ext.refl _).alloc _).trans hx6_1))); (first | have HLT9 := Lib.hid (row_lt RF9.out) | skip); (first | have RF9 := Lib.hid (row_ext hx6_1 RF9.out) | have RF9 := Lib.hid (row_new hx6_1) | skip); (first | have k1 := row_cell RF9.out | skip); (first | have k2 := row_free RF9.out | skip)))
        all_goals (
          first
            | have PK := packX (u := .slice bo6_1 bn6_1 bk6_1) RF9.out E6_1 (Nat.le_refl _) ho6_1 HLT9.out
            | have PK := packX (u := .slice bo6_1 bn6_1 bk6_1) RF9.out E6_1 (Ext.size (by assumption)) ho6_1 HLT9.out
            | have PK := packX (u := .slice bo6_1 bn6_1 bk6_1) RF9.out E6_1 (Ext.size (by assumption)) ho6_1 (by rw [alloc_size]; omega)
            | have PK := packAX (u := .slice bo6_1 bn6_1 bk6_1) (T := 25) E6_1 ho6_1
          obtain ⟨wF, BB, hBB, hwF, EF, RF, SF⟩ := PK
          rw [← hwF, ← hBB]
          have HRF := Lib.hid RF; have HSF := Lib.hid SF.sl; have xF := EF
          try clear k1 k2
          clear hBB hwF EF RF SF ho6_1 hx6_1 E6_1 ho6_0 hx6_0 E6_0
          have D7 := Lib.hid xF
          have EX7 := Lib.hid (EX6.out.trans xF)
          clear xF
          have HSLJ := Lib.hid HOWNj.out.sl
          have jsum := drow_cell (rowE D7.out HROWj.out)
          have jp := drow_cell HRF.out
          have C7 := Lib.hid (dadd_at (partSum A tot (ss.take j)) PV (partSum A tot (ss.take (j + 1))) (HSLJ.out.old D7.out) HSF.out (val_lim _) (val_lim _) HPS.out (by omega) (by omega))
          go_wp2_with fail
          refine C7.out.mono ?_
          rintro e y2 ⟨p2, n2, d2, rfl, ho2, hx2, hn2⟩
          clear jsum jp
          have E2 := D7.out.trans hx2
          have j2 := drow_cell (rowE E2 HROWj.out); have j3 := row_free (rowE E2 HROWj.out)
          have HLTw := Lib.hid (row_lt (rowE D7.out HROWj.out))
          have HREL := Lib.hid (fun iv (hiv : iv = Value.int .i64 ((j + 1 : Nat) : Int)) => show PtRel w4 (w4.heap.size) sn 50 (fun k => partSum A tot (ss.take k)) iv (y2.setCell ⟨w4.heap.size, 0, none⟩ (.slice p2 n2 d2)) from ⟨j + 1, p2, n2, d2, by omega, hiv, heap_setCell_same y2 (w4.heap.size) 0 _ _ _ (rowE E2 HROWj.out), (ho2.box _ HLTw.out).mono HLTw.out, by omega, box_store _ (Ext.trans D6.out E2) (Nat.le_refl _)⟩)
          clear ho2 hx2 E2
          go_wp2_with fail
          go_roundw
          case rel => exact HREL.out _ (by go_num)
          case measure => simp only [RowKit.intOf]; omega)
      have hge : ¬ ((j : Int) < (sn : Int)) := by omega
      have HWH2 := Lib.hid (show ss.take j = ss by rw [hjn]; exact List.take_of_length_le (by rw [HSS.out.len]; exact Nat.le_refl _))
      obtain ⟨PS, hPS⟩ : ∃ x, partSum A tot ss = x := ⟨_, rfl⟩
      have HPS := Lib.hid hPS; clear hPS
      have hpw := parts_whole (a := A) (ss := ss) (by rw [HTOT.out]; exact HTP.out)
      rw [HTOT.out, HPS.out, HSS.out.len] at hpw
      have HPW1 := Lib.hid hpw.1; have HPW2 := Lib.hid hpw.2; clear hpw
      have HSL := Lib.hid (show Sl wr oj ej cj (lim PS) by have h := HOWNj.out.sl; simp only [HWH2.out, HPS.out] at h; exact h)
      have hm2 : ej ≤ 1000 := by have := HMj.out; omega
      clear hjn
      obtain ⟨LE, hLE⟩ : ∃ x, A - PS = x := ⟨_, rfl⟩
      rw [hLE] at HPW2
      have HLE := Lib.hid hLE; clear hLE
      have ja := drow_cell (rowE (Ext.trans D2.out (Ext.trans D3.out (Ext.trans D4.out (Ext.trans D5.out D6.out)))) R1.out)
      have jsum := drow_cell HROWj.out
      have C6 := Lib.hid (dsub_at A PS LE (HA1.out.old (Ext.trans D1.out (Ext.trans D2.out (Ext.trans D3.out (Ext.trans D4.out (Ext.trans D5.out D6.out)))))) HSL.out HQ1.out (val_lim _) HPW1.out HLE.out (by omega) (by omega))
      go_wp2_with fail
      refine C6.out.mono ?_
      rintro e w6 ⟨p6, n6, c6, rfl, o6, x6, l6⟩
      clear ja jsum
      have S6 := Lib.hid o6.sl
      clear o6
      have D7 := Lib.hid x6
      have EX7 := Lib.hid (EX6.out.trans x6)
      clear x6
      clear C6
      obtain ⟨V7, hV⟩ : ∃ V, w6.alloc (.cells #[.slice p6 n6 c6] 25) = V := ⟨_, rfl⟩
      have R7 := Lib.hid (show V7.heap[w6.heap.size]? = some (.cells #[.slice p6 n6 c6] 25 (0, 0)) by rw [← hV]; exact heap_alloc_new w6 _)
      have x7 : Ext w6 V7 := by rw [← hV]; exact (Ext.refl _).alloc _
      have HV7 := Lib.hid hV
      clear hV
      have D8 := Lib.hid x7
      have EX8 := Lib.hid (EX7.out.trans x7)
      clear x7
      have hu : IntKind.u64.wrap (sn : Int) = (sn : Int) := by rw [u64_wrap_nat, B64_eq, Nat.mod_eq_of_lt (by omega)]
      have HNB := Lib.hid (show sn < B64 by rw [B64_eq]; omega)
      have H8 : Hid (∀ w', Ext V7 w' → w'.cell? ⟨w6.heap.size, 0, none⟩ = some (.slice p6 n6 c6)) := Lib.hid (fun w' h => drow_cell (rowE h R7.out))
      go_wp2_with (rw [HV7.out])
      go_region_held3 (fun w' => w'.cell? ⟨w6.heap.size, 0, none⟩ = some (.slice p6 n6 c6))
        (first | exact H8.out _ (Ext.refl _) | exact H8.out _ (Ext.refl _).drew | exact H8.out _ (by assumption))
        (first
          | (go_at_call 53; refine (of_calls sn HNB.out _).mono ?_; rintro e wr8_0 ⟨pr8_0, nr8_0, cr8_0, rfl, or8_0, xr8_0, lr8_0⟩; have Er8_0 : Ext V7 wr8_0 := (Ext.refl V7).drew.trans xr8_0)
          | (go_at_call 51; refine (cmp_at LE sn (-1) (S6.out.old (D8.out.trans Er8_0)) or8_0.sl (val_lim _) (val_lim _) (cmpN_lt HPW2.out) (by omega) (by omega)).mono ?_; rintro e wr8_1 ⟨rfl, xr8_1⟩; have Er8_1 : Ext V7 wr8_1 := Er8_0.trans xr8_1))
      have x8 := Er8_1
      clear xr8_0 or8_0 Er8_0 xr8_1 Er8_1
      have D9 := Lib.hid x8
      have EX9 := Lib.hid (EX8.out.trans x8)
      clear x8
      go_wp2_with fail
      go_ret
      exact ⟨rfl, EX9.out⟩

end Go.Proofs.YtdafjajleglccaaGreatDoor
