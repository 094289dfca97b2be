/- gleanlaw24.LedgerRoom: the walk. -/
import Derived.Test.YtimcnhlcepemjaaGreatDoorMJ
import Derived.Deep.CutRange
namespace Go.Proofs.YtimcnhlcepemjaaGreatDoor
open Go.RowKit Go.Lib

set_option maxHeartbeats 16000000 in
set_option maxRecDepth 100000 in
theorem lroom_law {a1 b1 a0 : Option Addr} {m1 c1 n1 d1 m0 c0 : Nat} {xs1 ys1 xs0 : List Nat} {w : World} (h1 : Sl w a1 m1 c1 xs1) (h2 : Sl w b1 n1 d1 ys1) {nn : Nat} (hnn : nn < B64) (h0 : Sl w a0 m0 c0 xs0) {p k : Int} (hp : -9223372036854775808 ≤ p ∧ p ≤ 9223372036854775807) (hk : -9223372036854775808 ≤ k ∧ k ≤ 9223372036854775807) (htz : TzTab w) (hM : MaxL w) :
    Calls Tryz.prog 5 #[RatV a1 m1 c1 b1 n1 d1, .int .u64 (nn : Int), DecV a0 m0 c0, .int .i64 p, .int .i64 k] w (RetE (.bool true) w) := by
  obtain ⟨eq, he⟩ : ∃ e, ((val xs1, val ys1) : Nat × Nat) = e := ⟨_, rfl⟩
  have HE_ : Hid (RG w a1 m1 c1 b1 n1 d1 eq) := Lib.hid ⟨xs1, ys1, h1, h2, by rw [← he], by rw [← he]⟩
  have HQ_ := Lib.hid h0; have HN := Lib.hid hnn; have HP_ := Lib.hid hp; have HK_ := Lib.hid hk; have HTZ := Lib.hid htz; have HM := Lib.hid hM
  obtain ⟨Y, hY⟩ : ∃ x, nn * U36 + val xs0 = x := ⟨_, rfl⟩
  have HY := Lib.hid hY
  have HLX := Lib.hid (ln_val h0)
  clear he h1 h2 h0 hnn hp hk htz hM hY
  go_enter Tryz.func5, Tryz.ntmps5
  obtain ⟨V1, hV⟩ : ∃ V, w.alloc (.cells #[.slice a1 m1 c1, .slice b1 n1 d1] 40) = V := ⟨_, rfl⟩
  have R1 := Lib.hid (show V1.heap[w.heap.size]? = some (.cells #[.slice a1 m1 c1, .slice b1 n1 d1] 40 (0, 0)) by rw [← hV]; exact heap_alloc_new w _)
  have x1 : Ext w V1 := by rw [← hV]; exact (Ext.refl _).alloc _
  have HV1 := Lib.hid hV
  clear hV
  have D1 := Lib.hid (Ext.lk x1)
  have EX1 := Lib.hid x1
  clear x1
  obtain ⟨V2, hV⟩ : ∃ V, V1.alloc (.cells #[.slice a0 m0 c0] 35) = V := ⟨_, rfl⟩
  have R2 := Lib.hid (show V2.heap[V1.heap.size]? = some (.cells #[.slice a0 m0 c0] 35 (0, 0)) by rw [← hV]; exact heap_alloc_new V1 _)
  have x2 : Ext V1 V2 := by rw [← hV]; exact (Ext.refl _).alloc _
  have HV2 := Lib.hid hV
  clear hV
  have D2 := Lib.hid (Ext.lk x2)
  have EX2 := Lib.hid (EX1.out.trans x2)
  clear x2
  have C3 := Lib.hid (knownL_calls V2 (HTZ.out.lk (Lk.trans D1.out D2.out)) (HM.out.lk (Lk.trans D1.out D2.out)))
  go_wp2_with (first | rw [HV1.out] | rw [HV2.out])
  refine C3.out.mono ?_
  rintro e w3 ⟨rfl, x3⟩
  have D3 := Lib.hid (Ext.lk x3)
  have EX3 := Lib.hid (EX2.out.trans x3)
  clear x3
  clear C3
  by_cases h_m1 : m1 ≤ 20
  rotate_left
  · have g_m1 : (20 : Int) < (m1 : Int) := by omega
    have je1 := (row2_cells (rowK (Lk.trans D2.out D3.out) R1.out)).1; have je2 := (row2_cells (rowK (Lk.trans D2.out D3.out) R1.out)).2.1
    have jq := drow_cell (rowK D3.out R2.out)
    go_wp2_with fail
    go_ret
    exact ⟨rfl, EX3.out⟩
  have g_m1 : ¬ (20 : Int) < (m1 : Int) := by omega
  by_cases h_n1 : n1 ≤ 20
  rotate_left
  · have g_n1 : (20 : Int) < (n1 : Int) := by omega
    have je1 := (row2_cells (rowK (Lk.trans D2.out D3.out) R1.out)).1; have je2 := (row2_cells (rowK (Lk.trans D2.out D3.out) R1.out)).2.1
    have jq := drow_cell (rowK D3.out R2.out)
    go_wp2_with fail
    go_ret
    exact ⟨rfl, EX3.out⟩
  have g_n1 : ¬ (20 : Int) < (n1 : Int) := by omega
  by_cases h_m0 : m0 ≤ 20
  rotate_left
  · have g_m0 : (20 : Int) < (m0 : Int) := by omega
    have je1 := (row2_cells (rowK (Lk.trans D2.out D3.out) R1.out)).1; have je2 := (row2_cells (rowK (Lk.trans D2.out D3.out) R1.out)).2.1
    have jq := drow_cell (rowK D3.out R2.out)
    go_wp2_with fail
    go_ret
    exact ⟨rfl, EX3.out⟩
  have g_m0 : ¬ (20 : Int) < (m0 : Int) := by omega
  obtain ⟨P, hP, CP⟩ := hplace_calls p HP_.out 1099511627776 (by decide) w3
  obtain ⟨K, hK, CK⟩ := hplace_calls k HK_.out 1099511627776 (by decide) w3
  have HCP := Lib.hid CP; have HCK := Lib.hid CK; clear CP CK
  have je1 := (row2_cells (rowK (Lk.trans D2.out D3.out) R1.out)).1; have je2 := (row2_cells (rowK (Lk.trans D2.out D3.out) R1.out)).2.1
  have jq := drow_cell (rowK D3.out R2.out)
  have C4 := Lib.hid (HCP.out)
  go_wp2_with fail
  refine C4.out.mono ?_
  rintro e w' ⟨rfl, rfl⟩
  clear C4
  clear g_m1 g_n1 g_m0
  have C5 := Lib.hid (HCK.out)
  go_wp2_with fail
  refine C5.out.mono ?_
  rintro e w' ⟨rfl, rfl⟩
  clear C5
  clear HCP HCK
  obtain ⟨r0, h_r0⟩ : ∃ x, fitsB eq nn (val xs0) P K = x := ⟨_, rfl⟩
  have H_r0 := Lib.hid h_r0; clear h_r0
  have z1 := drow_cell (rowK D3.out R2.out)
  have C6 := Lib.hid (fits_as (r := r0) (lfits_calls (HE_.out.lk (Lk.trans D1.out (Lk.trans D2.out D3.out))) (Nat.le_trans h_m1 (by decide)) (Nat.le_trans h_n1 (by decide)) HN.out (HQ_.out.lk (Lk.trans D1.out (Lk.trans D2.out D3.out))) (Nat.le_trans h_m0 (by decide)) (p := (P : Int)) (k := (K : Int)) (P := P) (K := K) (by omega) (by omega) (by omega) (by omega) (HTZ.out.lk (Lk.trans D1.out (Lk.trans D2.out D3.out)))) H_r0.out)
  go_wp2_with fail
  refine C6.out.mono ?_
  rintro e w6 ⟨rfl, x6⟩
  have D4 := Lib.hid (Ext.lk x6)
  have EX4 := Lib.hid (EX3.out.trans x6)
  clear x6
  clear C6
  have HLY := Lib.hid (show ln Y ≤ 500 by rw [← HY.out]; have a := ln_paid2 HN.out HLX.out; omega)
  have HSZP := Lib.hid (show sz (decQ Y) ≤ 1000 by have a := sz_dec Y; have b := HLY.out; omega)
  have HSELF := Lib.hid (show fitsB (decQ Y) nn (val xs0) P K = true by rw [← HY.out]; exact fits_self _ _ _ _)
  have HSELF0 := Lib.hid (show fitsB (decQ Y) nn (val xs0) 0 0 = true by rw [← HY.out]; exact fits_self _ _ _ _)
  cases r0 with
  | true =>
    have je1 := (row2_cells (rowK (Lk.trans D2.out (Lk.trans D3.out D4.out)) R1.out)).1; have je2 := (row2_cells (rowK (Lk.trans D2.out (Lk.trans D3.out D4.out)) R1.out)).2.1
    have jq := drow_cell (rowK (Lk.trans D3.out D4.out) R2.out)
    have C7 := Lib.hid (fits_as (r := true) (lfits_calls (HE_.out.lk (Lk.trans D1.out (Lk.trans D2.out (Lk.trans D3.out D4.out)))) (Nat.le_trans h_m1 (by decide)) (Nat.le_trans h_n1 (by decide)) HN.out (HQ_.out.lk (Lk.trans D1.out (Lk.trans D2.out (Lk.trans D3.out D4.out)))) (Nat.le_trans h_m0 (by decide)) (p := ((P : Int) + 1)) (k := (K : Int)) (P := (P + 1)) (K := K) (by omega) (by omega) (by omega) (by omega) (HTZ.out.lk (Lk.trans D1.out (Lk.trans D2.out (Lk.trans D3.out D4.out))))) (fits_p H_r0.out))
    go_wp2_with fail
    refine C7.out.mono ?_
    rintro e w7 ⟨rfl, x7⟩
    clear je1 je2 jq
    have D5 := Lib.hid (Ext.lk x7)
    have EX5 := Lib.hid (EX4.out.trans x7)
    clear x7
    clear C7
    have je1 := (row2_cells (rowK (Lk.trans D2.out (Lk.trans D3.out (Lk.trans D4.out D5.out))) R1.out)).1; have je2 := (row2_cells (rowK (Lk.trans D2.out (Lk.trans D3.out (Lk.trans D4.out D5.out))) R1.out)).2.1
    have jq := drow_cell (rowK (Lk.trans D3.out (Lk.trans D4.out D5.out)) R2.out)
    have C8 := Lib.hid (fits_as (r := true) (lfits_calls (HE_.out.lk (Lk.trans D1.out (Lk.trans D2.out (Lk.trans D3.out (Lk.trans D4.out D5.out))))) (Nat.le_trans h_m1 (by decide)) (Nat.le_trans h_n1 (by decide)) HN.out (HQ_.out.lk (Lk.trans D1.out (Lk.trans D2.out (Lk.trans D3.out (Lk.trans D4.out D5.out))))) (Nat.le_trans h_m0 (by decide)) (p := (P : Int)) (k := ((K : Int) + 1)) (P := P) (K := (K + 1)) (by omega) (by omega) (by omega) (by omega) (HTZ.out.lk (Lk.trans D1.out (Lk.trans D2.out (Lk.trans D3.out (Lk.trans D4.out D5.out)))))) (fits_k H_r0.out))
    go_wp2_with fail
    refine C8.out.mono ?_
    rintro e w8 ⟨rfl, x8⟩
    clear je1 je2 jq
    have D6 := Lib.hid (Ext.lk x8)
    have EX6 := Lib.hid (EX5.out.trans x8)
    clear x8
    clear C8
    go_upto_region 10 with fail
    go_cut [12] from 62 to 66 (fun v1 wx => ∃ (B : Nat) (o1 : Option Addr) (z1 y1 : Nat) (o2 : Option Addr) (z2 y2 : Nat), v1 = .pointer (some ⟨B, 0, none⟩) ∧ wx.heap[B]? = some (.cells #[.slice o1 z1 y1, .slice o2 z2 y2] 40 (0, 0)) ∧ RA wx o1 z1 y1 o2 z2 y2 (decQ Y) ∧ Ext w8 wx)
    case first =>
      have HBC := Lib.hid (fun w' (F : Ext w8 w') => (show w'.cell? ⟨V1.heap.size, 0, none⟩ = some (.slice a0 m0 c0) from drow_cell (rowE F (rowK (Lk.trans D3.out (Lk.trans D4.out (Lk.trans D5.out D6.out))) R2.out))))
      have HSX := Lib.hid (HQ_.out.lk (Lk.trans D1.out (Lk.trans D2.out (Lk.trans D3.out (Lk.trans D4.out (Lk.trans D5.out D6.out)))))); have HTX := Lib.hid (HTZ.out.lk (Lk.trans D1.out (Lk.trans D2.out (Lk.trans D3.out (Lk.trans D4.out (Lk.trans D5.out D6.out))))))
      go_wp2_with fail
      go_region_held3 (fun w' => w'.cell? ⟨V1.heap.size, 0, none⟩ = some (.slice a0 m0 c0))
        (first | exact HBC.out _ (Ext.refl _).drew | exact HBC.out _ ((Ext.refl _).drew.alloc _) | exact HBC.out _ ((Ext.refl _).alloc _).drew | exact HBC.out _ (by assumption) | exact HBC.out _ (Ext.alloc (by assumption) _) | exact HBC.out _ (set2_ext (by assumption) (Nat.le_refl _) _ _) | exact HBC.out _ (set2_ext (by assumption) (Ext.size (by assumption)) _ _))
        (first
          | (go_at_call 36; refine (dof_calls nn HN.out _).mono ?_; rintro e yA ⟨o5, z5, y5, rfl, q5, xA, lA⟩; have EA : Ext w8 yA := (by first | exact (Ext.refl _).drew.trans xA | exact ((Ext.refl _).drew.alloc _).trans xA | exact ((Ext.refl _).alloc _).drew.trans xA); (first | have R9 := Lib.hid (box2_row (w := w8) (u := .slice none 0 0) (v := .slice none 0 0) (T := 40) (show Ext (w8.alloc (.cells #[.slice none 0 0, .slice none 0 0] 40)) yA from (Ext.refl _).drew.trans xA)) | skip))
          | (go_at_call 35; refine (dadd_calls (by first | exact q5.sl | exact q5.sl.old ((Ext.refl _).alloc _)) (HSX.out.old (by first | exact EA | exact EA.alloc _)) (by omega) (by omega)).mono ?_; rintro e yB ⟨o6, z6, y6, rfl, q6, xB, lB⟩; rw [val_lim, HY.out] at q6; have EB : Ext w8 yB := (by first | exact EA.trans xB | exact (EA.alloc _).trans xB); (first | have R9 := Lib.hid (rowE xB R9.out) | have R9 := Lib.hid (box2_row (w := yA) (u := .slice none 0 0) (v := .slice none 0 0) (T := 40) xB) | skip))
          | (go_at_call 34; refine (rofdec_q (by first | exact q6.sl | exact q6.sl.old ((Ext.refl _).alloc _)) (by omega) (HTX.out.old (by first | exact EB | exact EB.alloc _))).mono ?_; rintro e yC ⟨o7, z7, y7, o8, z8, y8, rfl, q7, q8, xC⟩; rw [val_lim] at q7 q8; have EC : Ext w8 yC := (by first | exact EB.trans xC | exact (EB.alloc _).trans xC); (first | have R9 := Lib.hid (rowE xC R9.out) | have R9 := Lib.hid (box2_row (w := yB) (u := .slice none 0 0) (v := .slice none 0 0) (T := 40) xC) | skip); (first | have k1 := (row2_cells R9.out).1 | skip); (first | have k2 := (row2_cells R9.out).2.1 | skip); (first | have k3 := (row2_cells R9.out).2.2.1 | skip); (first | have k4 := (row2_cells R9.out).2.2.2 | skip)))
      all_goals (
        have HQ := Lib.hid (And.intro q7.sl q8.sl)
        go_wp2_with fail
        go_meet
        first
          | (have LN := ((Tn.cell1 (i := 0) (Ext.refl yC) (.slice o7 z7 y7) none).cell2 (i := 1) (.slice o8 z8 y8)).ln (noNum2 R9.out) (fun o h => by cases h)
             exact ⟨_, o7, z7, y7, o8, z8, y8, rfl, set2_row R9.out _ _, ⟨HQ.out.1.ln LN, HQ.out.2.ln LN⟩, (by first | exact set2_ext EC (Nat.le_refl _) _ _ | exact set2_ext EC (Ext.size (by assumption)) _ _)⟩)
          | exact ⟨_, o7, z7, y7, o8, z8, y8, rfl, heap_alloc_new yC _, ⟨HQ.out.1.old ((Ext.refl _).alloc _), HQ.out.2.old ((Ext.refl _).alloc _)⟩, EC.alloc _⟩)
    obtain ⟨B, o1, z1, y1, o2, z2, y2, rfl, hrB, hpq, xF⟩ := hcut
    have HRB := Lib.hid hrB; have HPQ := Lib.hid hpq; clear hrB hpq
    have D7 := Lib.hid (Ext.lk xF)
    have EX7 := Lib.hid (EX6.out.trans xF)
    clear xF
    have HLE := Lib.hid (show leQ (decQ Y) eq = true by rw [← HY.out]; exact fits_le H_r0.out)
    obtain ⟨g, hg⟩ : ∃ g, cmpN (dN (decQ Y).1 (decQ Y).2 * dD eq.2) (dN eq.1 eq.2 * dD (decQ Y).2) = g := ⟨_, rfl⟩
    have hgd := leQ_cmp (decQ Y) eq
    rw [hg, HLE.out] at hgd
    have HG := Lib.hid hg; clear hg
    have hg0 : ¬ (0 : Int) < g := by have := of_decide_eq_true hgd; omega
    clear hgd
    have jpaid1 := (row2_cells HRB.out).1; have jpaid2 := (row2_cells HRB.out).2.1
    have je1 := (row2_cells (rowK (Lk.trans D2.out (Lk.trans D3.out (Lk.trans D4.out (Lk.trans D5.out (Lk.trans D6.out D7.out))))) R1.out)).1; have je2 := (row2_cells (rowK (Lk.trans D2.out (Lk.trans D3.out (Lk.trans D4.out (Lk.trans D5.out (Lk.trans D6.out D7.out))))) R1.out)).2.1
    have C9 := Lib.hid (rcmp_g HPQ.out.rg (HE_.out.lk (Lk.trans D1.out (Lk.trans D2.out (Lk.trans D3.out (Lk.trans D4.out (Lk.trans D5.out (Lk.trans D6.out D7.out))))))) (Nat.le_trans (Nat.le_trans HPQ.out.len.1 HSZP.out) (by decide)) (Nat.le_trans (Nat.le_trans HPQ.out.len.2 HSZP.out) (by decide)) (Nat.le_trans h_m1 (by decide)) (Nat.le_trans h_n1 (by decide)) g HG.out)
    go_wp2_with fail
    refine C9.out.mono ?_
    rintro e w9 ⟨rfl, x9⟩
    clear jpaid1 jpaid2 je1 je2
    have D8 := Lib.hid (Ext.lk x9)
    have EX8 := Lib.hid (EX7.out.trans x9)
    clear x9
    clear C9
    have jpaid1 := (row2_cells (rowK D8.out HRB.out)).1; have jpaid2 := (row2_cells (rowK D8.out HRB.out)).2.1
    have jq := drow_cell (rowK (Lk.trans D3.out (Lk.trans D4.out (Lk.trans D5.out (Lk.trans D6.out (Lk.trans D7.out D8.out))))) R2.out)
    have C10 := Lib.hid (fits_as (r := true) (lfits_calls (HPQ.out.lk D8.out).rg (Nat.le_trans (HPQ.out.lk D8.out).len.1 HSZP.out) (Nat.le_trans (HPQ.out.lk D8.out).len.2 HSZP.out) HN.out (HQ_.out.lk (Lk.trans D1.out (Lk.trans D2.out (Lk.trans D3.out (Lk.trans D4.out (Lk.trans D5.out (Lk.trans D6.out (Lk.trans D7.out D8.out)))))))) (Nat.le_trans h_m0 (by decide)) (p := (P : Int)) (k := (K : Int)) (P := P) (K := K) (by omega) (by omega) (by omega) (by omega) (HTZ.out.lk (Lk.trans D1.out (Lk.trans D2.out (Lk.trans D3.out (Lk.trans D4.out (Lk.trans D5.out (Lk.trans D6.out (Lk.trans D7.out D8.out))))))))) HSELF.out)
    go_wp2_with fail
    refine C10.out.mono ?_
    rintro e w10 ⟨rfl, x10⟩
    clear jpaid1 jpaid2 jq
    have D9 := Lib.hid (Ext.lk x10)
    have EX9 := Lib.hid (EX8.out.trans x10)
    clear x10
    clear C10
    have jpaid1 := (row2_cells (rowK (Lk.trans D8.out D9.out) HRB.out)).1; have jpaid2 := (row2_cells (rowK (Lk.trans D8.out D9.out) HRB.out)).2.1
    have jq := drow_cell (rowK (Lk.trans D3.out (Lk.trans D4.out (Lk.trans D5.out (Lk.trans D6.out (Lk.trans D7.out (Lk.trans D8.out D9.out)))))) R2.out)
    have C11 := Lib.hid (fits_as (r := true) (lfits_calls (HPQ.out.lk (Lk.trans D8.out D9.out)).rg (Nat.le_trans (HPQ.out.lk (Lk.trans D8.out D9.out)).len.1 HSZP.out) (Nat.le_trans (HPQ.out.lk (Lk.trans D8.out D9.out)).len.2 HSZP.out) HN.out (HQ_.out.lk (Lk.trans D1.out (Lk.trans D2.out (Lk.trans D3.out (Lk.trans D4.out (Lk.trans D5.out (Lk.trans D6.out (Lk.trans D7.out (Lk.trans D8.out D9.out))))))))) (Nat.le_trans h_m0 (by decide)) (p := 0) (k := 0) (P := 0) (K := 0) (by omega) (by omega) (by omega) (by omega) (HTZ.out.lk (Lk.trans D1.out (Lk.trans D2.out (Lk.trans D3.out (Lk.trans D4.out (Lk.trans D5.out (Lk.trans D6.out (Lk.trans D7.out (Lk.trans D8.out D9.out)))))))))) HSELF0.out)
    go_wp2_with fail
    refine C11.out.mono ?_
    rintro e w11 ⟨rfl, x11⟩
    clear jpaid1 jpaid2 jq
    have D10 := Lib.hid (Ext.lk x11)
    have EX10 := Lib.hid (EX9.out.trans x11)
    clear x11
    clear C11
    go_wp2_with fail
    go_ret
    exact ⟨rfl, EX10.out⟩
  | false =>
    go_upto_region 10 with fail
    go_cut [12] from 62 to 66 (fun v1 wx => ∃ (B : Nat) (o1 : Option Addr) (z1 y1 : Nat) (o2 : Option Addr) (z2 y2 : Nat), v1 = .pointer (some ⟨B, 0, none⟩) ∧ wx.heap[B]? = some (.cells #[.slice o1 z1 y1, .slice o2 z2 y2] 40 (0, 0)) ∧ RA wx o1 z1 y1 o2 z2 y2 (decQ Y) ∧ Ext w6 wx)
    case first =>
      have HBC := Lib.hid (fun w' (F : Ext w6 w') => (show w'.cell? ⟨V1.heap.size, 0, none⟩ = some (.slice a0 m0 c0) from drow_cell (rowE F (rowK (Lk.trans D3.out D4.out) R2.out))))
      have HSX := Lib.hid (HQ_.out.lk (Lk.trans D1.out (Lk.trans D2.out (Lk.trans D3.out D4.out)))); have HTX := Lib.hid (HTZ.out.lk (Lk.trans D1.out (Lk.trans D2.out (Lk.trans D3.out D4.out))))
      go_wp2_with fail
      go_region_held3 (fun w' => w'.cell? ⟨V1.heap.size, 0, none⟩ = some (.slice a0 m0 c0))
        (first | exact HBC.out _ (Ext.refl _).drew | exact HBC.out _ ((Ext.refl _).drew.alloc _) | exact HBC.out _ ((Ext.refl _).alloc _).drew | exact HBC.out _ (by assumption) | exact HBC.out _ (Ext.alloc (by assumption) _) | exact HBC.out _ (set2_ext (by assumption) (Nat.le_refl _) _ _) | exact HBC.out _ (set2_ext (by assumption) (Ext.size (by assumption)) _ _))
        (first
          | (go_at_call 36; refine (dof_calls nn HN.out _).mono ?_; rintro e yA ⟨o5, z5, y5, rfl, q5, xA, lA⟩; have EA : Ext w6 yA := (by first | exact (Ext.refl _).drew.trans xA | exact ((Ext.refl _).drew.alloc _).trans xA | exact ((Ext.refl _).alloc _).drew.trans xA); (first | have R9 := Lib.hid (box2_row (w := w6) (u := .slice none 0 0) (v := .slice none 0 0) (T := 40) (show Ext (w6.alloc (.cells #[.slice none 0 0, .slice none 0 0] 40)) yA from (Ext.refl _).drew.trans xA)) | skip))
          | (go_at_call 35; refine (dadd_calls (by first | exact q5.sl | exact q5.sl.old ((Ext.refl _).alloc _)) (HSX.out.old (by first | exact EA | exact EA.alloc _)) (by omega) (by omega)).mono ?_; rintro e yB ⟨o6, z6, y6, rfl, q6, xB, lB⟩; rw [val_lim, HY.out] at q6; have EB : Ext w6 yB := (by first | exact EA.trans xB | exact (EA.alloc _).trans xB); (first | have R9 := Lib.hid (rowE xB R9.out) | have R9 := Lib.hid (box2_row (w := yA) (u := .slice none 0 0) (v := .slice none 0 0) (T := 40) xB) | skip))
          | (go_at_call 34; refine (rofdec_q (by first | exact q6.sl | exact q6.sl.old ((Ext.refl _).alloc _)) (by omega) (HTX.out.old (by first | exact EB | exact EB.alloc _))).mono ?_; rintro e yC ⟨o7, z7, y7, o8, z8, y8, rfl, q7, q8, xC⟩; rw [val_lim] at q7 q8; have EC : Ext w6 yC := (by first | exact EB.trans xC | exact (EB.alloc _).trans xC); (first | have R9 := Lib.hid (rowE xC R9.out) | have R9 := Lib.hid (box2_row (w := yB) (u := .slice none 0 0) (v := .slice none 0 0) (T := 40) xC) | skip); (first | have k1 := (row2_cells R9.out).1 | skip); (first | have k2 := (row2_cells R9.out).2.1 | skip); (first | have k3 := (row2_cells R9.out).2.2.1 | skip); (first | have k4 := (row2_cells R9.out).2.2.2 | skip)))
      all_goals (
        have HQ := Lib.hid (And.intro q7.sl q8.sl)
        go_wp2_with fail
        go_meet
        first
          | (have LN := ((Tn.cell1 (i := 0) (Ext.refl yC) (.slice o7 z7 y7) none).cell2 (i := 1) (.slice o8 z8 y8)).ln (noNum2 R9.out) (fun o h => by cases h)
             exact ⟨_, o7, z7, y7, o8, z8, y8, rfl, set2_row R9.out _ _, ⟨HQ.out.1.ln LN, HQ.out.2.ln LN⟩, (by first | exact set2_ext EC (Nat.le_refl _) _ _ | exact set2_ext EC (Ext.size (by assumption)) _ _)⟩)
          | exact ⟨_, o7, z7, y7, o8, z8, y8, rfl, heap_alloc_new yC _, ⟨HQ.out.1.old ((Ext.refl _).alloc _), HQ.out.2.old ((Ext.refl _).alloc _)⟩, EC.alloc _⟩)
    obtain ⟨B, o1, z1, y1, o2, z2, y2, rfl, hrB, hpq, xF⟩ := hcut
    have HRB := Lib.hid hrB; have HPQ := Lib.hid hpq; clear hrB hpq
    have D5 := Lib.hid (Ext.lk xF)
    have EX5 := Lib.hid (EX4.out.trans xF)
    clear xF
    cases hle : leQ (decQ Y) eq with
    | true =>
      have HLE := Lib.hid hle
      clear hle
      obtain ⟨g, hg⟩ : ∃ g, cmpN (dN (decQ Y).1 (decQ Y).2 * dD eq.2) (dN eq.1 eq.2 * dD (decQ Y).2) = g := ⟨_, rfl⟩
      have hgd := leQ_cmp (decQ Y) eq
      rw [hg, HLE.out] at hgd
      have HG := Lib.hid hg; clear hg
      have hg0 : ¬ (0 : Int) < g := by have := of_decide_eq_true hgd; omega
      clear hgd
      have jpaid1 := (row2_cells HRB.out).1; have jpaid2 := (row2_cells HRB.out).2.1
      have je1 := (row2_cells (rowK (Lk.trans D2.out (Lk.trans D3.out (Lk.trans D4.out D5.out))) R1.out)).1; have je2 := (row2_cells (rowK (Lk.trans D2.out (Lk.trans D3.out (Lk.trans D4.out D5.out))) R1.out)).2.1
      have C7 := Lib.hid (rcmp_g HPQ.out.rg (HE_.out.lk (Lk.trans D1.out (Lk.trans D2.out (Lk.trans D3.out (Lk.trans D4.out D5.out))))) (Nat.le_trans (Nat.le_trans HPQ.out.len.1 HSZP.out) (by decide)) (Nat.le_trans (Nat.le_trans HPQ.out.len.2 HSZP.out) (by decide)) (Nat.le_trans h_m1 (by decide)) (Nat.le_trans h_n1 (by decide)) g HG.out)
      go_wp2_with fail
      refine C7.out.mono ?_
      rintro e w7 ⟨rfl, x7⟩
      clear jpaid1 jpaid2 je1 je2
      have D6 := Lib.hid (Ext.lk x7)
      have EX6 := Lib.hid (EX5.out.trans x7)
      clear x7
      clear C7
      have jpaid1 := (row2_cells (rowK D6.out HRB.out)).1; have jpaid2 := (row2_cells (rowK D6.out HRB.out)).2.1
      have jq := drow_cell (rowK (Lk.trans D3.out (Lk.trans D4.out (Lk.trans D5.out D6.out))) R2.out)
      have C8 := Lib.hid (fits_as (r := true) (lfits_calls (HPQ.out.lk D6.out).rg (Nat.le_trans (HPQ.out.lk D6.out).len.1 HSZP.out) (Nat.le_trans (HPQ.out.lk D6.out).len.2 HSZP.out) HN.out (HQ_.out.lk (Lk.trans D1.out (Lk.trans D2.out (Lk.trans D3.out (Lk.trans D4.out (Lk.trans D5.out D6.out)))))) (Nat.le_trans h_m0 (by decide)) (p := (P : Int)) (k := (K : Int)) (P := P) (K := K) (by omega) (by omega) (by omega) (by omega) (HTZ.out.lk (Lk.trans D1.out (Lk.trans D2.out (Lk.trans D3.out (Lk.trans D4.out (Lk.trans D5.out D6.out))))))) HSELF.out)
      go_wp2_with fail
      refine C8.out.mono ?_
      rintro e w8 ⟨rfl, x8⟩
      clear jpaid1 jpaid2 jq
      have D7 := Lib.hid (Ext.lk x8)
      have EX7 := Lib.hid (EX6.out.trans x8)
      clear x8
      clear C8
      have jpaid1 := (row2_cells (rowK (Lk.trans D6.out D7.out) HRB.out)).1; have jpaid2 := (row2_cells (rowK (Lk.trans D6.out D7.out) HRB.out)).2.1
      have jq := drow_cell (rowK (Lk.trans D3.out (Lk.trans D4.out (Lk.trans D5.out (Lk.trans D6.out D7.out)))) R2.out)
      have C9 := Lib.hid (fits_as (r := true) (lfits_calls (HPQ.out.lk (Lk.trans D6.out D7.out)).rg (Nat.le_trans (HPQ.out.lk (Lk.trans D6.out D7.out)).len.1 HSZP.out) (Nat.le_trans (HPQ.out.lk (Lk.trans D6.out D7.out)).len.2 HSZP.out) HN.out (HQ_.out.lk (Lk.trans D1.out (Lk.trans D2.out (Lk.trans D3.out (Lk.trans D4.out (Lk.trans D5.out (Lk.trans D6.out D7.out))))))) (Nat.le_trans h_m0 (by decide)) (p := 0) (k := 0) (P := 0) (K := 0) (by omega) (by omega) (by omega) (by omega) (HTZ.out.lk (Lk.trans D1.out (Lk.trans D2.out (Lk.trans D3.out (Lk.trans D4.out (Lk.trans D5.out (Lk.trans D6.out D7.out)))))))) HSELF0.out)
      go_wp2_with fail
      refine C9.out.mono ?_
      rintro e w9 ⟨rfl, x9⟩
      clear jpaid1 jpaid2 jq
      have D8 := Lib.hid (Ext.lk x9)
      have EX8 := Lib.hid (EX7.out.trans x9)
      clear x9
      clear C9
      go_wp2_with fail
      go_ret
      exact ⟨rfl, EX8.out⟩
    | false =>
      have HLE := Lib.hid hle
      clear hle
      obtain ⟨g, hg⟩ : ∃ g, cmpN (dN (decQ Y).1 (decQ Y).2 * dD eq.2) (dN eq.1 eq.2 * dD (decQ Y).2) = g := ⟨_, rfl⟩
      have hgd := leQ_cmp (decQ Y) eq
      rw [hg, HLE.out] at hgd
      have HG := Lib.hid hg; clear hg
      have hg0 : (0 : Int) < g := by have := of_decide_eq_false hgd; omega
      clear hgd
      have jpaid1 := (row2_cells HRB.out).1; have jpaid2 := (row2_cells HRB.out).2.1
      have je1 := (row2_cells (rowK (Lk.trans D2.out (Lk.trans D3.out (Lk.trans D4.out D5.out))) R1.out)).1; have je2 := (row2_cells (rowK (Lk.trans D2.out (Lk.trans D3.out (Lk.trans D4.out D5.out))) R1.out)).2.1
      have C7 := Lib.hid (rcmp_g HPQ.out.rg (HE_.out.lk (Lk.trans D1.out (Lk.trans D2.out (Lk.trans D3.out (Lk.trans D4.out D5.out))))) (Nat.le_trans (Nat.le_trans HPQ.out.len.1 HSZP.out) (by decide)) (Nat.le_trans (Nat.le_trans HPQ.out.len.2 HSZP.out) (by decide)) (Nat.le_trans h_m1 (by decide)) (Nat.le_trans h_n1 (by decide)) g HG.out)
      go_wp2_with fail
      refine C7.out.mono ?_
      rintro e w7 ⟨rfl, x7⟩
      clear jpaid1 jpaid2 je1 je2
      have D6 := Lib.hid (Ext.lk x7)
      have EX6 := Lib.hid (EX5.out.trans x7)
      clear x7
      clear C7
      have jpaid1 := (row2_cells (rowK D6.out HRB.out)).1; have jpaid2 := (row2_cells (rowK D6.out HRB.out)).2.1
      have jq := drow_cell (rowK (Lk.trans D3.out (Lk.trans D4.out (Lk.trans D5.out D6.out))) R2.out)
      have C8 := Lib.hid (fits_as (r := true) (lfits_calls (HPQ.out.lk D6.out).rg (Nat.le_trans (HPQ.out.lk D6.out).len.1 HSZP.out) (Nat.le_trans (HPQ.out.lk D6.out).len.2 HSZP.out) HN.out (HQ_.out.lk (Lk.trans D1.out (Lk.trans D2.out (Lk.trans D3.out (Lk.trans D4.out (Lk.trans D5.out D6.out)))))) (Nat.le_trans h_m0 (by decide)) (p := (P : Int)) (k := (K : Int)) (P := P) (K := K) (by omega) (by omega) (by omega) (by omega) (HTZ.out.lk (Lk.trans D1.out (Lk.trans D2.out (Lk.trans D3.out (Lk.trans D4.out (Lk.trans D5.out D6.out))))))) HSELF.out)
      go_wp2_with fail
      refine C8.out.mono ?_
      rintro e w8 ⟨rfl, x8⟩
      clear jpaid1 jpaid2 jq
      have D7 := Lib.hid (Ext.lk x8)
      have EX7 := Lib.hid (EX6.out.trans x8)
      clear x8
      clear C8
      have jpaid1 := (row2_cells (rowK (Lk.trans D6.out D7.out) HRB.out)).1; have jpaid2 := (row2_cells (rowK (Lk.trans D6.out D7.out) HRB.out)).2.1
      have jq := drow_cell (rowK (Lk.trans D3.out (Lk.trans D4.out (Lk.trans D5.out (Lk.trans D6.out D7.out)))) R2.out)
      have C9 := Lib.hid (fits_as (r := true) (lfits_calls (HPQ.out.lk (Lk.trans D6.out D7.out)).rg (Nat.le_trans (HPQ.out.lk (Lk.trans D6.out D7.out)).len.1 HSZP.out) (Nat.le_trans (HPQ.out.lk (Lk.trans D6.out D7.out)).len.2 HSZP.out) HN.out (HQ_.out.lk (Lk.trans D1.out (Lk.trans D2.out (Lk.trans D3.out (Lk.trans D4.out (Lk.trans D5.out (Lk.trans D6.out D7.out))))))) (Nat.le_trans h_m0 (by decide)) (p := 0) (k := 0) (P := 0) (K := 0) (by omega) (by omega) (by omega) (by omega) (HTZ.out.lk (Lk.trans D1.out (Lk.trans D2.out (Lk.trans D3.out (Lk.trans D4.out (Lk.trans D5.out (Lk.trans D6.out D7.out)))))))) HSELF0.out)
      go_wp2_with fail
      refine C9.out.mono ?_
      rintro e w9 ⟨rfl, x9⟩
      clear jpaid1 jpaid2 jq
      have D8 := Lib.hid (Ext.lk x9)
      have EX8 := Lib.hid (EX7.out.trans x9)
      clear x9
      clear C9
      go_wp2_with fail
      go_ret
      exact ⟨rfl, EX8.out⟩

end Go.Proofs.YtimcnhlcepemjaaGreatDoor
