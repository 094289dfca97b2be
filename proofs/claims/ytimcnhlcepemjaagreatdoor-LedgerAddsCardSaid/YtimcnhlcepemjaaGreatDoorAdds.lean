/- gleanlaw24.LedgerAdds: the walk. -/
import Derived.Test.YtimcnhlcepemjaaGreatDoorAdM
namespace Go.Proofs.YtimcnhlcepemjaaGreatDoor
open Go.RowKit Go.Lib

def AdRel (w W : World) (b1 b2 ns : Nat) (ML MM : Stakes) (iv : Value) (wr : World) : Prop :=
  ∃ k : Nat, k ≤ ns ∧ iv = .int .u64 (k : Int) ∧ Led wr b1 (ns + 1) ML ∧ Led wr b2 (ns + 1) MM ∧ Lk W wr ∧ Ext w wr

set_option maxHeartbeats 16000000 in
set_option maxRecDepth 100000 in
theorem ladds_law {sa a0 a1 a2 : Option Addr} {ns cs m0 c0 m1 c1 m2 c2 : Nat} {vs : List (Option Addr × Nat × Nat)} {xs : List (List Nat)} {ys ya yb : List Nat} {w : World} (hs : Decs w sa ns cs vs xs) (h0 : Sl w a0 m0 c0 ys) (h1 : Sl w a1 m1 c1 ya) (h2 : Sl w a2 m2 c2 yb) {t mid after : Nat} (ht : t < B64) (hmid : mid < B64) (haf : after < B64) (htz : TzTab w) (hM : MaxL w) :
    Calls Tryz.prog 6 #[.slice sa ns cs, DecV a0 m0 c0, DecV a1 m1 c1, DecV a2 m2 c2, .int .u64 (t : Int), .int .u64 (mid : Int), .int .u64 (after : Int)] w (RetE (.bool true) w) := by
  obtain ⟨i0, hi, hs1⟩ := dec_info
  have H1 := Lib.hid hi; have H3 := Lib.hid hs1
  have HXS := Lib.hid hs; have HQ_ := Lib.hid h0; have HA_ := Lib.hid h1; have HB_ := Lib.hid h2; have HT := Lib.hid ht; have HMID := Lib.hid hmid; have HAF := Lib.hid haf; have HTZ := Lib.hid htz; have HM := Lib.hid hM
  clear hi hs1 hs h0 h1 h2 ht hmid haf htz hM
  go_enter Tryz.func6, Tryz.ntmps6
  obtain ⟨V1, hV⟩ : ∃ V, w.alloc (.cells #[.slice a0 m0 c0] 35) = V := ⟨_, rfl⟩
  have R1 := Lib.hid (show V1.heap[w.heap.size]? = some (.cells #[.slice a0 m0 c0] 35 (0, 0)) by rw [← hV]; exact heap_alloc_new w _)
  have x1 : Ext w V1 := by rw [← hV]; exact (Ext.refl _).alloc _
  have HV1 := Lib.hid hV
  clear hV
  have D1 := Lib.hid (Ext.lk x1)
  have EX1 := Lib.hid (Ext.trans (Ext.refl _) x1)
  clear x1
  obtain ⟨V2, hV⟩ : ∃ V, V1.alloc (.cells #[.slice a1 m1 c1] 35) = V := ⟨_, rfl⟩
  have R2 := Lib.hid (show V2.heap[V1.heap.size]? = some (.cells #[.slice a1 m1 c1] 35 (0, 0)) by rw [← hV]; exact heap_alloc_new V1 _)
  have x2 : Ext V1 V2 := by rw [← hV]; exact (Ext.refl _).alloc _
  have HV2 := Lib.hid hV
  clear hV
  have D2 := Lib.hid (Ext.lk x2)
  have EX2 := Lib.hid (Ext.trans EX1.out x2)
  clear x2
  obtain ⟨V3, hV⟩ : ∃ V, V2.alloc (.cells #[.slice a2 m2 c2] 35) = V := ⟨_, rfl⟩
  have R3 := Lib.hid (show V3.heap[V2.heap.size]? = some (.cells #[.slice a2 m2 c2] 35 (0, 0)) by rw [← hV]; exact heap_alloc_new V2 _)
  have x3 : Ext V2 V3 := by rw [← hV]; exact (Ext.refl _).alloc _
  have HV3 := Lib.hid hV
  clear hV
  have D3 := Lib.hid (Ext.lk x3)
  have EX3 := Lib.hid (Ext.trans EX2.out x3)
  clear x3
  have C4 := Lib.hid (knownL_calls V3 (HTZ.out.lk (Lk.trans D1.out (Lk.trans D2.out D3.out))) (HM.out.lk (Lk.trans D1.out (Lk.trans D2.out D3.out))))
  go_wp2_with (first | rw [HV1.out] | rw [HV2.out] | rw [HV3.out])
  refine C4.out.mono ?_
  rintro e w4 ⟨rfl, x4⟩
  have D4 := Lib.hid (Ext.lk x4)
  have EX4 := Lib.hid (Ext.trans EX3.out x4)
  clear x4
  clear C4
  by_cases h_ns : ns ≤ 12
  rotate_left
  · have g_ns : (12 : Int) < (ns : Int) := by omega
    have jq := drow_cell (rowK (Lk.trans D2.out (Lk.trans D3.out D4.out)) R1.out)
    have ja := drow_cell (rowK (Lk.trans D3.out D4.out) R2.out)
    have jb := drow_cell (rowK D4.out R3.out)
    go_wp2_with fail
    go_ret
    exact ⟨rfl, EX4.out⟩
  have g_ns : ¬ (12 : Int) < (ns : Int) := by omega
  by_cases h_m0 : m0 ≤ 4
  rotate_left
  · have g_m0 : (4 : Int) < (m0 : Int) := by omega
    have jq := drow_cell (rowK (Lk.trans D2.out (Lk.trans D3.out D4.out)) R1.out)
    have ja := drow_cell (rowK (Lk.trans D3.out D4.out) R2.out)
    have jb := drow_cell (rowK D4.out R3.out)
    go_wp2_with fail
    go_ret
    exact ⟨rfl, EX4.out⟩
  have g_m0 : ¬ (4 : Int) < (m0 : Int) := by omega
  by_cases h_m1 : m1 ≤ 4
  rotate_left
  · have g_m1 : (4 : Int) < (m1 : Int) := by omega
    have jq := drow_cell (rowK (Lk.trans D2.out (Lk.trans D3.out D4.out)) R1.out)
    have ja := drow_cell (rowK (Lk.trans D3.out D4.out) R2.out)
    have jb := drow_cell (rowK D4.out R3.out)
    go_wp2_with fail
    go_ret
    exact ⟨rfl, EX4.out⟩
  have g_m1 : ¬ (4 : Int) < (m1 : Int) := by omega
  by_cases h_m2 : m2 ≤ 4
  rotate_left
  · have g_m2 : (4 : Int) < (m2 : Int) := by omega
    have jq := drow_cell (rowK (Lk.trans D2.out (Lk.trans D3.out D4.out)) R1.out)
    have ja := drow_cell (rowK (Lk.trans D3.out D4.out) R2.out)
    have jb := drow_cell (rowK D4.out R3.out)
    go_wp2_with fail
    go_ret
    exact ⟨rfl, EX4.out⟩
  have g_m2 : ¬ (4 : Int) < (m2 : Int) := by omega
  by_cases h_z : mid = 0
  · have g_z : ((mid : Int) == 0) = true := by simp [h_z]
    have g_z2 : (mid : Int) = 0 := by omega
    clear h_z
    have jq := drow_cell (rowK (Lk.trans D2.out (Lk.trans D3.out D4.out)) R1.out)
    have ja := drow_cell (rowK (Lk.trans D3.out D4.out) R2.out)
    have jb := drow_cell (rowK D4.out R3.out)
    go_wp2_with fail
    go_ret
    exact ⟨rfl, EX4.out⟩
  have g_z : ((mid : Int) == 0) = false := by rw [beq_eq_false_iff_ne]; omega
  have g_z2 : ¬ ((mid : Int) = 0) := by omega
  have jq := drow_cell (rowK (Lk.trans D2.out (Lk.trans D3.out D4.out)) R1.out)
  have ja := drow_cell (rowK (Lk.trans D3.out D4.out) R2.out)
  have jb := drow_cell (rowK D4.out R3.out)
  go_wp2_with fail
  go_loopw [15] (fun iv wr => PreRel w4 ns 4 vs iv wr) (fun iv _ => ns - (RowKit.intOf iv).toNat)
  case atStart => exact ⟨0, Nat.zero_le _, rfl, fun i v hi => absurd hi (by omega), rfl⟩
  case round =>
    obtain ⟨k, hk, rfl, hpre, rfl⟩ := hrel
    have HPRE := Lib.hid hpre; clear hpre
    by_cases hkn : k = ns
    rotate_left
    · skip
      have hlt : (k : Int) < (ns : Int) := by omega
      obtain ⟨v, hv⟩ : ∃ v, vs[k]? = some v := ⟨_, List.getElem?_eq_getElem (by rw [HXS.out.sl.len]; omega)⟩
      obtain ⟨ba, oa, hixa, hca⟩ := (HXS.out.sl.lk (Lk.trans D1.out (Lk.trans D2.out (Lk.trans D3.out D4.out)))).ix (P := Tryz.prog) Tryz.underlying55 H1.out H3.out
      have x1 := hixa k (by omega); have x2 := hca k v hv; have HV := Lib.hid hv; clear hixa hca hv
      obtain ⟨v1, v2, v3⟩ := v
      simp only at x2
      by_cases h4 : v2 ≤ 4
      · skip
        have HN := Lib.hid (show ∀ i v, i < k + 1 → vs[i]? = some v → v.2.1 ≤ 4 from fun i v hi hv => by
          by_cases e : i = k
          · subst e; rw [HV.out] at hv; cases hv; exact h4
          · exact HPRE.out i v (by omega) hv)
        have g1 : ¬ ((4 : Int) < (v2 : Int)) := by omega
        go_wp2_with fail
        go_roundw
        case rel => exact ⟨k + 1, by omega, by go_num, HN.out, rfl⟩
        case measure => simp only [RowKit.intOf]; omega
      · skip
        have g1 : ((4 : Int) < (v2 : Int)) := by omega
        go_wp2_with fail
        go_ret
        exact ⟨rfl, EX4.out⟩
    have HPREA := Lib.hid (show ∀ i v, i < ns → vs[i]? = some v → v.2.1 ≤ 4 by rw [← hkn]; exact HPRE.out); clear HPRE
    have hgeA : ¬ ((k : Int) < (ns : Int)) := by omega
    have HKNA := Lib.hid hkn; clear hkn hk
    clear jq ja jb
    have HTW := Lib.hid (HTZ.out.lk (Lk.trans D1.out (Lk.trans D2.out (Lk.trans D3.out D4.out)))); have HX0 := Lib.hid EX4.out; have HXW := Lib.hid (HXS.out.lk (Lk.trans D1.out (Lk.trans D2.out (Lk.trans D3.out D4.out)))); have HQW := Lib.hid (HQ_.out.lk (Lk.trans D1.out (Lk.trans D2.out (Lk.trans D3.out D4.out)))); have HRQ := Lib.hid (rowK (Lk.trans D2.out (Lk.trans D3.out D4.out)) R1.out); have HAW := Lib.hid (HA_.out.lk (Lk.trans D1.out (Lk.trans D2.out (Lk.trans D3.out D4.out)))); have HRA := Lib.hid (rowK (Lk.trans D3.out D4.out) R2.out); have HBW := Lib.hid (HB_.out.lk (Lk.trans D1.out (Lk.trans D2.out (Lk.trans D3.out D4.out)))); have HRB := Lib.hid (rowK D4.out R3.out)
    have HNS := Lib.hid h_ns; have HM0 := Lib.hid h_m0; have HM1 := Lib.hid h_m1; have HM2 := Lib.hid h_m2; have HZ := Lib.hid h_z
    have HOI := Lib.hid (heldM_owi (S := val ys) (fun x hx => decs_ln HXS.out HPREA.out x hx) (Nat.le_trans (ln_val HQ_.out) h_m0) HT.out)
    clear g_z g_z2 h_z g_ns g_m0 h_ns h_m0 g_m1 h_m1 g_m2 h_m2
    have HS_ := Lib.hid (fun i v (hv : vs[i]? = some v) => Nat.le_trans (HPREA.out i v (by have := (List.getElem?_eq_some_iff.1 hv).1; rw [HXS.out.sl.len] at this; exact this) hv) (show 4 ≤ 1000 by decide))
    have HBC := Lib.hid (fun w' (h : Lk wr w') => (show w'.cell? ⟨w.heap.size, 0, none⟩ = some (.slice a0 m0 c0) from drow_cell (rowK h HRQ.out)))
    have HN1 := Lib.hid (show ns ≤ 1000 by have := HNS.out; omega)
    go_wp2_with fail
    go_region_held3 (fun w' => w'.cell? ⟨w.heap.size, 0, none⟩ = some (.slice a0 m0 c0))
      (first | exact HBC.out _ (Ext.refl _).drew.lk | exact HBC.out _ (by assumption))
      (first
        | (go_at_call 38; refine (held_calls (HXW.out.lk kA) HN1.out HS_.out (HQW.out.lk kA) (Nat.le_trans HM0.out (by decide)) HT.out (HTW.out.lk kA)).mono ?_; rintro e uB ⟨pB, bB, rfl, hB, qB, zB, xB⟩; have kB : Lk wr uB := Lk.trans kA xB.lk)
        | (go_at_call 38; refine (held_calls (HXW.out.lk (Ext.refl _).drew.lk) HN1.out HS_.out (HQW.out.lk (Ext.refl _).drew.lk) (Nat.le_trans HM0.out (by decide)) HT.out (HTW.out.lk (Ext.refl _).drew.lk)).mono ?_; rintro e uA ⟨pA, bA, rfl, hA, qA, zA, xA⟩; have kA : Lk wr uA := Ext.lk ((Ext.refl wr).drew.trans xA)))
    have HC_l := Lib.hid (xB.cell qA); have HC_m := Lib.hid qB
    have LE_l := Lib.hid (hA.old xB); have LE_m := Lib.hid hB; have hxx : Ext wr uB := ((Ext.refl wr).drew.trans xA).trans xB
    have HB_l := Lib.hid (Nat.le_trans HX0.out.size (show wr.heap.size ≤ bA from zA)); have HB_m := Lib.hid (Nat.le_trans (Nat.le_trans HX0.out.size ((Ext.refl wr).drew.trans xA).size) zB)
    have hne : bA ≠ bB := by have := hA.lt; omega
    have HNE_l_m := Lib.hid hne; have HNE_m_l := Lib.hid (Ne.symm hne)
    clear hne hA hB qA qB zA zB xA xB kA kB
    have KW := Lib.hid hxx.lk; have EX0 := Lib.hid (HX0.out.trans hxx); clear hxx
    have HTZ0 := HTZ; clear HTZ; have HTZ := Lib.hid (HTW.out.lk KW.out)
    have HQ1 := Lib.hid (HAW.out.lk KW.out); have HQ2 := Lib.hid (HBW.out.lk KW.out)
    have HR1 := Lib.hid (rowK KW.out HRA.out); have HR2 := Lib.hid (rowK KW.out HRB.out)
    obtain ⟨M0, hM0⟩ : ∃ x, heldM xs (val ys) t = x := ⟨_, rfl⟩
    have HOJ := HOI.out; have H17 : One17 M0 0 0 := by rw [← hM0]; exact heldM_17 _ _ _
    rw [hM0, HXS.out.len] at HOJ; rw [hM0] at LE_l LE_m
    have H17 := Lib.hid H17; have HOJ := Lib.hid HOJ; have HNB := Lib.hid (show ns + 1 ≤ 1000000 by have := HNS.out; omega); have HNB2 := Lib.hid (show (ns + 1) * (500 + 1) ≤ 90000 by have := HNS.out; omega); clear HOI hM0
    obtain ⟨A, hA⟩ : ∃ x, val ya = x := ⟨_, rfl⟩
    obtain ⟨B, hB⟩ : ∃ x, val yb = x := ⟨_, rfl⟩
    have hlA : ln A ≤ 4 := by rw [← hA]; exact Nat.le_trans (ln_val HA_.out) HM1.out
    have hlB : ln B ≤ 4 := by rw [← hB]; exact Nat.le_trans (ln_val HB_.out) HM2.out
    have HZA := Lib.hid (sz_share (t := t) hlA HT.out); have HZB := Lib.hid (sz_share (t := t) hlB HT.out); have HZC := Lib.hid (sz_share (t := t) (show ln (A + B) ≤ 5 by have := ln_add A B; omega) HT.out)
    have HA := Lib.hid hA; have HBB := Lib.hid hB; clear hA hB hlA hlB
    have HO0 := Lib.hid HOJ.out.okI
    have HO1 := Lib.hid (HO0.out.give _ HZA.out); have HO2 := Lib.hid (HO1.out.give _ HZB.out); have HO3 := Lib.hid (HO0.out.give _ HZC.out)
    have HO4 := Lib.hid (HO2.out.cut _ (sz_part HT.out HMID.out)); have HO5 := Lib.hid (HO4.out.cut _ (sz_part HMID.out HAF.out)); have HO6 := Lib.hid (HO3.out.cut _ (sz_part HT.out HAF.out))
    have ja := drow_cell HR1.out
    have C41 := Lib.hid (lgive_calls (H := 100) (O := 100) LE_l.out HNB.out HC_l.out (v := 16) (by decide) HQ1.out (Nat.le_trans HM1.out (by decide)) HT.out HTZ.out (by decide) (by decide) (fun d s h => (HO0.out.ok d s h).mono (by decide) (by decide)))
    go_wp2_with fail
    refine C41.out.mono ?_
    rintro e w41 ⟨rfl, h41, g41⟩
    clear ja
    rw [HA.out] at h41
    have D1 := Lib.hid (LE_l.out.isMapB.lk g41)
    have EX1 := Lib.hid (Ext.mx EX0.out HB_l.out g41)
    have LE1_m := Lib.hid (LE_m.out.other LE_l.out.isMapB g41 HNE_m_l.out)
    have LE1_l := Lib.hid h41
    clear g41 h41
    clear C41
    have jb := drow_cell (rowK D1.out HR2.out)
    have C42 := Lib.hid (lgive_calls (H := 100) (O := 100) LE1_l.out HNB.out (D1.out.cell HC_l.out) (v := 16) (by decide) (HQ2.out.lk D1.out) (Nat.le_trans HM2.out (by decide)) HT.out (HTZ.out.lk D1.out) (by decide) (by decide) (fun d s h => (HO1.out.ok d s h).mono (by decide) (by decide)))
    go_wp2_with fail
    refine C42.out.mono ?_
    rintro e w42 ⟨rfl, h42, g42⟩
    clear jb
    rw [HBB.out] at h42
    have D2 := Lib.hid (LE1_l.out.isMapB.lk g42)
    have EX2 := Lib.hid (Ext.mx EX1.out HB_l.out g42)
    have LE2_m := Lib.hid (LE1_m.out.other LE1_l.out.isMapB g42 HNE_m_l.out)
    have LE2_l := Lib.hid h42
    clear g42 h42
    clear C42
    have ja := drow_cell (rowK (Lk.trans D1.out D2.out) HR1.out)
    have jb := drow_cell (rowK (Lk.trans D1.out D2.out) HR2.out)
    have HMS := Lib.hid (show m1 ≤ 900000000 ∧ m2 ≤ 900000000 by have := HM1.out; have := HM2.out; omega)
    have C43 := Lib.hid (dadd_calls (HQ1.out.lk (Lk.trans D1.out D2.out)) (HQ2.out.lk (Lk.trans D1.out D2.out)) HMS.out.1 HMS.out.2)
    go_wp2_with fail
    refine C43.out.mono ?_
    rintro e w43 ⟨p43, n43, c43, rfl, o43, x43, l43⟩
    clear ja jb
    have S43 := Lib.hid o43.sl
    clear o43
    have D3 := Lib.hid (Ext.lk x43)
    have EX3 := Lib.hid (Ext.trans EX2.out x43)
    have LE3_l := Lib.hid (LE2_l.out.old x43)
    have LE3_m := Lib.hid (LE2_m.out.old x43)
    clear x43
    clear C43
    have HLS := Lib.hid (show n43 ≤ 1000 by have := HM1.out; have := HM2.out; omega)
    have C44 := Lib.hid (lgive_calls (H := 100) (O := 100) LE3_m.out HNB.out ((Lk.trans D1.out (Lk.trans D2.out D3.out)).cell HC_m.out) (v := 16) (by decide) S43.out (Nat.le_trans HLS.out (by decide)) HT.out (HTZ.out.lk (Lk.trans D1.out (Lk.trans D2.out D3.out))) (by decide) (by decide) (fun d s h => (HO0.out.ok d s h).mono (by decide) (by decide)))
    go_wp2_with fail
    refine C44.out.mono ?_
    rintro e w44 ⟨rfl, h44, g44⟩
    rw [val_lim, HA.out, HBB.out] at h44
    have D4 := Lib.hid (LE3_m.out.isMapB.lk g44)
    have EX4 := Lib.hid (Ext.mx EX3.out HB_m.out g44)
    have LE4_l := Lib.hid (LE3_l.out.other LE3_m.out.isMapB g44 HNE_l_m.out)
    have LE4_m := Lib.hid h44
    clear g44 h44
    clear C44
    have C45 := Lib.hid (lcut_calls (H := 100) (O := 100) LE4_l.out HNB.out ((Lk.trans D1.out (Lk.trans D2.out (Lk.trans D3.out D4.out))).cell HC_l.out) (v := 16) (by decide) (t := t) (u := mid) HT.out HMID.out (HTZ.out.lk (Lk.trans D1.out (Lk.trans D2.out (Lk.trans D3.out D4.out)))) (by decide) (fun d s h => (HO2.out.ok d s h).mono (by decide) (by decide)))
    go_wp2_with fail
    refine C45.out.mono ?_
    rintro e w45 ⟨rfl, h45, g45⟩
    have D5 := Lib.hid (LE4_l.out.isMapB.lk g45)
    have EX5 := Lib.hid (Ext.mx EX4.out HB_l.out g45)
    have LE5_m := Lib.hid (LE4_m.out.other LE4_l.out.isMapB g45 HNE_m_l.out)
    have LE5_l := Lib.hid h45
    clear g45 h45
    clear C45
    have C46 := Lib.hid (lcut_calls (H := 100) (O := 100) LE5_l.out HNB.out ((Lk.trans D1.out (Lk.trans D2.out (Lk.trans D3.out (Lk.trans D4.out D5.out)))).cell HC_l.out) (v := 16) (by decide) (t := mid) (u := after) HMID.out HAF.out (HTZ.out.lk (Lk.trans D1.out (Lk.trans D2.out (Lk.trans D3.out (Lk.trans D4.out D5.out))))) (by decide) (fun d s h => (HO4.out.ok d s h).mono (by decide) (by decide)))
    go_wp2_with fail
    refine C46.out.mono ?_
    rintro e w46 ⟨rfl, h46, g46⟩
    have D6 := Lib.hid (LE5_l.out.isMapB.lk g46)
    have EX6 := Lib.hid (Ext.mx EX5.out HB_l.out g46)
    have LE6_m := Lib.hid (LE5_m.out.other LE5_l.out.isMapB g46 HNE_m_l.out)
    have LE6_l := Lib.hid h46
    clear g46 h46
    clear C46
    have C47 := Lib.hid (lcut_calls (H := 100) (O := 100) LE6_m.out HNB.out ((Lk.trans D1.out (Lk.trans D2.out (Lk.trans D3.out (Lk.trans D4.out (Lk.trans D5.out D6.out))))).cell HC_m.out) (v := 16) (by decide) (t := t) (u := after) HT.out HAF.out (HTZ.out.lk (Lk.trans D1.out (Lk.trans D2.out (Lk.trans D3.out (Lk.trans D4.out (Lk.trans D5.out D6.out)))))) (by decide) (fun d s h => (HO3.out.ok d s h).mono (by decide) (by decide)))
    go_wp2_with fail
    refine C47.out.mono ?_
    rintro e w47 ⟨rfl, h47, g47⟩
    have D7 := Lib.hid (LE6_m.out.isMapB.lk g47)
    have EX7 := Lib.hid (Ext.mx EX6.out HB_m.out g47)
    have LE7_l := Lib.hid (LE6_l.out.other LE6_m.out.isMapB g47 HNE_l_m.out)
    have LE7_m := Lib.hid h47
    clear g47 h47
    clear C47
    obtain ⟨M3, qO, hall⟩ := ad_all HOJ.out H17.out HNS.out HZ.out (HO5.out.mono (by decide) (by decide)) (HO6.out.mono (by decide) (by decide))
    have LL := Lib.hid (show Led w47 bA (ns + 1) (MlA M0 A B t mid after) from LE7_l.out); have LM := Lib.hid (show Led w47 bB (ns + 1) (MmA M0 A B t after) from LE7_m.out)
    have CLL := Lib.hid ((Lk.trans D1.out (Lk.trans D2.out (Lk.trans D3.out (Lk.trans D4.out (Lk.trans D5.out (Lk.trans D6.out D7.out)))))).cell HC_l.out); have CLM := Lib.hid ((Lk.trans D1.out (Lk.trans D2.out (Lk.trans D3.out (Lk.trans D4.out (Lk.trans D5.out (Lk.trans D6.out D7.out)))))).cell HC_m.out); have TZ2 := Lib.hid (HTZ.out.lk (Lk.trans D1.out (Lk.trans D2.out (Lk.trans D3.out (Lk.trans D4.out (Lk.trans D5.out (Lk.trans D6.out D7.out))))))); have EX2 := Lib.hid EX7.out
    obtain ⟨ML, hML⟩ : ∃ x, MlA M0 A B t mid after = x := ⟨_, rfl⟩
    obtain ⟨MM, hMM⟩ : ∃ x, MmA M0 A B t after = x := ⟨_, rfl⟩
    rw [hML, hMM] at hall; rw [hML] at LL; rw [hMM] at LM
    have HALL := Lib.hid hall; clear hall hML hMM HO0 HO1 HO2 HO3 HO4 HO5 HO6 HOJ H17
    clear D1 D2 D3 D4 D5 D6 D7 LE1_l LE1_m LE2_l LE2_m LE3_l LE3_m LE4_l LE4_m LE5_l LE5_m LE6_l LE6_m LE7_l LE7_m
    have HST := Lib.hid (show AdRel w w47 bA bB ns ML MM (.int .u64 0) w47 from ⟨0, Nat.zero_le _, rfl, LL.out, LM.out, Lk.refl _, EX2.out⟩)
    have hwn : IntKind.u64.wrap (ns : Int) = (ns : Int) := IntWalk.u64_in _ (by have := HNS.out; omega)
    go_wp2_with fail
    go_loopw [18] (fun iv wr => AdRel w w47 bA bB ns ML MM iv wr) (fun iv _ => ns - (RowKit.intOf iv).toNat)
    case atStart => exact HST.out
    case round =>
      obtain ⟨j, hj, rfl, hl, hm, hk2, hx2⟩ := hrel
      have HLL := Lib.hid hl; have HLM := Lib.hid hm; have HK2 := Lib.hid hk2; have EX0 := Lib.hid hx2; have HTZ := Lib.hid (TZ2.out.lk hk2); have HPL := Lib.hid (hk2.cell CLL.out); have HPM := Lib.hid (hk2.cell CLM.out)
      clear hl hm hk2 hx2
      by_cases hjn : j = ns
      rotate_left
      · skip
        have hlt : (j : Int) < (ns : Int) := by omega
        have HJ := Lib.hid (show j < ns by omega); have HJB := Lib.hid (show j < B64 by have := HNS.out; have := B64_eq; omega)
        have C71 := Lib.hid (lowed_calls HLL.out HPL.out (v := 16) (d := j) (by decide) HJB.out (Nat.le_trans (HALL.out.szl j).1 (by decide)) HTZ.out)
        go_wp2_with fail
        refine C71.out.mono ?_
        rintro e w71 ⟨a71, n71, c71, b71, m71, d71, rfl, r71, h71, g71⟩
        have S71 := Lib.hid r71; clear r71
        have D1 := Lib.hid (HLL.out.isMapB.lk g71)
        have EX1 := Lib.hid (Ext.mx EX0.out HB_l.out g71)
        have LE1_m := Lib.hid (HLM.out.other HLL.out.isMapB g71 HNE_m_l.out)
        have LE1_l := Lib.hid h71
        clear g71 h71
        clear C71
        have C72 := Lib.hid (lowed_calls LE1_m.out (D1.out.cell HPM.out) (v := 16) (d := j) (by decide) HJB.out (Nat.le_trans (HALL.out.szm j).1 (by decide)) (HTZ.out.lk D1.out))
        go_wp2_with fail
        refine C72.out.mono ?_
        rintro e w72 ⟨a72, n72, c72, b72, m72, d72, rfl, r72, h72, g72⟩
        have S72 := Lib.hid r72; clear r72
        have D2 := Lib.hid (LE1_m.out.isMapB.lk g72)
        have EX2 := Lib.hid (Ext.mx EX1.out HB_m.out g72)
        have LE2_l := Lib.hid (LE1_l.out.other LE1_m.out.isMapB g72 HNE_l_m.out)
        have LE2_m := Lib.hid h72
        clear g72 h72
        clear C72
        have C73 := Lib.hid (hrat_q (S71.out.lk D2.out) S72.out (Nat.le_trans (sz_can _) (Nat.le_trans (Nat.add_le_add_right (HALL.out.szl j).1 2) (by decide))) (Nat.le_trans (sz_can _) (Nat.le_trans (Nat.add_le_add_right (HALL.out.szm j).1 2) (by decide))) true (decide_eq_true (HALL.out.owed j HJ.out)))
        go_wp2_with fail
        refine C73.out.mono ?_
        rintro e w73 ⟨rfl, x73⟩
        have D3 := Lib.hid (Ext.lk x73)
        have EX3 := Lib.hid (Ext.trans EX2.out x73)
        have LE3_l := Lib.hid (LE2_l.out.old x73)
        have LE3_m := Lib.hid (LE2_m.out.old x73)
        clear x73
        clear C73
        have C74 := Lib.hid (lstake_calls LE3_l.out ((Lk.trans D1.out (Lk.trans D2.out D3.out)).cell HPL.out) (v := 16) (d := j) (by decide) HJB.out (Nat.le_trans (HALL.out.szl j).2 (by decide)) (HTZ.out.lk (Lk.trans D1.out (Lk.trans D2.out D3.out))))
        go_wp2_with fail
        refine C74.out.mono ?_
        rintro e w74 ⟨a74, n74, c74, b74, m74, d74, rfl, r74, h74, g74⟩
        have S74 := Lib.hid r74; clear r74
        have D4 := Lib.hid (LE3_l.out.isMapB.lk g74)
        have EX4 := Lib.hid (Ext.mx EX3.out HB_l.out g74)
        have LE4_m := Lib.hid (LE3_m.out.other LE3_l.out.isMapB g74 HNE_m_l.out)
        have LE4_l := Lib.hid h74
        clear g74 h74
        clear C74
        have C75 := Lib.hid (lstake_calls LE4_m.out ((Lk.trans D1.out (Lk.trans D2.out (Lk.trans D3.out D4.out))).cell HPM.out) (v := 16) (d := j) (by decide) HJB.out (Nat.le_trans (HALL.out.szm j).2 (by decide)) (HTZ.out.lk (Lk.trans D1.out (Lk.trans D2.out (Lk.trans D3.out D4.out)))))
        go_wp2_with fail
        refine C75.out.mono ?_
        rintro e w75 ⟨a75, n75, c75, b75, m75, d75, rfl, r75, h75, g75⟩
        have S75 := Lib.hid r75; clear r75
        have D5 := Lib.hid (LE4_m.out.isMapB.lk g75)
        have EX5 := Lib.hid (Ext.mx EX4.out HB_m.out g75)
        have LE5_l := Lib.hid (LE4_l.out.other LE4_m.out.isMapB g75 HNE_l_m.out)
        have LE5_m := Lib.hid h75
        clear g75 h75
        clear C75
        have C76 := Lib.hid (hrat_q (S74.out.lk D5.out) S75.out (Nat.le_trans (sz_can _) (Nat.le_trans (Nat.add_le_add_right (HALL.out.szl j).2 2) (by decide))) (Nat.le_trans (sz_can _) (Nat.le_trans (Nat.add_le_add_right (HALL.out.szm j).2 2) (by decide))) true (decide_eq_true (HALL.out.stake j HJ.out)))
        go_wp2_with fail
        refine C76.out.mono ?_
        rintro e w76 ⟨rfl, x76⟩
        have D6 := Lib.hid (Ext.lk x76)
        have EX6 := Lib.hid (Ext.trans EX5.out x76)
        have LE6_l := Lib.hid (LE5_l.out.old x76)
        have LE6_m := Lib.hid (LE5_m.out.old x76)
        clear x76
        clear C76
        have HR4 := Lib.hid (And.intro LE6_l.out (And.intro LE6_m.out (And.intro (Lk.trans HK2.out (Lk.trans D1.out (Lk.trans D2.out (Lk.trans D3.out (Lk.trans D4.out (Lk.trans D5.out D6.out)))))) EX6.out)))
        go_wp2_with fail
        go_roundw
        case rel => exact ⟨j + 1, by omega, by go_num, HR4.out.1, HR4.out.2.1, HR4.out.2.2.1, HR4.out.2.2.2⟩
        case measure => simp only [RowKit.intOf]; omega
      have hge2 : ¬ ((j : Int) < (ns : Int)) := by omega
      have HJN := Lib.hid hjn; clear hjn hj
      have C71 := Lib.hid (lsettle_as HLL.out HNB.out HPL.out (v := 17) (d := 0) (by decide) (by decide) HALL.out.z HTZ.out HALL.out.m3 HALL.out.e HALL.out.p HALL.out.k)
      go_wp2_with fail
      refine C71.out.mono ?_
      rintro e w71 ⟨a71, n71, c71, b71, m71, d71, rfl, r71, h71, g71⟩
      have S71 := Lib.hid r71; clear r71
      have D1 := Lib.hid (HLL.out.isMapB.lk g71)
      have EX1 := Lib.hid (Ext.mx EX0.out HB_l.out g71)
      have LE1_m := Lib.hid (HLM.out.other HLL.out.isMapB g71 HNE_m_l.out)
      have LE1_l := Lib.hid h71
      clear g71 h71
      clear C71
      obtain ⟨V72, hV⟩ : ∃ V, w71.alloc (.cells #[.slice a71 n71 c71, .slice b71 m71 d71] 40) = V := ⟨_, rfl⟩
      have R72 := Lib.hid (show V72.heap[w71.heap.size]? = some (.cells #[.slice a71 n71 c71, .slice b71 m71 d71] 40 (0, 0)) by rw [← hV]; exact heap_alloc_new w71 _)
      have x72 : Ext w71 V72 := by rw [← hV]; exact (Ext.refl _).alloc _
      have HV72 := Lib.hid hV
      clear hV
      have D2 := Lib.hid (Ext.lk x72)
      have EX2 := Lib.hid (Ext.trans EX1.out x72)
      have LE2_l := Lib.hid (LE1_l.out.old x72)
      have LE2_m := Lib.hid (LE1_m.out.old x72)
      clear x72
      have je1 := (row2_cells R72.out).1; have je2 := (row2_cells R72.out).2.1
      have C73 := Lib.hid (rzero_q (S71.out.lk D2.out))
      go_wp2_with (rw [HV72.out])
      refine C73.out.mono ?_
      rintro e w73 ⟨rfl, x73⟩
      clear je1 je2
      have D3 := Lib.hid (Ext.lk x73)
      have EX3 := Lib.hid (Ext.trans EX2.out x73)
      have LE3_l := Lib.hid (LE2_l.out.old x73)
      have LE3_m := Lib.hid (LE2_m.out.old x73)
      clear x73
      clear C73
      have C74 := Lib.hid (lowes_as (H := 500) LE3_l.out HNB.out ((Lk.trans D1.out (Lk.trans D2.out D3.out)).cell HPL.out) (v := 16) (by decide) (HTZ.out.lk (Lk.trans D1.out (Lk.trans D2.out D3.out))) (by decide) HNB2.out (fun d s h => (HALL.out.ok3 d s h).2) (q := qO) HALL.out.ol)
      go_wp2_with fail
      refine C74.out.mono ?_
      rintro e w74 ⟨a74, n74, c74, b74, m74, d74, rfl, r74, h74, g74⟩
      have S74 := Lib.hid r74; clear r74
      have D4 := Lib.hid (LE3_l.out.isMapB.lk g74)
      have EX4 := Lib.hid (Ext.mx EX3.out HB_l.out g74)
      have LE4_m := Lib.hid (LE3_m.out.other LE3_l.out.isMapB g74 HNE_m_l.out)
      have LE4_l := Lib.hid h74
      clear g74 h74
      clear C74
      have C75 := Lib.hid (lowes_as (H := 500) LE4_m.out HNB.out ((Lk.trans D1.out (Lk.trans D2.out (Lk.trans D3.out D4.out))).cell HPM.out) (v := 16) (by decide) (HTZ.out.lk (Lk.trans D1.out (Lk.trans D2.out (Lk.trans D3.out D4.out)))) (by decide) HNB2.out (fun d s h => (HALL.out.okm d s h).2) (q := qO) HALL.out.om)
      go_wp2_with fail
      refine C75.out.mono ?_
      rintro e w75 ⟨a75, n75, c75, b75, m75, d75, rfl, r75, h75, g75⟩
      have S75 := Lib.hid r75; clear r75
      have D5 := Lib.hid (LE4_m.out.isMapB.lk g75)
      have EX5 := Lib.hid (Ext.mx EX4.out HB_m.out g75)
      have LE5_l := Lib.hid (LE4_l.out.other LE4_m.out.isMapB g75 HNE_l_m.out)
      have LE5_m := Lib.hid h75
      clear g75 h75
      clear C75
      have C76 := Lib.hid (hrat_q (S74.out.lk D5.out) S75.out (Nat.le_trans HALL.out.szo (by decide)) (Nat.le_trans HALL.out.szo (by decide)) true (decide_eq_true rfl))
      go_wp2_with fail
      refine C76.out.mono ?_
      rintro e w76 ⟨rfl, x76⟩
      have D6 := Lib.hid (Ext.lk x76)
      have EX6 := Lib.hid (Ext.trans EX5.out x76)
      have LE6_l := Lib.hid (LE5_l.out.old x76)
      have LE6_m := Lib.hid (LE5_m.out.old x76)
      clear x76
      clear C76
      have C77 := Lib.hid (lstakes_as (H := 500) LE6_l.out HNB.out ((Lk.trans D1.out (Lk.trans D2.out (Lk.trans D3.out (Lk.trans D4.out (Lk.trans D5.out D6.out))))).cell HPL.out) (v := 17) (by decide) (HTZ.out.lk (Lk.trans D1.out (Lk.trans D2.out (Lk.trans D3.out (Lk.trans D4.out (Lk.trans D5.out D6.out)))))) (by decide) HNB2.out (fun d s h => (HALL.out.one3.ok d s h).1) (q := (1, 1)) HALL.out.one3.stakes)
      go_wp2_with fail
      refine C77.out.mono ?_
      rintro e w77 ⟨a77, n77, c77, b77, m77, d77, rfl, r77, h77, g77⟩
      have S77 := Lib.hid r77; clear r77
      have D7 := Lib.hid (LE6_l.out.isMapB.lk g77)
      have EX7 := Lib.hid (Ext.mx EX6.out HB_l.out g77)
      have LE7_m := Lib.hid (LE6_m.out.other LE6_l.out.isMapB g77 HNE_m_l.out)
      have LE7_l := Lib.hid h77
      clear g77 h77
      clear C77
      have C78 := Lib.hid (frac_q 1 1 (1, 1) (by decide) (by decide) (by decide) (by decide +kernel) _ (HTZ.out.lk (Lk.trans D1.out (Lk.trans D2.out (Lk.trans D3.out (Lk.trans D4.out (Lk.trans D5.out (Lk.trans D6.out D7.out))))))))
      go_wp2_with fail
      refine C78.out.mono ?_
      rintro e w78 ⟨a78, n78, c78, b78, m78, d78, rfl, g78, h78, x78⟩
      have S78 : Hid (RA w78 a78 n78 c78 b78 m78 d78 (1, 1)) := Lib.hid ⟨g78.sl, h78.sl⟩
      clear g78 h78
      have D8 := Lib.hid (Ext.lk x78)
      have EX8 := Lib.hid (Ext.trans EX7.out x78)
      have LE8_l := Lib.hid (LE7_l.out.old x78)
      have LE8_m := Lib.hid (LE7_m.out.old x78)
      clear x78
      clear C78
      have C79 := Lib.hid (hrat_q (S77.out.lk D8.out) S78.out (Nat.le_trans sz11 (by decide)) (Nat.le_trans sz11 (by decide)) true (decide_eq_true rfl))
      go_wp2_with fail
      refine C79.out.mono ?_
      rintro e w79 ⟨rfl, x79⟩
      have D9 := Lib.hid (Ext.lk x79)
      have EX9 := Lib.hid (Ext.trans EX8.out x79)
      have LE9_l := Lib.hid (LE8_l.out.old x79)
      have LE9_m := Lib.hid (LE8_m.out.old x79)
      clear x79
      clear C79
      go_wp2_with fail
      go_ret
      exact ⟨rfl, EX9.out⟩

end Go.Proofs.YtimcnhlcepemjaaGreatDoor
