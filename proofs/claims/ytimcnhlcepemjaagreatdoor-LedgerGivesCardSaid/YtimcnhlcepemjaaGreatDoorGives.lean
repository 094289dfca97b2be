/- gleanlaw24.LedgerGives: the walk. -/
import Derived.Test.YtimcnhlcepemjaaGreatDoorGvM
namespace Go.Proofs.YtimcnhlcepemjaaGreatDoor
open Go.RowKit Go.Lib

def GvRel (w X : World) (b ns : Nat) (M : Stakes) (was : Nat → Nat × Nat) (iv : Value) (wr : World) : Prop :=
  ∃ k : Nat, k ≤ ns ∧ iv = .int .i64 (k : Int) ∧ Led wr b (ns + 1) M ∧ WasRow wr X.heap.size ns k was ∧ Lk X wr ∧ Ext w wr
def GvRel2 (w X : World) (b ns : Nat) (M : Stakes) (iv : Value) (wr : World) : Prop :=
  ∃ k : Nat, k ≤ ns ∧ iv = .int .i64 (k : Int) ∧ Led wr b (ns + 1) M ∧ Lk X wr ∧ Ext w wr

set_option maxHeartbeats 16000000 in
set_option maxRecDepth 100000 in
theorem lgives_law {sa a0 a1 : Option Addr} {ns cs m0 c0 m1 c1 : Nat} {vs : List (Option Addr × Nat × Nat)} {xs : List (List Nat)} {ys ya : List Nat} {w : World} (hs : Decs w sa ns cs vs xs) (h0 : Sl w a0 m0 c0 ys) (h1 : Sl w a1 m1 c1 ya) {t after : Nat} (ht : t < B64) (haf : after < B64) (htz : TzTab w) (hM : MaxL w) :
    Calls Tryz.prog 7 #[.slice sa ns cs, DecV a0 m0 c0, DecV a1 m1 c1, .int .u64 (t : Int), .int .u64 (after : Int)] w (RetE (.bool true) w) := by
  obtain ⟨i0, hi, hs1⟩ := dec_info
  have H1 := Lib.hid hi; have H3 := Lib.hid hs1
  have HXS := Lib.hid hs; have HQ_ := Lib.hid h0; have HA_ := Lib.hid h1; have HT := Lib.hid ht; have HAF := Lib.hid haf; have HTZ := Lib.hid htz; have HM := Lib.hid hM
  clear hi hs1 hs h0 h1 ht haf htz hM
  go_enter Tryz.func7, Tryz.ntmps7
  obtain ⟨V1, hV⟩ : ∃ V, w.alloc (.cells #[.slice a0 m0 c0] 35) = V := ⟨_, rfl⟩
  have R1 := Lib.hid (show V1.heap[w.heap.size]? = some (.cells #[.slice a0 m0 c0] 35 (0, 0)) by rw [← hV]; exact heap_alloc_new w _)
  have x1 : Ext w V1 := by rw [← hV]; exact (Ext.refl _).alloc _
  have HV1 := Lib.hid hV
  clear hV
  have D1 := Lib.hid (Ext.lk x1)
  have EX1 := Lib.hid (Ext.trans (Ext.refl _) x1)
  clear x1
  obtain ⟨V2, hV⟩ : ∃ V, V1.alloc (.cells #[.slice a1 m1 c1] 35) = V := ⟨_, rfl⟩
  have R2 := Lib.hid (show V2.heap[V1.heap.size]? = some (.cells #[.slice a1 m1 c1] 35 (0, 0)) by rw [← hV]; exact heap_alloc_new V1 _)
  have x2 : Ext V1 V2 := by rw [← hV]; exact (Ext.refl _).alloc _
  have HV2 := Lib.hid hV
  clear hV
  have D2 := Lib.hid (Ext.lk x2)
  have EX2 := Lib.hid (Ext.trans EX1.out x2)
  clear x2
  have C3 := Lib.hid (knownL_calls V2 (HTZ.out.lk (Lk.trans D1.out D2.out)) (HM.out.lk (Lk.trans D1.out D2.out)))
  go_wp2_with (first | rw [HV1.out] | rw [HV2.out])
  refine C3.out.mono ?_
  rintro e w3 ⟨rfl, x3⟩
  have D3 := Lib.hid (Ext.lk x3)
  have EX3 := Lib.hid (Ext.trans EX2.out x3)
  clear x3
  clear C3
  by_cases h_ns : ns ≤ 12
  rotate_left
  · have g_ns : (12 : Int) < (ns : Int) := by omega
    have jq := drow_cell (rowK (Lk.trans D2.out D3.out) R1.out)
    have ja := drow_cell (rowK D3.out R2.out)
    go_wp2_with fail
    go_ret
    exact ⟨rfl, EX3.out⟩
  have g_ns : ¬ (12 : Int) < (ns : Int) := by omega
  by_cases h_m0 : m0 ≤ 4
  rotate_left
  · have g_m0 : (4 : Int) < (m0 : Int) := by omega
    have jq := drow_cell (rowK (Lk.trans D2.out D3.out) R1.out)
    have ja := drow_cell (rowK D3.out R2.out)
    go_wp2_with fail
    go_ret
    exact ⟨rfl, EX3.out⟩
  have g_m0 : ¬ (4 : Int) < (m0 : Int) := by omega
  by_cases h_m1 : m1 ≤ 4
  rotate_left
  · have g_m1 : (4 : Int) < (m1 : Int) := by omega
    have jq := drow_cell (rowK (Lk.trans D2.out D3.out) R1.out)
    have ja := drow_cell (rowK D3.out R2.out)
    go_wp2_with fail
    go_ret
    exact ⟨rfl, EX3.out⟩
  have g_m1 : ¬ (4 : Int) < (m1 : Int) := by omega
  by_cases h_z : t = 0
  · have g_z : ((t : Int) == 0) = true := by simp [h_z]
    have g_z2 : (t : Int) = 0 := by omega
    clear h_z
    have jq := drow_cell (rowK (Lk.trans D2.out D3.out) R1.out)
    have ja := drow_cell (rowK D3.out R2.out)
    go_wp2_with fail
    go_ret
    exact ⟨rfl, EX3.out⟩
  have g_z : ((t : Int) == 0) = false := by rw [beq_eq_false_iff_ne]; omega
  have g_z2 : ¬ ((t : Int) = 0) := by omega
  obtain ⟨zz, hzz⟩ : ∃ z, decide (val ys = 0) = z := ⟨_, rfl⟩
  have CZ := dzero_calls (HQ_.out.lk (Lk.trans D1.out (Lk.trans D2.out D3.out))) (show m0 ≤ 1000000000 by omega)
  rw [hzz] at CZ
  have HCZ := Lib.hid CZ; clear CZ hzz
  have jq := drow_cell (rowK (Lk.trans D2.out D3.out) R1.out)
  have ja := drow_cell (rowK D3.out R2.out)
  have C4 := Lib.hid (HCZ.out)
  go_wp2_with fail
  refine C4.out.mono ?_
  rintro e w4 ⟨rfl, x4⟩
  have D4 := Lib.hid (Ext.lk x4)
  have EX4 := Lib.hid (Ext.trans EX3.out x4)
  clear x4
  clear C4
  clear HCZ
  cases zz with
  | true =>
    go_wp2_with fail
    go_ret
    exact ⟨rfl, EX4.out⟩
  | false =>
    clear jq ja
    go_wp2_with fail
    go_loopw [11] (fun iv wr => PreRel w4 ns 4 vs iv wr) (fun iv _ => ns - (RowKit.intOf iv).toNat)
    case atStart => exact ⟨0, Nat.zero_le _, rfl, fun i v hi => absurd hi (by omega), rfl⟩
    case round =>
      obtain ⟨k, hk, rfl, hpre, rfl⟩ := hrel
      have HPRE := Lib.hid hpre; clear hpre
      by_cases hkn : k = ns
      rotate_left
      · skip
        have hlt : (k : Int) < (ns : Int) := by omega
        obtain ⟨v, hv⟩ : ∃ v, vs[k]? = some v := ⟨_, List.getElem?_eq_getElem (by rw [HXS.out.sl.len]; omega)⟩
        obtain ⟨ba, oa, hixa, hca⟩ := (HXS.out.sl.lk (Lk.trans D1.out (Lk.trans D2.out (Lk.trans D3.out D4.out)))).ix (P := Tryz.prog) Tryz.underlying55 H1.out H3.out
        have x1 := hixa k (by omega); have x2 := hca k v hv; have HV := Lib.hid hv; clear hixa hca hv
        obtain ⟨v1, v2, v3⟩ := v
        simp only at x2
        by_cases h4 : v2 ≤ 4
        · skip
          have HN := Lib.hid (show ∀ i v, i < k + 1 → vs[i]? = some v → v.2.1 ≤ 4 from fun i v hi hv => by
            by_cases e : i = k
            · subst e; rw [HV.out] at hv; cases hv; exact h4
            · exact HPRE.out i v (by omega) hv)
          have g1 : ¬ ((4 : Int) < (v2 : Int)) := by omega
          go_wp2_with fail
          go_roundw
          case rel => exact ⟨k + 1, by omega, by go_num, HN.out, rfl⟩
          case measure => simp only [RowKit.intOf]; omega
        · skip
          have g1 : ((4 : Int) < (v2 : Int)) := by omega
          go_wp2_with fail
          go_ret
          exact ⟨rfl, EX4.out⟩
      have HPREA := Lib.hid (show ∀ i v, i < ns → vs[i]? = some v → v.2.1 ≤ 4 by rw [← hkn]; exact HPRE.out); clear HPRE
      have hgeA : ¬ ((k : Int) < (ns : Int)) := by omega
      have HKNA := Lib.hid hkn; clear hkn hk
      have HNS := Lib.hid h_ns; have HM0 := Lib.hid h_m0; have HM1 := Lib.hid h_m1; have HZ := Lib.hid h_z
      have HOI := Lib.hid (heldM_owi (S := val ys) (fun x hx => decs_ln HXS.out HPREA.out x hx) (Nat.le_trans (ln_val HQ_.out) h_m0) HT.out)
      clear g_z g_z2 h_z g_ns g_m0 h_ns h_m0 g_m1 h_m1
      have HS_ := Lib.hid (fun i v (hv : vs[i]? = some v) => Nat.le_trans (HPREA.out i v (by have := (List.getElem?_eq_some_iff.1 hv).1; rw [HXS.out.sl.len] at this; exact this) hv) (show 4 ≤ 1000 by decide))
      have HN1 := Lib.hid (show ns ≤ 1000 by have := HNS.out; omega)
      have jq := drow_cell (rowK (Lk.trans D2.out (Lk.trans D3.out D4.out)) R1.out)
      have C5 := Lib.hid (held_calls (HXS.out.lk (Lk.trans D1.out (Lk.trans D2.out (Lk.trans D3.out D4.out)))) HN1.out HS_.out (HQ_.out.lk (Lk.trans D1.out (Lk.trans D2.out (Lk.trans D3.out D4.out)))) (Nat.le_trans HM0.out (by decide)) HT.out (HTZ.out.lk (Lk.trans D1.out (Lk.trans D2.out (Lk.trans D3.out D4.out)))))
      go_wp2_with fail
      refine C5.out.mono ?_
      rintro e w5 ⟨p, b, rfl, h5, q5, z5, x5⟩
      clear jq
      have HB_l := Lib.hid (Nat.le_trans EX4.out.size z5); have LE5_l := Lib.hid h5; have HC_l := Lib.hid q5; clear h5 q5 z5 C5
      have D5 := Lib.hid (Ext.lk x5)
      have EX5 := Lib.hid (Ext.trans EX4.out x5)
      clear x5
      obtain ⟨A, hA⟩ : ∃ x, val ya = x := ⟨_, rfl⟩
      have hlA : ln A ≤ 4 := by rw [← hA]; exact Nat.le_trans (ln_val HA_.out) HM1.out
      have HZA := Lib.hid (sz_share (t := t) hlA HT.out)
      have HA := Lib.hid hA; clear hA hlA
      have HOJ := HOI.out; rw [HXS.out.len] at HOJ
      obtain ⟨qO, qS, was, hall⟩ := gv_all HOJ HXS.out.len HNS.out HT.out HAF.out HZA.out
      have HO0 := Lib.hid HOJ.okI; have HO1 := Lib.hid (HOJ.okI.give _ HZA.out); clear HOJ HOI
      obtain ⟨qs, hqs⟩ : ∃ x, quoR (decQ A) (t, 1) = x := ⟨_, rfl⟩
      obtain ⟨qf, hqf⟩ : ∃ x, quoR (after, 1) (t, 1) = x := ⟨_, rfl⟩
      have LEX := LE5_l.out; clear LE5_l
      obtain ⟨M0, hM0⟩ : ∃ x, heldM xs (val ys) t = x := ⟨_, rfl⟩
      have HO0 := HO0.out; have HO1 := HO1.out; rw [hM0] at HO0 HO1 hall LEX; rw [hqs] at HO1 hall; rw [hqf] at hall
      obtain ⟨M1, hM1⟩ : ∃ x, allM M0 16 (fGive qs) = x := ⟨_, rfl⟩
      rw [hM1] at HO1 hall
      obtain ⟨M2, hM2⟩ : ∃ x, allM M1 16 (fCut qf) = x := ⟨_, rfl⟩
      rw [hM2] at hall
      have LE5_l := Lib.hid LEX; clear LEX
      have HALL := Lib.hid hall; have HO0 := Lib.hid HO0; have HO1 := Lib.hid HO1; have HQS := Lib.hid hqs; have HQF := Lib.hid hqf; have HE1 := Lib.hid hM1; have HE2 := Lib.hid hM2; clear hall hqs hqf hM0 hM1 hM2
      have HNB := Lib.hid (show ns + 1 ≤ 1000000 by have := HNS.out; omega); have HNB2 := Lib.hid (show (ns + 1) * (500 + 1) ≤ 90000 by have := HNS.out; omega)
      have ja := drow_cell (rowK (Lk.trans D3.out (Lk.trans D4.out D5.out)) R2.out)
      have C6 := Lib.hid (lgive_calls (H := 100) (O := 100) LE5_l.out HNB.out HC_l.out (v := 16) (by decide) (HA_.out.lk (Lk.trans D1.out (Lk.trans D2.out (Lk.trans D3.out (Lk.trans D4.out D5.out))))) (Nat.le_trans HM1.out (by decide)) HT.out (HTZ.out.lk (Lk.trans D1.out (Lk.trans D2.out (Lk.trans D3.out (Lk.trans D4.out D5.out))))) (by decide) (by decide) (fun d s h => (HO0.out.ok d s h).mono (by decide) (by decide)))
      go_wp2_with fail
      refine C6.out.mono ?_
      rintro e w6 ⟨rfl, h6, g6⟩
      clear ja
      rw [HA.out, HQS.out, HE1.out] at h6
      have D6 := Lib.hid (LE5_l.out.isMapB.lk g6)
      have EX6 := Lib.hid (Ext.mx EX5.out HB_l.out g6)
      have LE6_l := Lib.hid h6
      clear g6 h6
      clear C6
      have ja := drow_cell (rowK (Lk.trans D3.out (Lk.trans D4.out (Lk.trans D5.out D6.out))) R2.out)
      have C7 := Lib.hid (rofdec_q (HA_.out.lk (Lk.trans D1.out (Lk.trans D2.out (Lk.trans D3.out (Lk.trans D4.out (Lk.trans D5.out D6.out)))))) (Nat.le_trans HM1.out (by decide)) (HTZ.out.lk (Lk.trans D1.out (Lk.trans D2.out (Lk.trans D3.out (Lk.trans D4.out (Lk.trans D5.out D6.out)))))))
      go_wp2_with fail
      refine C7.out.mono ?_
      rintro e w7 ⟨a7, n7, c7, b7, m7, d7, rfl, g7, h7, x7⟩
      clear ja
      have S7 : Hid (RA w7 a7 n7 c7 b7 m7 d7 (decQ (val ya))) := Lib.hid ⟨g7.sl, h7.sl⟩
      clear g7 h7
      have D7 := Lib.hid (Ext.lk x7)
      have EX7 := Lib.hid (Ext.trans EX6.out x7)
      have LE7_l := Lib.hid (LE6_l.out.old x7)
      clear x7
      clear C7
      have C8 := Lib.hid (of_calls t HT.out w7)
      go_wp2_with fail
      refine C8.out.mono ?_
      rintro e w8 ⟨p8, n8, c8, rfl, o8, x8, l8⟩
      have S8 := Lib.hid o8.sl
      clear o8
      have D8 := Lib.hid (Ext.lk x8)
      have EX8 := Lib.hid (Ext.trans EX7.out x8)
      have LE8_l := Lib.hid (LE7_l.out.old x8)
      clear x8
      clear C8
      have HL8 := Lib.hid l8; clear l8
      have C9 := Lib.hid (rofnat_q S8.out (Nat.le_trans HL8.out (by decide)) (val_lim t))
      go_wp2_with fail
      refine C9.out.mono ?_
      rintro e w9 ⟨a9, n9, c9, b9, m9, d9, rfl, g9, h9, x9⟩
      have S9 : Hid (RA w9 a9 n9 c9 b9 m9 d9 (t, 1)) := Lib.hid ⟨g9.sl, h9.sl⟩
      clear g9 h9
      have D9 := Lib.hid (Ext.lk x9)
      have EX9 := Lib.hid (Ext.trans EX8.out x9)
      have LE9_l := Lib.hid (LE8_l.out.old x9)
      clear x9
      clear C9
      have C10 := Lib.hid (rquo_q (S7.out.lk (Lk.trans D8.out D9.out)) S9.out (Nat.le_trans (sz_dec _) (by have := ln_val HA_.out; have := HM1.out; omega)) (Nat.le_trans (Nat.le_of_eq (sz_whole t HT.out)) (by decide)) (HTZ.out.lk (Lk.trans D1.out (Lk.trans D2.out (Lk.trans D3.out (Lk.trans D4.out (Lk.trans D5.out (Lk.trans D6.out (Lk.trans D7.out (Lk.trans D8.out D9.out))))))))) (by rw [dN_pos (show 0 < (1 : Nat) by decide)]; exact HZ.out) (r := qs) (by rw [HA.out]; exact HQS.out))
      go_wp2_with fail
      refine C10.out.mono ?_
      rintro e w10 ⟨a10, n10, c10, b10, m10, d10, rfl, g10, h10, x10, -, -⟩
      have S10 : Hid (RA w10 a10 n10 c10 b10 m10 d10 qs) := Lib.hid ⟨g10.sl, h10.sl⟩
      clear g10 h10
      have D10 := Lib.hid (Ext.lk x10)
      have EX10 := Lib.hid (Ext.trans EX9.out x10)
      have LE10_l := Lib.hid (LE9_l.out.old x10)
      clear x10
      clear C10
      obtain ⟨V11, hV⟩ : ∃ V, w10.alloc (.cells #[.slice a10 n10 c10, .slice b10 m10 d10] 40) = V := ⟨_, rfl⟩
      have R11 := Lib.hid (show V11.heap[w10.heap.size]? = some (.cells #[.slice a10 n10 c10, .slice b10 m10 d10] 40 (0, 0)) by rw [← hV]; exact heap_alloc_new w10 _)
      have x11 : Ext w10 V11 := by rw [← hV]; exact (Ext.refl _).alloc _
      have HV11 := Lib.hid hV
      clear hV
      have D11 := Lib.hid (Ext.lk x11)
      have EX11 := Lib.hid (Ext.trans EX10.out x11)
      have LE11_l := Lib.hid (LE10_l.out.old x11)
      clear x11
      have H12 : Hid (∀ w', Lk V11 w' → w'.cell? ⟨w10.heap.size, 0, none⟩ = some (.slice a10 n10 c10) ∧ w'.cell? ⟨w10.heap.size, 1, none⟩ = some (.slice b10 m10 d10)) := Lib.hid (fun w' h => ⟨(row2_cells (rowK h R11.out)).1, (row2_cells (rowK h R11.out)).2.1⟩)
      go_wp2_with (rw [HV11.out])
      go_region_held3 (fun w' => w'.cell? ⟨w10.heap.size, 0, none⟩ = some (.slice a10 n10 c10) ∧ w'.cell? ⟨w10.heap.size, 1, none⟩ = some (.slice b10 m10 d10))
        (first | exact H12.out _ (Ext.refl _).drew.lk | exact H12.out _ (by assumption))
        (first
          | (go_at_call_of 29 (Value.int .u64 16); refine (lowes_as (H := 500) (LE11_l.out.old (Ext.refl _).drew) HNB.out ((Lk.trans (Lk.trans D6.out (Lk.trans D7.out (Lk.trans D8.out (Lk.trans D9.out (Lk.trans D10.out D11.out))))) (Ext.refl V11).drew.lk).cell HC_l.out) (v := 16) (by decide) (HTZ.out.lk (Lk.trans (Lk.trans D1.out (Lk.trans D2.out (Lk.trans D3.out (Lk.trans D4.out (Lk.trans D5.out (Lk.trans D6.out (Lk.trans D7.out (Lk.trans D8.out (Lk.trans D9.out (Lk.trans D10.out D11.out)))))))))) (Ext.refl V11).drew.lk)) (by decide) HNB2.out (fun d s h => (HALL.out.ok1 d s h).2) (q := qO) HALL.out.o1).mono ?_; rintro e u12_0 ⟨a12_0, n12_0, c12_0, b12_0, m12_0, d12_0, rfl, r12_0, h12_0, g12_0⟩; have y12_0 : Lk V11.drew u12_0 := (LE11_l.out.old (Ext.refl _).drew).isMapB.lk g12_0; have K12_0 : Lk V11 u12_0 := Lk.trans (Ext.refl V11).drew.lk y12_0; have E12_0 := Ext.mx (EX11.out.drew) HB_l.out g12_0)
          | (go_at_call 27; refine (lstakes_as (H := 500) h12_0 HNB.out ((Lk.trans (Lk.trans D6.out (Lk.trans D7.out (Lk.trans D8.out (Lk.trans D9.out (Lk.trans D10.out D11.out))))) K12_0).cell HC_l.out) (v := 16) (by decide) (HTZ.out.lk (Lk.trans (Lk.trans D1.out (Lk.trans D2.out (Lk.trans D3.out (Lk.trans D4.out (Lk.trans D5.out (Lk.trans D6.out (Lk.trans D7.out (Lk.trans D8.out (Lk.trans D9.out (Lk.trans D10.out D11.out)))))))))) K12_0)) (by decide) HNB2.out (fun d s h => (HALL.out.ok1 d s h).1) (q := qS) HALL.out.s1).mono ?_; rintro e u12_1 ⟨a12_1, n12_1, c12_1, b12_1, m12_1, d12_1, rfl, r12_1, h12_1, g12_1⟩; have y12_1 : Lk u12_0 u12_1 := h12_0.isMapB.lk g12_1; have K12_1 : Lk V11 u12_1 := Lk.trans K12_0 y12_1; have E12_1 := Ext.mx E12_0 HB_l.out g12_1)
          | (go_at_call 45; refine (rmul_q (S10.out.lk (Lk.trans D11.out K12_1)) r12_1 (Nat.le_trans HALL.out.szs (by decide)) (Nat.le_trans HALL.out.szS (by decide)) (HTZ.out.lk (Lk.trans (Lk.trans D1.out (Lk.trans D2.out (Lk.trans D3.out (Lk.trans D4.out (Lk.trans D5.out (Lk.trans D6.out (Lk.trans D7.out (Lk.trans D8.out (Lk.trans D9.out (Lk.trans D10.out D11.out)))))))))) K12_1))).mono ?_; rintro e u12_2 ⟨a12_2, n12_2, c12_2, b12_2, m12_2, d12_2, rfl, g12_2, h12_2, x12_2⟩; have r12_2 : RA u12_2 a12_2 n12_2 c12_2 b12_2 m12_2 d12_2 (mulR qs qS) := ⟨g12_2.sl, h12_2.sl⟩; have y12_2 := Ext.lk x12_2; have K12_2 : Lk V11 u12_2 := Lk.trans K12_1 y12_2; have E12_2 := Ext.trans E12_1 x12_2; have M12_2_l := h12_1.old x12_2)
          | (go_at_call 16; refine (hrat_q (r12_0.lk (Lk.trans y12_1 y12_2)) r12_2 (Nat.le_trans HALL.out.szO (by decide)) (by rw [HALL.out.eq1]; exact (Nat.le_trans HALL.out.szO (by decide))) true (decide_eq_true HALL.out.eq1.symm)).mono ?_; rintro e u12_3 ⟨rfl, x12_3⟩; have y12_3 := Ext.lk x12_3; have K12_3 : Lk V11 u12_3 := Lk.trans K12_2 y12_3; have E12_3 := Ext.trans E12_2 x12_3; have M12_3_l := M12_2_l.old x12_3)
          | (go_at_call_of 29 (Value.int .u64 17); refine (lowes_as (H := 500) M12_3_l HNB.out ((Lk.trans (Lk.trans D6.out (Lk.trans D7.out (Lk.trans D8.out (Lk.trans D9.out (Lk.trans D10.out D11.out))))) K12_3).cell HC_l.out) (v := 17) (by decide) (HTZ.out.lk (Lk.trans (Lk.trans D1.out (Lk.trans D2.out (Lk.trans D3.out (Lk.trans D4.out (Lk.trans D5.out (Lk.trans D6.out (Lk.trans D7.out (Lk.trans D8.out (Lk.trans D9.out (Lk.trans D10.out D11.out)))))))))) K12_3)) (by decide) HNB2.out (fun d s h => (HALL.out.l17.ok d s h).2) (q := (0, 1)) HALL.out.l17.owes).mono ?_; rintro e u12_4 ⟨a12_4, n12_4, c12_4, b12_4, m12_4, d12_4, rfl, r12_4, h12_4, g12_4⟩; have y12_4 : Lk u12_3 u12_4 := M12_3_l.isMapB.lk g12_4; have K12_4 : Lk V11 u12_4 := Lk.trans K12_3 y12_4; have E12_4 := Ext.mx E12_3 HB_l.out g12_4)
          | (go_at_call 39; refine (rzero_q r12_4).mono ?_; rintro e u12_5 ⟨rfl, x12_5⟩; have y12_5 := Ext.lk x12_5; have K12_5 : Lk V11 u12_5 := Lk.trans K12_4 y12_5; have E12_5 := Ext.trans E12_4 x12_5; have M12_5_l := h12_4.old x12_5))
      have xk12 := K12_5; have xe12 := E12_5
      have xl12_l := M12_5_l
      clear r12_0 h12_0 g12_0 y12_0 K12_0 E12_0 r12_1 h12_1 g12_1 y12_1 K12_1 E12_1 r12_2 g12_2 h12_2 M12_2_l x12_2 y12_2 K12_2 E12_2 M12_3_l x12_3 y12_3 K12_3 E12_3 r12_4 h12_4 g12_4 y12_4 K12_4 E12_4 M12_5_l x12_5 y12_5 K12_5 E12_5
      have D12 := Lib.hid xk12; have EX12 := Lib.hid xe12; clear xk12 xe12
      have LE12_l := Lib.hid xl12_l; clear xl12_l
      have C13 := Lib.hid (lowes_as (H := 500) LE12_l.out HNB.out ((Lk.trans D6.out (Lk.trans D7.out (Lk.trans D8.out (Lk.trans D9.out (Lk.trans D10.out (Lk.trans D11.out D12.out)))))).cell HC_l.out) (v := 16) (by decide) (HTZ.out.lk (Lk.trans D1.out (Lk.trans D2.out (Lk.trans D3.out (Lk.trans D4.out (Lk.trans D5.out (Lk.trans D6.out (Lk.trans D7.out (Lk.trans D8.out (Lk.trans D9.out (Lk.trans D10.out (Lk.trans D11.out D12.out)))))))))))) (by decide) HNB2.out (fun d s h => (HALL.out.ok1 d s h).2) (q := qO) HALL.out.o1)
      go_wp2_with fail
      refine C13.out.mono ?_
      rintro e w13 ⟨a13, n13, c13, b13, m13, d13, rfl, r13, h13, g13⟩
      have S13 := Lib.hid r13; clear r13
      have D13 := Lib.hid (LE12_l.out.isMapB.lk g13)
      have EX13 := Lib.hid (Ext.mx EX12.out HB_l.out g13)
      have LE13_l := Lib.hid h13
      clear g13 h13
      clear C13
      obtain ⟨V14, hV⟩ : ∃ V, w13.alloc (.cells #[.slice a13 n13 c13, .slice b13 m13 d13] 40) = V := ⟨_, rfl⟩
      have R14 := Lib.hid (show V14.heap[w13.heap.size]? = some (.cells #[.slice a13 n13 c13, .slice b13 m13 d13] 40 (0, 0)) by rw [← hV]; exact heap_alloc_new w13 _)
      have x14 : Ext w13 V14 := by rw [← hV]; exact (Ext.refl _).alloc _
      have HV14 := Lib.hid hV
      clear hV
      have D14 := Lib.hid (Ext.lk x14)
      have EX14 := Lib.hid (Ext.trans EX13.out x14)
      have LE14_l := Lib.hid (LE13_l.out.old x14)
      clear x14
      obtain ⟨row, hmk, hwas⟩ := make_was V14 ns HN1.out
      obtain ⟨Y, hY⟩ : ∃ x, V14.alloc (.cells row 40) = x := ⟨_, rfl⟩
      have HWAS := hwas was; rw [hY] at HWAS hmk; have HWAS := Lib.hid HWAS
      have xY : Ext V14 Y := by rw [← hY]; exact (Ext.refl _).alloc _
      have HMK := Lib.hid hmk; clear hwas hY
      have HWB := Lib.hid (Nat.le_refl V14.heap.size)
      have HX := Lib.hid EX14.out; have LX := Lib.hid LE14_l.out; have CX := Lib.hid ((Lk.trans D6.out (Lk.trans D7.out (Lk.trans D8.out (Lk.trans D9.out (Lk.trans D10.out (Lk.trans D11.out (Lk.trans D12.out (Lk.trans D13.out D14.out)))))))).cell HC_l.out); have TX := Lib.hid (HTZ.out.lk (Lk.trans D1.out (Lk.trans D2.out (Lk.trans D3.out (Lk.trans D4.out (Lk.trans D5.out (Lk.trans D6.out (Lk.trans D7.out (Lk.trans D8.out (Lk.trans D9.out (Lk.trans D10.out (Lk.trans D11.out (Lk.trans D12.out (Lk.trans D13.out D14.out)))))))))))))); have SX := Lib.hid (S10.out.lk (Lk.trans D11.out (Lk.trans D12.out (Lk.trans D13.out D14.out)))); have OX := Lib.hid (S13.out.lk D14.out); have RSX := Lib.hid (rowK (Lk.trans D12.out (Lk.trans D13.out D14.out)) R11.out); have ROX := Lib.hid R14.out
      have HST := Lib.hid (show GvRel w V14 b ns M1 was (.int .i64 0) Y from ⟨0, Nat.zero_le _, rfl, LE14_l.out.old xY, HWAS.out, xY.lk, EX14.out.trans xY⟩)
      clear xY HWAS HMK
      go_wp2_with (rw [HV14.out])
      clear hmk
      go_loopw [17] (fun iv wr => GvRel w V14 b ns M1 was iv wr) (fun iv _ => ns - (RowKit.intOf iv).toNat)
      case atStart => exact HST.out
      case round =>
        obtain ⟨j, hj, rfl, hl, hw, hk2, hx2⟩ := hrel
        have HLL := Lib.hid hl; have HWAS := Lib.hid hw; have HK2 := Lib.hid hk2; have EX0 := Lib.hid hx2; have HTZ0 := HTZ; clear HTZ; have HTZ := Lib.hid (TX.out.lk hk2); have HPL := Lib.hid (hk2.cell CX.out); have HSH := Lib.hid (SX.out.lk hk2); have HOW := Lib.hid (OX.out.lk hk2); have HRS := Lib.hid (rowK hk2 RSX.out); have HRO := Lib.hid (rowK hk2 ROX.out)
        clear hl hw hk2 hx2
        by_cases hjn : j = ns
        rotate_left
        · skip
          have hlt : (j : Int) < (ns : Int) := by omega
          have HJ := Lib.hid (show j < ns by omega); have HJB := Lib.hid (show j < B64 by have := HNS.out; have := B64_eq; omega)
          have hwj : IntKind.u64.wrap (j : Int) = (j : Int) := IntWalk.u64_in _ (by omega)
          have hix := ix_was V14.heap.size HJ.out
          have C71 := Lib.hid (lstake_as HLL.out HPL.out (v := 16) (d := j) (by decide) HJB.out (Nat.le_trans (HALL.out.sz1 j).2 (by decide)) HTZ.out (q := was j) (HALL.out.was_ j))
          go_wp2_with fail
          refine C71.out.mono ?_
          rintro e w71 ⟨a71, n71, c71, b71, m71, d71, rfl, r71, h71, g71⟩
          have S71 := Lib.hid r71; clear r71
          have D1 := Lib.hid (HLL.out.isMapB.lk g71)
          have EX1 := Lib.hid (Ext.mx EX0.out HB_l.out g71)
          have LE1_l := Lib.hid h71
          clear g71 h71
          clear C71
          have HW1 := Lib.hid (HWAS.out.lk D1.out)
          obtain ⟨u0, v0, c0_, c1_, z0_, z1_⟩ := HW1.out.room HJ.out
          obtain ⟨Z, hZ⟩ : ∃ x, ((w71.setCell ⟨V14.heap.size, 2 * j, none⟩ (.slice a71 n71 c71)).setCell ⟨V14.heap.size, 2 * j + 1, none⟩ (.slice b71 m71 d71)) = x := ⟨_, rfl⟩
          have HW2 := HW1.out.put HJ.out S71.out; have hln := HW1.out.ln (2 * j) (2 * j + 1) (.slice a71 n71 c71) (.slice b71 m71 d71); have hby := setW_by w71 V14.heap.size (2 * j) (2 * j + 1) (.slice a71 n71 c71) (.slice b71 m71 d71)
          rw [hZ] at HW2 hln hby
          have hne : b ≠ V14.heap.size := by have := LX.out.lt; omega
          have hLZ := LE1_l.out.lnN hln (hby.block b LE1_l.out.lt (by intro e; exact hne (Option.some.inj e)))
          have hKZ := Lk.grow (Lk.trans HK2.out D1.out) (Nat.le_refl V14.heap.size) hby
          have hEZ := Ext.mx EX1.out HX.out.size hby
          obtain ⟨ra, rm, rc, rb, rm2, rd, l0, l1, hra⟩ := HW2.look (Nat.lt_succ_self j)
          have HZ_ := Lib.hid hZ; have HW2 := Lib.hid HW2; have HLZ := Lib.hid hLZ; have HKZ := Lib.hid hKZ; have EXZ := Lib.hid hEZ; have HRA := Lib.hid hra; have HL0 := Lib.hid l0; have HL1 := Lib.hid l1
          have HTZ1 := Lib.hid (TX.out.lk hKZ); have HPZ := Lib.hid (hKZ.cell CX.out); have HSZ := Lib.hid (SX.out.lk hKZ); have HRZ := Lib.hid (rowK hKZ RSX.out)
          clear hZ hln hby hLZ hKZ hEZ hra l0 l1 hne HTZ; have HTZ := HTZ1; clear HTZ1
          have HZM := Lib.hid (show sz (mulR qs (was j)) ≤ 100000 by have h1 := sz_mul qs (was j); have h2 := HALL.out.szs; have h3 := HALL.out.szw j; omega)
          have H81 : Hid (∀ w', Lk Z w' → w'.cell? ⟨w10.heap.size, 0, none⟩ = some (.slice a10 n10 c10) ∧ w'.cell? ⟨w10.heap.size, 1, none⟩ = some (.slice b10 m10 d10) ∧ w'.cell? ⟨V14.heap.size, 2 * j, none⟩ = some (.slice ra rm rc) ∧ w'.cell? ⟨V14.heap.size, 2 * j + 1, none⟩ = some (.slice rb rm2 rd)) := Lib.hid (fun w' h => ⟨(row2_cells (rowK (Lk.trans (Lk.refl _) h) HRZ.out)).1, (row2_cells (rowK (Lk.trans (Lk.refl _) h) HRZ.out)).2.1, (Lk.trans (Lk.refl _) h).cell HL0.out, (Lk.trans (Lk.refl _) h).cell HL1.out⟩)
          go_wp2_with (rw [HZ_.out])
          go_region_held3 (fun w' => w'.cell? ⟨w10.heap.size, 0, none⟩ = some (.slice a10 n10 c10) ∧ w'.cell? ⟨w10.heap.size, 1, none⟩ = some (.slice b10 m10 d10) ∧ w'.cell? ⟨V14.heap.size, 2 * j, none⟩ = some (.slice ra rm rc) ∧ w'.cell? ⟨V14.heap.size, 2 * j + 1, none⟩ = some (.slice rb rm2 rd))
            (first | exact H81.out _ (Ext.refl _).drew.lk | exact H81.out _ (by assumption))
            (first
              | (go_at_call 25; refine (lowed_as (HLZ.out.old (Ext.refl _).drew) ((Ext.refl Z).drew.lk.cell HPZ.out) (v := 16) (d := j) (by decide) HJB.out (Nat.le_trans (HALL.out.sz1 j).1 (by decide)) (HTZ.out.lk (Ext.refl Z).drew.lk) (q := mulR qs (was j)) (HALL.out.owed j HJ.out)).mono ?_; rintro e u81_0 ⟨a81_0, n81_0, c81_0, b81_0, m81_0, d81_0, rfl, r81_0, h81_0, g81_0⟩; have y81_0 : Lk Z.drew u81_0 := (HLZ.out.old (Ext.refl _).drew).isMapB.lk g81_0; have K81_0 : Lk Z u81_0 := Lk.trans (Ext.refl Z).drew.lk y81_0; have E81_0 := Ext.mx (EXZ.out.drew) HB_l.out g81_0)
              | (go_at_call 45; refine (rmul_q (HSZ.out.lk K81_0) (HRA.out.lk K81_0) (Nat.le_trans HALL.out.szs (by decide)) (Nat.le_trans (HALL.out.szw j) (by decide)) (HTZ.out.lk K81_0)).mono ?_; rintro e u81_1 ⟨a81_1, n81_1, c81_1, b81_1, m81_1, d81_1, rfl, g81_1, h81_1, x81_1⟩; have r81_1 : RA u81_1 a81_1 n81_1 c81_1 b81_1 m81_1 d81_1 (mulR qs (was j)) := ⟨g81_1.sl, h81_1.sl⟩; have y81_1 := Ext.lk x81_1; have K81_1 : Lk Z u81_1 := Lk.trans K81_0 y81_1; have E81_1 := Ext.trans E81_0 x81_1; have M81_1_l := h81_0.old x81_1)
              | (go_at_call 16; refine (hrat_q (r81_0.lk y81_1) r81_1 HZM.out HZM.out true (decide_eq_true rfl)).mono ?_; rintro e u81_2 ⟨rfl, x81_2⟩; have y81_2 := Ext.lk x81_2; have K81_2 : Lk Z u81_2 := Lk.trans K81_1 y81_2; have E81_2 := Ext.trans E81_1 x81_2; have M81_2_l := M81_1_l.old x81_2))
          have xk81 := K81_2; have xe81 := E81_2; have xl81 := M81_2_l
          clear r81_0 h81_0 g81_0 y81_0 K81_0 E81_0 r81_1 g81_1 h81_1 M81_1_l x81_1 y81_1 K81_1 E81_1 M81_2_l x81_2 y81_2 K81_2 E81_2
          have HR4 := Lib.hid (And.intro xl81 (And.intro (HW2.out.lk xk81) (And.intro (Lk.trans HKZ.out xk81) xe81))); clear xk81 xe81 xl81
          go_wp2_with fail
          go_roundw
          case rel => exact ⟨j + 1, by omega, by go_num, HR4.out.1, HR4.out.2.1, HR4.out.2.2.1, HR4.out.2.2.2⟩
          case measure => simp only [RowKit.intOf]; omega
        have hge2 : ¬ ((j : Int) < (ns : Int)) := by omega
        have HWN := Lib.hid (show WasRow wr V14.heap.size ns ns was by have h := HWAS.out; rw [hjn] at h; exact h); have HJN := Lib.hid hjn; clear hjn hj HWAS
        have C91 := Lib.hid (lcut_calls (H := 100) (O := 100) HLL.out HNB.out HPL.out (v := 16) (by decide) (t := t) (u := after) HT.out HAF.out HTZ.out (by decide) (fun d s h => (HO1.out.ok d s h).mono (by decide) (by decide)))
        go_wp2_with fail
        refine C91.out.mono ?_
        rintro e w91 ⟨rfl, h91, g91⟩
        rw [HQF.out, HE2.out] at h91
        have D1 := Lib.hid (HLL.out.isMapB.lk g91)
        have EX1 := Lib.hid (Ext.mx EX0.out HB_l.out g91)
        have LE1_l := Lib.hid h91
        clear g91 h91
        clear C91
        have C92 := Lib.hid (of_calls after HAF.out w91)
        go_wp2_with fail
        refine C92.out.mono ?_
        rintro e w92 ⟨p92, n92, c92, rfl, o92, x92, l92⟩
        have S92 := Lib.hid o92.sl
        clear o92
        have D2 := Lib.hid (Ext.lk x92)
        have EX2 := Lib.hid (Ext.trans EX1.out x92)
        have LE2_l := Lib.hid (LE1_l.out.old x92)
        clear x92
        clear C92
        have HL92 := Lib.hid l92; clear l92
        have C93 := Lib.hid (of_calls t HT.out w92)
        go_wp2_with fail
        refine C93.out.mono ?_
        rintro e w93 ⟨p93, n93, c93, rfl, o93, x93, l93⟩
        have S93 := Lib.hid o93.sl
        clear o93
        have D3 := Lib.hid (Ext.lk x93)
        have EX3 := Lib.hid (Ext.trans EX2.out x93)
        have LE3_l := Lib.hid (LE2_l.out.old x93)
        clear x93
        clear C93
        have HL93 := Lib.hid l93; clear l93
        have C94 := Lib.hid (rof_as (S92.out.lk D3.out) S93.out (Nat.le_trans HL92.out (by decide)) (Nat.le_trans HL93.out (by decide)) (HTZ.out.lk (Lk.trans D1.out (Lk.trans D2.out D3.out))) (val_lim _) (val_lim _) HZ.out HQF.out)
        go_wp2_with fail
        refine C94.out.mono ?_
        rintro e w94 ⟨a94, n94, c94, b94, m94, d94, rfl, g94, h94, x94, -, -⟩
        have S94 : Hid (RA w94 a94 n94 c94 b94 m94 d94 qf) := Lib.hid ⟨g94.sl, h94.sl⟩
        clear g94 h94
        have D4 := Lib.hid (Ext.lk x94)
        have EX4 := Lib.hid (Ext.trans EX3.out x94)
        have LE4_l := Lib.hid (LE3_l.out.old x94)
        clear x94
        clear C94
        obtain ⟨V95, hV⟩ : ∃ V, w94.alloc (.cells #[.slice a94 n94 c94, .slice b94 m94 d94] 40) = V := ⟨_, rfl⟩
        have R95 := Lib.hid (show V95.heap[w94.heap.size]? = some (.cells #[.slice a94 n94 c94, .slice b94 m94 d94] 40 (0, 0)) by rw [← hV]; exact heap_alloc_new w94 _)
        have x95 : Ext w94 V95 := by rw [← hV]; exact (Ext.refl _).alloc _
        have HV95 := Lib.hid hV
        clear hV
        have D5 := Lib.hid (Ext.lk x95)
        have EX5 := Lib.hid (Ext.trans EX4.out x95)
        have LE5_l := Lib.hid (LE4_l.out.old x95)
        clear x95
        have LX2 := Lib.hid LE5_l.out; have CX2 := Lib.hid ((Lk.trans D1.out (Lk.trans D2.out (Lk.trans D3.out (Lk.trans D4.out D5.out)))).cell HPL.out); have TX2 := Lib.hid (HTZ.out.lk (Lk.trans D1.out (Lk.trans D2.out (Lk.trans D3.out (Lk.trans D4.out D5.out))))); have FX2 := Lib.hid (S94.out.lk D5.out); have RFX2 := Lib.hid R95.out; have WX2 := Lib.hid (HWN.out.lk (Lk.trans D1.out (Lk.trans D2.out (Lk.trans D3.out (Lk.trans D4.out D5.out))))); have OX2 := Lib.hid (HOW.out.lk (Lk.trans D1.out (Lk.trans D2.out (Lk.trans D3.out (Lk.trans D4.out D5.out))))); have ROX2 := Lib.hid (rowK (Lk.trans D1.out (Lk.trans D2.out (Lk.trans D3.out (Lk.trans D4.out D5.out)))) HRO.out)
        have HST2 := Lib.hid (show GvRel2 w V95 b ns M2 (.int .i64 0) V95 from ⟨0, Nat.zero_le _, rfl, LX2.out, Lk.refl _, EX5.out⟩)
        go_wp2_with (rw [HV95.out])
        go_loopw [20] (fun iv wr => GvRel2 w V95 b ns M2 iv wr) (fun iv _ => ns - (RowKit.intOf iv).toNat)
        case atStart => exact HST2.out
        case round =>
          obtain ⟨j, hj, rfl, hl, hk2, hx2⟩ := hrel
          have HLL := Lib.hid hl; have HWAS := Lib.hid (WX2.out.lk hk2); have HK2 := Lib.hid hk2; have EX0 := Lib.hid hx2; clear HTZ; have HTZ := Lib.hid (TX2.out.lk hk2); have HPL := Lib.hid (hk2.cell CX2.out); have HFF := Lib.hid (FX2.out.lk hk2); have HOW := Lib.hid (OX2.out.lk hk2); have HRF := Lib.hid (rowK hk2 RFX2.out); have HRO := Lib.hid (rowK hk2 ROX2.out)
          clear hl hk2 hx2
          by_cases hjn : j = ns
          rotate_left
          · skip
            have hlt : (j : Int) < (ns : Int) := by omega
            have HJ := Lib.hid (show j < ns by omega); have HJB := Lib.hid (show j < B64 by have := HNS.out; have := B64_eq; omega)
            have hwj : IntKind.u64.wrap (j : Int) = (j : Int) := IntWalk.u64_in _ (by omega)
            have hix := ix_was V14.heap.size HJ.out
            obtain ⟨ra, rm, rc, rb, rm2, rd, l0, l1, hra⟩ := HWAS.out.look HJ.out
            have HRA := Lib.hid hra; have HL0 := Lib.hid l0; have HL1 := Lib.hid l1; clear hra l0 l1
            have HZM := Lib.hid (show sz (mulR (was j) qf) ≤ 100000 by have h1 := sz_mul (was j) qf; have h2 := HALL.out.szf; have h3 := HALL.out.szw j; omega)
            have H111 : Hid (∀ w', Lk wr w' → w'.cell? ⟨w94.heap.size, 0, none⟩ = some (.slice a94 n94 c94) ∧ w'.cell? ⟨w94.heap.size, 1, none⟩ = some (.slice b94 m94 d94) ∧ w'.cell? ⟨V14.heap.size, 2 * j, none⟩ = some (.slice ra rm rc) ∧ w'.cell? ⟨V14.heap.size, 2 * j + 1, none⟩ = some (.slice rb rm2 rd)) := Lib.hid (fun w' h => ⟨(row2_cells (rowK (Lk.trans (Lk.refl _) h) HRF.out)).1, (row2_cells (rowK (Lk.trans (Lk.refl _) h) HRF.out)).2.1, (Lk.trans (Lk.refl _) h).cell HL0.out, (Lk.trans (Lk.refl _) h).cell HL1.out⟩)
            go_wp2_with fail
            go_region_held3 (fun w' => w'.cell? ⟨w94.heap.size, 0, none⟩ = some (.slice a94 n94 c94) ∧ w'.cell? ⟨w94.heap.size, 1, none⟩ = some (.slice b94 m94 d94) ∧ w'.cell? ⟨V14.heap.size, 2 * j, none⟩ = some (.slice ra rm rc) ∧ w'.cell? ⟨V14.heap.size, 2 * j + 1, none⟩ = some (.slice rb rm2 rd))
              (first | exact H111.out _ (Ext.refl _).drew.lk | exact H111.out _ (by assumption))
              (first
                | (go_at_call 23; refine (lstake_as (HLL.out.old (Ext.refl _).drew) ((Ext.refl wr).drew.lk.cell HPL.out) (v := 16) (d := j) (by decide) HJB.out (Nat.le_trans (HALL.out.sz2 j).2 (by decide)) (HTZ.out.lk (Ext.refl wr).drew.lk) (q := mulR (was j) qf) (HALL.out.stake j HJ.out)).mono ?_; rintro e u111_0 ⟨a111_0, n111_0, c111_0, b111_0, m111_0, d111_0, rfl, r111_0, h111_0, g111_0⟩; have y111_0 : Lk wr.drew u111_0 := (HLL.out.old (Ext.refl _).drew).isMapB.lk g111_0; have K111_0 : Lk wr u111_0 := Lk.trans (Ext.refl wr).drew.lk y111_0; have E111_0 := Ext.mx (EX0.out.drew) HB_l.out g111_0)
                | (go_at_call 45; refine (rmul_q (HRA.out.lk K111_0) (HFF.out.lk K111_0) (Nat.le_trans (HALL.out.szw j) (by decide)) (Nat.le_trans HALL.out.szf (by decide)) (HTZ.out.lk K111_0)).mono ?_; rintro e u111_1 ⟨a111_1, n111_1, c111_1, b111_1, m111_1, d111_1, rfl, g111_1, h111_1, x111_1⟩; have r111_1 : RA u111_1 a111_1 n111_1 c111_1 b111_1 m111_1 d111_1 (mulR (was j) qf) := ⟨g111_1.sl, h111_1.sl⟩; have y111_1 := Ext.lk x111_1; have K111_1 : Lk wr u111_1 := Lk.trans K111_0 y111_1; have E111_1 := Ext.trans E111_0 x111_1; have M111_1_l := h111_0.old x111_1)
                | (go_at_call 16; refine (hrat_q (r111_0.lk y111_1) r111_1 HZM.out HZM.out true (decide_eq_true rfl)).mono ?_; rintro e u111_2 ⟨rfl, x111_2⟩; have y111_2 := Ext.lk x111_2; have K111_2 : Lk wr u111_2 := Lk.trans K111_1 y111_2; have E111_2 := Ext.trans E111_1 x111_2; have M111_2_l := M111_1_l.old x111_2))
            have xk111 := K111_2; have xe111 := E111_2; have xl111 := M111_2_l
            clear r111_0 h111_0 g111_0 y111_0 K111_0 E111_0 r111_1 g111_1 h111_1 M111_1_l x111_1 y111_1 K111_1 E111_1 M111_2_l x111_2 y111_2 K111_2 E111_2
            have HR4 := Lib.hid (And.intro xl111 (And.intro (Lk.trans HK2.out xk111) xe111)); clear xk111 xe111 xl111
            go_wp2_with fail
            go_roundw
            case rel => exact ⟨j + 1, by omega, by go_num, HR4.out.1, HR4.out.2.1, HR4.out.2.2⟩
            case measure => simp only [RowKit.intOf]; omega
          have hge3 : ¬ ((j : Int) < (ns : Int)) := by omega
          clear hjn hj
          have H121 : Hid (∀ w', Lk wr w' → w'.cell? ⟨w13.heap.size, 0, none⟩ = some (.slice a13 n13 c13) ∧ w'.cell? ⟨w13.heap.size, 1, none⟩ = some (.slice b13 m13 d13)) := Lib.hid (fun w' h => ⟨(row2_cells (rowK h HRO.out)).1, (row2_cells (rowK h HRO.out)).2.1⟩)
          go_wp2_with fail
          go_region_held3 (fun w' => w'.cell? ⟨w13.heap.size, 0, none⟩ = some (.slice a13 n13 c13) ∧ w'.cell? ⟨w13.heap.size, 1, none⟩ = some (.slice b13 m13 d13))
            (first | exact H121.out _ (Ext.refl _).drew.lk | exact H121.out _ (by assumption))
            (first
              | (go_at_call 29; refine (lowes_as (H := 500) (HLL.out.old (Ext.refl _).drew) HNB.out ((Ext.refl wr).drew.lk.cell HPL.out) (v := 16) (by decide) (HTZ.out.lk (Ext.refl wr).drew.lk) (by decide) HNB2.out (fun d s h => (HALL.out.ok2 d s h).2) (q := qO) HALL.out.o2).mono ?_; rintro e u121_0 ⟨a121_0, n121_0, c121_0, b121_0, m121_0, d121_0, rfl, r121_0, h121_0, g121_0⟩; have y121_0 : Lk wr.drew u121_0 := (HLL.out.old (Ext.refl _).drew).isMapB.lk g121_0; have K121_0 : Lk wr u121_0 := Lk.trans (Ext.refl wr).drew.lk y121_0; have E121_0 := Ext.mx (EX0.out.drew) HB_l.out g121_0)
              | (go_at_call_of 16 a121_0; refine (hrat_q r121_0 (HOW.out.lk K121_0) (Nat.le_trans HALL.out.szO (by decide)) (Nat.le_trans HALL.out.szO (by decide)) true (decide_eq_true rfl)).mono ?_; rintro e u121_1 ⟨rfl, x121_1⟩; have y121_1 := Ext.lk x121_1; have K121_1 : Lk wr u121_1 := Lk.trans K121_0 y121_1; have E121_1 := Ext.trans E121_0 x121_1; have M121_1_l := h121_0.old x121_1)
              | (go_at_call 27; refine (lstakes_as (H := 500) M121_1_l HNB.out (K121_1.cell HPL.out) (v := 17) (by decide) (HTZ.out.lk K121_1) (by decide) HNB2.out (fun d s h => (HALL.out.m17.ok d s h).1) (q := (1, 1)) HALL.out.m17.stakes).mono ?_; rintro e u121_2 ⟨a121_2, n121_2, c121_2, b121_2, m121_2, d121_2, rfl, r121_2, h121_2, g121_2⟩; have y121_2 : Lk u121_1 u121_2 := M121_1_l.isMapB.lk g121_2; have K121_2 : Lk wr u121_2 := Lk.trans K121_1 y121_2; have E121_2 := Ext.mx E121_1 HB_l.out g121_2)
              | (go_at_call 40; refine (frac_q 1 1 (1, 1) (by decide) (by decide) (by decide) (by decide +kernel) _ (HTZ.out.lk K121_2)).mono ?_; rintro e u121_3 ⟨a121_3, n121_3, c121_3, b121_3, m121_3, d121_3, rfl, g121_3, h121_3, x121_3⟩; have r121_3 : RA u121_3 a121_3 n121_3 c121_3 b121_3 m121_3 d121_3 (1, 1) := ⟨g121_3.sl, h121_3.sl⟩; have y121_3 := Ext.lk x121_3; have K121_3 : Lk wr u121_3 := Lk.trans K121_2 y121_3; have E121_3 := Ext.trans E121_2 x121_3; have M121_3_l := h121_2.old x121_3)
              | (go_at_call_of 16 a121_2; refine (hrat_q (r121_2.lk y121_3) r121_3 (Nat.le_trans sz11 (by decide)) (Nat.le_trans sz11 (by decide)) true (decide_eq_true rfl)).mono ?_; rintro e u121_4 ⟨rfl, x121_4⟩; have y121_4 := Ext.lk x121_4; have K121_4 : Lk wr u121_4 := Lk.trans K121_3 y121_4; have E121_4 := Ext.trans E121_3 x121_4; have M121_4_l := M121_3_l.old x121_4))
          have xk121 := K121_4; have xe121 := E121_4
          have xl121_l := M121_4_l
          clear r121_0 h121_0 g121_0 y121_0 K121_0 E121_0 M121_1_l x121_1 y121_1 K121_1 E121_1 r121_2 h121_2 g121_2 y121_2 K121_2 E121_2 r121_3 g121_3 h121_3 M121_3_l x121_3 y121_3 K121_3 E121_3 M121_4_l x121_4 y121_4 K121_4 E121_4
          have D1 := Lib.hid xk121; have EX1 := Lib.hid xe121; clear xk121 xe121
          have LE1_l := Lib.hid xl121_l; clear xl121_l
          go_wp2_with fail
          go_ret
          exact ⟨rfl, EX1.out⟩

end Go.Proofs.YtimcnhlcepemjaaGreatDoor
