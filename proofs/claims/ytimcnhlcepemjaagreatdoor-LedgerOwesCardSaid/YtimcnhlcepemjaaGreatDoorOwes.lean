/- gleanlaw24.LedgerOwes: the walk. -/
import Derived.Test.YtimcnhlcepemjaaGreatDoorOwM
namespace Go.Proofs.YtimcnhlcepemjaaGreatDoor
open Go.RowKit Go.Lib

def OwRel (W : World) (b ns ng : Nat) (iv : Value) (wr : World) : Prop :=
  ∃ (k : Nat) (M : Stakes), k ≤ ng ∧ iv = .int .i64 (k : Int) ∧ OwI ns 13 (1 + 21 * k) M ∧ Led wr b (ns + 1) M ∧ W.grownBy wr (some b)

set_option maxHeartbeats 16000000 in
set_option maxRecDepth 100000 in
theorem lowes_law {sa sg a0 : Option Addr} {ns cs ng cg m0 c0 : Nat} {vs vg : List (Option Addr × Nat × Nat)} {xs xg : List (List Nat)} {ys : List Nat} {w : World} (hs : Decs w sa ns cs vs xs) (ha : Sl w a0 m0 c0 ys) (hg : Decs w sg ng cg vg xg) {t : Nat} (ht : t < B64) {at_ : Int} (hat : -9223372036854775808 ≤ at_ ∧ at_ ≤ 9223372036854775807) (htz : TzTab w) (hM : MaxL w) :
    Calls Tryz.prog 8 #[.slice sa ns cs, DecV a0 m0 c0, .slice sg ng cg, .int .u64 (t : Int), .int .i64 at_] w (RetE (.bool true) w) := by
  obtain ⟨i0, hi, hs1⟩ := dec_info
  have H1 := Lib.hid hi; have H3 := Lib.hid hs1
  have HXS := Lib.hid hs; have HQ_ := Lib.hid ha; have HGV := Lib.hid hg; have HT := Lib.hid ht; have HAT := Lib.hid hat; have HTZ := Lib.hid htz; have HM := Lib.hid hM
  clear hi hs1 hs ha hg ht hat htz hM
  go_enter Tryz.func8, Tryz.ntmps8
  obtain ⟨V1, hV⟩ : ∃ V, w.alloc (.cells #[.slice a0 m0 c0] 35) = V := ⟨_, rfl⟩
  have R1 := Lib.hid (show V1.heap[w.heap.size]? = some (.cells #[.slice a0 m0 c0] 35 (0, 0)) by rw [← hV]; exact heap_alloc_new w _)
  have x1 : Ext w V1 := by rw [← hV]; exact (Ext.refl _).alloc _
  have HV1 := Lib.hid hV
  clear hV
  have D1 := Lib.hid (Ext.lk x1)
  have EX1 := Lib.hid (Ext.trans (Ext.refl _) x1)
  clear x1
  have C2 := Lib.hid (knownL_calls V1 (HTZ.out.lk D1.out) (HM.out.lk D1.out))
  go_wp2_with (rw [HV1.out])
  refine C2.out.mono ?_
  rintro e w2 ⟨rfl, x2⟩
  have D2 := Lib.hid (Ext.lk x2)
  have EX2 := Lib.hid (Ext.trans EX1.out x2)
  clear x2
  clear C2
  by_cases h_ns : ns ≤ 12
  rotate_left
  · have g_ns : (12 : Int) < (ns : Int) := by omega
    have jq := drow_cell (rowK D2.out R1.out)
    go_wp2_with fail
    go_ret
    exact ⟨rfl, EX2.out⟩
  have g_ns : ¬ (12 : Int) < (ns : Int) := by omega
  by_cases h_z : ns = 0
  · have g_z : ((ns : Int) == 0) = true := by simp [h_z]
    have g_z2 : (ns : Int) = 0 := by omega
    clear h_z
    have jq := drow_cell (rowK D2.out R1.out)
    go_wp2_with fail
    go_ret
    exact ⟨rfl, EX2.out⟩
  have g_z : ((ns : Int) == 0) = false := by rw [beq_eq_false_iff_ne]; omega
  have g_z2 : ¬ ((ns : Int) = 0) := by omega
  by_cases h_m0 : m0 ≤ 4
  rotate_left
  · have g_m0 : (4 : Int) < (m0 : Int) := by omega
    have jq := drow_cell (rowK D2.out R1.out)
    go_wp2_with fail
    go_ret
    exact ⟨rfl, EX2.out⟩
  have g_m0 : ¬ (4 : Int) < (m0 : Int) := by omega
  by_cases h_ng : ng ≤ 12
  rotate_left
  · have g_ng : (12 : Int) < (ng : Int) := by omega
    have jq := drow_cell (rowK D2.out R1.out)
    go_wp2_with fail
    go_ret
    exact ⟨rfl, EX2.out⟩
  have g_ng : ¬ (12 : Int) < (ng : Int) := by omega
  have jq := drow_cell (rowK D2.out R1.out)
  go_wp2_with fail
  go_loopw [11] (fun iv wr => PreRel w2 ns 4 vs iv wr) (fun iv _ => ns - (RowKit.intOf iv).toNat)
  case atStart => exact ⟨0, Nat.zero_le _, rfl, fun i v hi => absurd hi (by omega), rfl⟩
  case round =>
    obtain ⟨k, hk, rfl, hpre, rfl⟩ := hrel
    have HPRE := Lib.hid hpre; clear hpre
    by_cases hkn : k = ns
    rotate_left
    · skip
      have hlt : (k : Int) < (ns : Int) := by omega
      obtain ⟨v, hv⟩ : ∃ v, vs[k]? = some v := ⟨_, List.getElem?_eq_getElem (by rw [HXS.out.sl.len]; omega)⟩
      obtain ⟨ba, oa, hixa, hca⟩ := (HXS.out.sl.lk (Lk.trans D1.out D2.out)).ix (P := Tryz.prog) Tryz.underlying55 H1.out H3.out
      have x1 := hixa k (by omega); have x2 := hca k v hv; have HV := Lib.hid hv; clear hixa hca hv
      obtain ⟨v1, v2, v3⟩ := v
      simp only at x2
      by_cases h4 : v2 ≤ 4
      · skip
        have HN := Lib.hid (show ∀ i v, i < k + 1 → vs[i]? = some v → v.2.1 ≤ 4 from fun i v hi hv => by
          by_cases e : i = k
          · subst e; rw [HV.out] at hv; cases hv; exact h4
          · exact HPRE.out i v (by omega) hv)
        have g1 : ¬ ((4 : Int) < (v2 : Int)) := by omega
        go_wp2_with fail
        go_roundw
        case rel => exact ⟨k + 1, by omega, by go_num, HN.out, rfl⟩
        case measure => simp only [RowKit.intOf]; omega
      · skip
        have g1 : ((4 : Int) < (v2 : Int)) := by omega
        go_wp2_with fail
        go_ret
        exact ⟨rfl, EX2.out⟩
    have HPREA := Lib.hid (show ∀ i v, i < ns → vs[i]? = some v → v.2.1 ≤ 4 by rw [← hkn]; exact HPRE.out); clear HPRE
    have hgeA : ¬ ((k : Int) < (ns : Int)) := by omega
    have HKNA := Lib.hid hkn; clear hkn hk
    have C3 := Lib.hid (held_calls (HXS.out.lk (Lk.trans D1.out D2.out)) (by omega) (fun i v hv => Nat.le_trans (HPREA.out i v (by have := (List.getElem?_eq_some_iff.1 hv).1; rw [HXS.out.sl.len] at this; exact this) hv) (by decide)) (HQ_.out.lk (Lk.trans D1.out D2.out)) (Nat.le_trans h_m0 (by decide)) HT.out (HTZ.out.lk (Lk.trans D1.out D2.out)))
    go_wp2_with fail
    refine C3.out.mono ?_
    rintro e w3 ⟨p, b, rfl, h3, q3, z3, x3⟩
    have HB := Lib.hid (Nat.le_trans EX2.out.size z3); have HLED := Lib.hid h3; have HPC := Lib.hid q3; clear h3 q3 z3 C3
    have D3 := Lib.hid (Ext.lk x3)
    have EX3 := Lib.hid (Ext.trans EX2.out x3)
    clear x3
    have HTW := Lib.hid (HTZ.out.lk (Lk.trans D1.out (Lk.trans D2.out D3.out))); have HEX := Lib.hid EX3.out; have HGS := Lib.hid (HGV.out.lk (Lk.trans D1.out (Lk.trans D2.out D3.out)))
    have HOI := Lib.hid (heldM_owi (S := val ys) (fun x hx => decs_ln HXS.out HPREA.out x hx) (Nat.le_trans (ln_val HQ_.out) h_m0) HT.out)
    have HST := Lib.hid (show OwRel w3 b ns ng (.int .i64 0) w3 from ⟨0, _, Nat.zero_le _, rfl, by rw [← HXS.out.len]; exact HOI.out, HLED.out, (Ext.refl _).by_ _⟩)
    have HMB := Lib.hid HLED.out.isMapB; have HNS := Lib.hid h_ns; have HNZ := Lib.hid (show 0 < ns by omega)
    clear g_z g_z2 h_z g_ns g_m0 h_ns HLED HOI hgeA
    go_wp2_with fail
    go_loopw [13] (fun iv wr => OwRel w3 b ns ng iv wr) (fun iv _ => ng - (RowKit.intOf iv).toNat)
    case atStart => exact HST.out
    case round =>
      obtain ⟨j, M, hj, rfl, hoi, hled, hg⟩ := hrel
      have HOI := Lib.hid hoi; have HLED := Lib.hid hled; have HG := Lib.hid hg; have HK := Lib.hid (HMB.out.lk hg); have EX0 := Lib.hid (Ext.mx HEX.out HB.out hg); have HTR := Lib.hid (HTW.out.lk (HMB.out.lk hg)); have HPR := Lib.hid ((HMB.out.lk hg).cell HPC.out)
      clear hoi hled hg
      by_cases hjn : j = ng
      rotate_left
      · skip
        have hlt : (j : Int) < (ng : Int) := by omega
        obtain ⟨v, hv⟩ : ∃ v, vg[j]? = some v := ⟨_, List.getElem?_eq_getElem (by rw [HGV.out.sl.len]; omega)⟩
        obtain ⟨x, hx⟩ : ∃ x, xg[j]? = some x := ⟨_, List.getElem?_eq_getElem (by rw [HGV.out.len]; omega)⟩
        have HSX := Lib.hid ((HGS.out.at_ j v x hv hx).lk HK.out)
        obtain ⟨ba, oa, hixa, hca⟩ := (HGS.out.sl.lk HK.out).ix (P := Tryz.prog) Tryz.underlying55 H1.out H3.out
        have x1 := hixa j (by omega); have x2 := hca j v hv; clear hixa hca hv hx
        obtain ⟨v1, v2, v3⟩ := v
        simp only at x2 HSX
        by_cases h4 : v2 ≤ 4
        · skip
          have g1 : ¬ ((4 : Int) < (v2 : Int)) := by omega
          have HSZ := Lib.hid (sz_share (t := t) (Nat.le_trans (ln_val HSX.out) h4) HT.out)
          have HJ := Lib.hid (show j ≤ 12 by omega); have HNS1 := Lib.hid (show ns + 1 ≤ 1000000 by have := HNS.out; omega)
          have CG := Lib.hid (lgive_calls (H := 13) (O := 1 + 21 * j) HLED.out HNS1.out HPR.out (v := 16) (by decide) HSX.out (Nat.le_trans h4 (by decide)) HT.out HTR.out (by decide) (by have := HJ.out; omega) (fun d s h => HOI.out.ok d s h))
          go_wp2_with fail
          refine CG.out.mono ?_
          rintro e w4 ⟨rfl, h4, g4⟩
          have HR4 := Lib.hid (And.intro ((HOI.out.give _ HSZ.out).mono (show 1 + 21 * j + 13 + (4 + 3) + 1 ≤ 1 + 21 * (j + 1) by omega)) (And.intro h4 (grownBy_trans HG.out g4))); clear h4 g4 CG
          go_wp2_with fail
          go_roundw
          case rel => exact ⟨j + 1, _, by omega, by go_num, HR4.out.1, HR4.out.2.1, HR4.out.2.2⟩
          case measure => simp only [RowKit.intOf]; omega
        · skip
          have g1 : ((4 : Int) < (v2 : Int)) := by omega
          go_wp2_with fail
          go_ret
          exact ⟨rfl, EX0.out⟩
      have hge2 : ¬ ((j : Int) < (ng : Int)) := by omega
      obtain ⟨r, hr, CP⟩ := hplace_calls at_ HAT.out ns ⟨HNZ.out, Nat.le_trans HNS.out (by decide)⟩ wr
      have HOA := ow_all HOI.out (by decide) (by omega) hr HNS.out
      obtain ⟨M1, M2, qO, qS, qe, qL, hall⟩ := HOA
      have HALL := Lib.hid hall; have HR := Lib.hid (show r < B64 by have := HNS.out; have := B64_eq; omega); have HNB := Lib.hid (show ns + 1 ≤ 1000000 by have := HNS.out; omega); have HNB2 := Lib.hid (show (ns + 1) * (500 + 1) ≤ 90000 by have := HNS.out; omega); have HCP := Lib.hid CP
      have hwr : IntKind.u64.wrap (r : Int) = (r : Int) := IntWalk.u64_in _ (by have := HNS.out; omega)
      have HJN := Lib.hid hjn; clear hall CP hjn hj
      have HTZ0 := HTZ; clear HTZ; have HTZ := HTR
      have C41 := Lib.hid (HCP.out)
      go_wp2_with fail
      refine C41.out.mono ?_
      rintro e w' ⟨rfl, rfl⟩
      clear C41
      clear HCP
      have C42 := Lib.hid (lowes_as (H := 500) HLED.out HNB.out HPR.out (v := 16) (by decide) HTZ.out (by decide) HNB2.out (fun d s h => (HALL.out.ok0 d s h).2) (q := qO) HALL.out.o1)
      go_wp2_with fail
      refine C42.out.mono ?_
      rintro e w42 ⟨a42, n42, c42, b42, m42, d42, rfl, r42, h42, g42⟩
      have S42 := Lib.hid r42; clear r42
      have D1 := Lib.hid (HLED.out.isMapB.lk g42)
      have EX1 := Lib.hid (Ext.mx EX0.out HB.out g42)
      have LE1_l := Lib.hid h42
      clear g42 h42
      clear C42
      have C43 := Lib.hid (lstakes_as (H := 500) LE1_l.out HNB.out (D1.out.cell HPR.out) (v := 16) (by decide) (HTZ.out.lk D1.out) (by decide) HNB2.out (fun d s h => (HALL.out.ok0 d s h).1) (q := qS) HALL.out.s1)
      go_wp2_with fail
      refine C43.out.mono ?_
      rintro e w43 ⟨a43, n43, c43, b43, m43, d43, rfl, r43, h43, g43⟩
      have S43 := Lib.hid r43; clear r43
      have D2 := Lib.hid (LE1_l.out.isMapB.lk g43)
      have EX2 := Lib.hid (Ext.mx EX1.out HB.out g43)
      have LE2_l := Lib.hid h43
      clear g43 h43
      clear C43
      obtain ⟨V44, hV⟩ : ∃ V, w43.alloc (.cells #[.slice a42 n42 c42, .slice b42 m42 d42] 40) = V := ⟨_, rfl⟩
      have R44 := Lib.hid (show V44.heap[w43.heap.size]? = some (.cells #[.slice a42 n42 c42, .slice b42 m42 d42] 40 (0, 0)) by rw [← hV]; exact heap_alloc_new w43 _)
      have x44 : Ext w43 V44 := by rw [← hV]; exact (Ext.refl _).alloc _
      have HV44 := Lib.hid hV
      clear hV
      have D3 := Lib.hid (Ext.lk x44)
      have EX3 := Lib.hid (Ext.trans EX2.out x44)
      have LE3_l := Lib.hid (LE2_l.out.old x44)
      clear x44
      obtain ⟨V45, hV⟩ : ∃ V, V44.alloc (.cells #[.slice a43 n43 c43, .slice b43 m43 d43] 40) = V := ⟨_, rfl⟩
      have R45 := Lib.hid (show V45.heap[V44.heap.size]? = some (.cells #[.slice a43 n43 c43, .slice b43 m43 d43] 40 (0, 0)) by rw [← hV]; exact heap_alloc_new V44 _)
      have x45 : Ext V44 V45 := by rw [← hV]; exact (Ext.refl _).alloc _
      have HV45 := Lib.hid hV
      clear hV
      have D4 := Lib.hid (Ext.lk x45)
      have EX4 := Lib.hid (Ext.trans EX3.out x45)
      have LE4_l := Lib.hid (LE3_l.out.old x45)
      clear x45
      have HVab := Lib.hid (show (w43.alloc (.cells #[.slice a42 n42 c42, .slice b42 m42 d42] 40)).alloc (.cells #[.slice a43 n43 c43, .slice b43 m43 d43] 40) = V45 by rw [HV44.out]; exact HV45.out)
      have HSA := Lib.hid (show V44.heap.size = w43.heap.size + 1 by rw [← HV44.out, alloc_size])
      have RS0 := R45.out; rw [HSA.out] at RS0; have RS := Lib.hid RS0; clear RS0 HV44 HV45
      have C46 := Lib.hid (lsettle_as LE4_l.out HNB.out ((Lk.trans D1.out (Lk.trans D2.out (Lk.trans D3.out D4.out))).cell HPR.out) (v := 16) (d := r) (by decide) HR.out HALL.out.z1 (HTZ.out.lk (Lk.trans D1.out (Lk.trans D2.out (Lk.trans D3.out D4.out)))) HALL.out.m1 HALL.out.e1 HALL.out.p1 HALL.out.k1)
      go_wp2_with (rw [HVab.out])
      refine C46.out.mono ?_
      rintro e w46 ⟨a46, n46, c46, b46, m46, d46, rfl, r46, h46, g46⟩
      have S46 := Lib.hid r46; clear r46
      have D5 := Lib.hid (LE4_l.out.isMapB.lk g46)
      have EX5 := Lib.hid (Ext.mx EX4.out HB.out g46)
      have LE5_l := Lib.hid h46
      clear g46 h46
      clear C46
      obtain ⟨V47, hV⟩ : ∃ V, w46.alloc (.cells #[.slice a46 n46 c46, .slice b46 m46 d46] 40) = V := ⟨_, rfl⟩
      have R47 := Lib.hid (show V47.heap[w46.heap.size]? = some (.cells #[.slice a46 n46 c46, .slice b46 m46 d46] 40 (0, 0)) by rw [← hV]; exact heap_alloc_new w46 _)
      have x47 : Ext w46 V47 := by rw [← hV]; exact (Ext.refl _).alloc _
      have HV47 := Lib.hid hV
      clear hV
      have D6 := Lib.hid (Ext.lk x47)
      have EX6 := Lib.hid (Ext.trans EX5.out x47)
      have LE6_l := Lib.hid (LE5_l.out.old x47)
      clear x47
      have jwas1 := (row2_cells (rowK (Lk.trans D4.out (Lk.trans D5.out D6.out)) R44.out)).1; have jwas2 := (row2_cells (rowK (Lk.trans D4.out (Lk.trans D5.out D6.out)) R44.out)).2.1
      have je1 := (row2_cells R47.out).1; have je2 := (row2_cells R47.out).2.1
      have C48 := Lib.hid (rsub_q (S42.out.lk (Lk.trans D2.out (Lk.trans D3.out (Lk.trans D4.out (Lk.trans D5.out D6.out))))) (S46.out.lk D6.out) (Nat.le_trans HALL.out.y1 (by decide)) (Nat.le_trans HALL.out.y3 (by decide)) (HTZ.out.lk (Lk.trans D1.out (Lk.trans D2.out (Lk.trans D3.out (Lk.trans D4.out (Lk.trans D5.out D6.out)))))) HALL.out.le HALL.out.l)
      go_wp2_with (rw [HV47.out])
      refine C48.out.mono ?_
      rintro e w48 ⟨a48, n48, c48, b48, m48, d48, rfl, g48, h48, x48, -, -⟩
      clear jwas1 jwas2 je1 je2
      have S48 : Hid (RA w48 a48 n48 c48 b48 m48 d48 qL) := Lib.hid ⟨g48.sl, h48.sl⟩
      clear g48 h48
      have D7 := Lib.hid (Ext.lk x48)
      have EX7 := Lib.hid (Ext.trans EX6.out x48)
      have LE7_l := Lib.hid (LE6_l.out.old x48)
      clear x48
      clear C48
      obtain ⟨V49, hV⟩ : ∃ V, w48.alloc (.cells #[.slice a48 n48 c48, .slice b48 m48 d48] 40) = V := ⟨_, rfl⟩
      have R49 := Lib.hid (show V49.heap[w48.heap.size]? = some (.cells #[.slice a48 n48 c48, .slice b48 m48 d48] 40 (0, 0)) by rw [← hV]; exact heap_alloc_new w48 _)
      have x49 : Ext w48 V49 := by rw [← hV]; exact (Ext.refl _).alloc _
      have HV49 := Lib.hid hV
      clear hV
      have D8 := Lib.hid (Ext.lk x49)
      have EX8 := Lib.hid (Ext.trans EX7.out x49)
      have LE8_l := Lib.hid (LE7_l.out.old x49)
      clear x49
      have C50 := Lib.hid (lsettle_as LE8_l.out HNB.out ((Lk.trans D1.out (Lk.trans D2.out (Lk.trans D3.out (Lk.trans D4.out (Lk.trans D5.out (Lk.trans D6.out (Lk.trans D7.out D8.out))))))).cell HPR.out) (v := 16) (d := r) (by decide) HR.out HALL.out.z2 (HTZ.out.lk (Lk.trans D1.out (Lk.trans D2.out (Lk.trans D3.out (Lk.trans D4.out (Lk.trans D5.out (Lk.trans D6.out (Lk.trans D7.out D8.out)))))))) HALL.out.m2 HALL.out.e2 HALL.out.p2 HALL.out.k2)
      go_wp2_with (rw [HV49.out])
      refine C50.out.mono ?_
      rintro e w50 ⟨a50, n50, c50, b50, m50, d50, rfl, r50, h50, g50⟩
      have S50 := Lib.hid r50; clear r50
      have D9 := Lib.hid (LE8_l.out.isMapB.lk g50)
      have EX9 := Lib.hid (Ext.mx EX8.out HB.out g50)
      have LE9_l := Lib.hid h50
      clear g50 h50
      clear C50
      obtain ⟨V51, hV⟩ : ∃ V, w50.alloc (.cells #[.slice a50 n50 c50, .slice b50 m50 d50] 40) = V := ⟨_, rfl⟩
      have R51 := Lib.hid (show V51.heap[w50.heap.size]? = some (.cells #[.slice a50 n50 c50, .slice b50 m50 d50] 40 (0, 0)) by rw [← hV]; exact heap_alloc_new w50 _)
      have x51 : Ext w50 V51 := by rw [← hV]; exact (Ext.refl _).alloc _
      have HV51 := Lib.hid hV
      clear hV
      have D10 := Lib.hid (Ext.lk x51)
      have EX10 := Lib.hid (Ext.trans EX9.out x51)
      have LE10_l := Lib.hid (LE9_l.out.old x51)
      clear x51
      have H52 : Hid (∀ w', Lk V51 w' → w'.cell? ⟨w48.heap.size, 0, none⟩ = some (.slice a48 n48 c48) ∧ w'.cell? ⟨w48.heap.size, 1, none⟩ = some (.slice b48 m48 d48) ∧ w'.cell? ⟨(w43.heap.size + 1), 0, none⟩ = some (.slice a43 n43 c43) ∧ w'.cell? ⟨(w43.heap.size + 1), 1, none⟩ = some (.slice b43 m43 d43) ∧ w'.cell? ⟨w50.heap.size, 0, none⟩ = some (.slice a50 n50 c50) ∧ w'.cell? ⟨w50.heap.size, 1, none⟩ = some (.slice b50 m50 d50)) := Lib.hid (fun w' h => ⟨(row2_cells (rowK (Lk.trans (Lk.trans D9.out D10.out) h) R49.out)).1, (row2_cells (rowK (Lk.trans (Lk.trans D9.out D10.out) h) R49.out)).2.1, (row2_cells (rowK (Lk.trans (Lk.trans D5.out (Lk.trans D6.out (Lk.trans D7.out (Lk.trans D8.out (Lk.trans D9.out D10.out))))) h) RS.out)).1, (row2_cells (rowK (Lk.trans (Lk.trans D5.out (Lk.trans D6.out (Lk.trans D7.out (Lk.trans D8.out (Lk.trans D9.out D10.out))))) h) RS.out)).2.1, (row2_cells (rowK h R51.out)).1, (row2_cells (rowK h R51.out)).2.1⟩)
      go_wp2_with (rw [HV51.out])
      go_region_held3 (fun w' => w'.cell? ⟨w48.heap.size, 0, none⟩ = some (.slice a48 n48 c48) ∧ w'.cell? ⟨w48.heap.size, 1, none⟩ = some (.slice b48 m48 d48) ∧ w'.cell? ⟨(w43.heap.size + 1), 0, none⟩ = some (.slice a43 n43 c43) ∧ w'.cell? ⟨(w43.heap.size + 1), 1, none⟩ = some (.slice b43 m43 d43) ∧ w'.cell? ⟨w50.heap.size, 0, none⟩ = some (.slice a50 n50 c50) ∧ w'.cell? ⟨w50.heap.size, 1, none⟩ = some (.slice b50 m50 d50))
        (first | exact H52.out _ (Ext.refl _).drew.lk | exact H52.out _ (by assumption))
        (first
          | (go_at_call 29; refine (lowes_as (H := 500) (LE10_l.out.old (Ext.refl _).drew) HNB.out ((Lk.trans (Lk.trans D1.out (Lk.trans D2.out (Lk.trans D3.out (Lk.trans D4.out (Lk.trans D5.out (Lk.trans D6.out (Lk.trans D7.out (Lk.trans D8.out (Lk.trans D9.out D10.out))))))))) (Ext.refl V51).drew.lk).cell HPR.out) (v := 16) (by decide) (HTZ.out.lk (Lk.trans (Lk.trans D1.out (Lk.trans D2.out (Lk.trans D3.out (Lk.trans D4.out (Lk.trans D5.out (Lk.trans D6.out (Lk.trans D7.out (Lk.trans D8.out (Lk.trans D9.out D10.out))))))))) (Ext.refl V51).drew.lk)) (by decide) HNB2.out (fun d s h => (HALL.out.ok2 d s h).2) (q := qL) HALL.out.o2).mono ?_; rintro e u52_0 ⟨a52_0, n52_0, c52_0, b52_0, m52_0, d52_0, rfl, r52_0, h52_0, g52_0⟩; have y52_0 : Lk V51.drew u52_0 := (LE10_l.out.old (Ext.refl _).drew).isMapB.lk g52_0; have K52_0 : Lk V51 u52_0 := Lk.trans (Ext.refl V51).drew.lk y52_0; have E52_0 := Ext.mx (EX10.out.drew) HB.out g52_0)
          | (go_at_call_of 16 a52_0; refine (hrat_q r52_0 (S48.out.lk (Lk.trans (Lk.trans D8.out (Lk.trans D9.out D10.out)) K52_0)) HALL.out.y4 HALL.out.y4 true (decide_eq_true rfl)).mono ?_; rintro e u52_1 ⟨rfl, x52_1⟩; have y52_1 := Ext.lk x52_1; have K52_1 : Lk V51 u52_1 := Lk.trans K52_0 y52_1; have E52_1 := Ext.trans E52_0 x52_1; have M52_1_l := h52_0.old x52_1)
          | (go_at_call 27; refine (lstakes_as (H := 500) M52_1_l HNB.out ((Lk.trans (Lk.trans D1.out (Lk.trans D2.out (Lk.trans D3.out (Lk.trans D4.out (Lk.trans D5.out (Lk.trans D6.out (Lk.trans D7.out (Lk.trans D8.out (Lk.trans D9.out D10.out))))))))) K52_1).cell HPR.out) (v := 16) (by decide) (HTZ.out.lk (Lk.trans (Lk.trans D1.out (Lk.trans D2.out (Lk.trans D3.out (Lk.trans D4.out (Lk.trans D5.out (Lk.trans D6.out (Lk.trans D7.out (Lk.trans D8.out (Lk.trans D9.out D10.out))))))))) K52_1)) (by decide) HNB2.out (fun d s h => (HALL.out.ok2 d s h).1) (q := qS) HALL.out.s2).mono ?_; rintro e u52_2 ⟨a52_2, n52_2, c52_2, b52_2, m52_2, d52_2, rfl, r52_2, h52_2, g52_2⟩; have y52_2 : Lk u52_1 u52_2 := M52_1_l.isMapB.lk g52_2; have K52_2 : Lk V51 u52_2 := Lk.trans K52_1 y52_2; have E52_2 := Ext.mx E52_1 HB.out g52_2)
          | (go_at_call_of 16 a52_2; refine (hrat_q r52_2 (S43.out.lk (Lk.trans (Lk.trans D3.out (Lk.trans D4.out (Lk.trans D5.out (Lk.trans D6.out (Lk.trans D7.out (Lk.trans D8.out (Lk.trans D9.out D10.out))))))) K52_2)) (Nat.le_trans HALL.out.y2 (by decide)) (Nat.le_trans HALL.out.y2 (by decide)) true (decide_eq_true rfl)).mono ?_; rintro e u52_3 ⟨rfl, x52_3⟩; have y52_3 := Ext.lk x52_3; have K52_3 : Lk V51 u52_3 := Lk.trans K52_2 y52_3; have E52_3 := Ext.trans E52_2 x52_3; have M52_3_l := h52_2.old x52_3)
          | (go_at_call 39; refine (rzero_q (S50.out.lk (Lk.trans D10.out K52_3))).mono ?_; rintro e u52_4 ⟨rfl, x52_4⟩; have y52_4 := Ext.lk x52_4; have K52_4 : Lk V51 u52_4 := Lk.trans K52_3 y52_4; have E52_4 := Ext.trans E52_3 x52_4; have M52_4_l := M52_3_l.old x52_4))
      have xk52 := K52_4; have xe52 := E52_4
      have xl52_l := M52_4_l
      clear r52_0 h52_0 g52_0 y52_0 K52_0 E52_0 M52_1_l x52_1 y52_1 K52_1 E52_1 r52_2 h52_2 g52_2 y52_2 K52_2 E52_2 M52_3_l x52_3 y52_3 K52_3 E52_3 M52_4_l x52_4 y52_4 K52_4 E52_4
      have D11 := Lib.hid xk52; have EX11 := Lib.hid xe52; clear xk52 xe52
      have LE11_l := Lib.hid xl52_l; clear xl52_l
      go_wp2_with fail
      go_ret
      exact ⟨rfl, EX11.out⟩

end Go.Proofs.YtimcnhlcepemjaaGreatDoor
