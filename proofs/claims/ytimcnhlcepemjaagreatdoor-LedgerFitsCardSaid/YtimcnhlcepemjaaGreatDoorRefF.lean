/- gleanref24.Fits. -/
import Derived.Test.YtimcnhlcepemjaaGreatDoorLedJ
import Derived.Test.YtimcnhlcepemjaaGreatDoorRefL
namespace Go.Proofs.YtimcnhlcepemjaaGreatDoor
open Go.RowKit

theorem frofdec_q {a : Option Addr} {m c : Nat} {xs : List Nat} {w : World} (ha : Sl w a m c xs) (hm : m ≤ 100000) : Calls Tryz.prog 57 #[DecV a m c] w (NewQ w (decQ (val xs))) :=
  (frofdec_calls ha hm).mono fun _ _ h => h.q
theorem fradd_q {a1 b1 a2 b2 : Option Addr} {m1 n1 c1 d1 m2 n2 c2 d2 : Nat} {p q : Nat × Nat} {w : World} (h1 : RA w a1 m1 c1 b1 n1 d1 p) (h2 : RA w a2 m2 c2 b2 n2 d2 q) (hp : sz p ≤ 10000) (hq : sz q ≤ 10000) :
    Calls Tryz.prog 54 #[RatV a1 m1 c1 b1 n1 d1, RatV a2 m2 c2 b2 n2 d2] w (NewQ w (addR p q)) := by
  have l1 := h1.len; have l2 := h2.len
  have := fradd_calls h1.nu h1.de h2.nu h2.de (by omega) (by omega) (by omega) (by omega)
  rw [val_lim, val_lim, val_lim, val_lim] at this
  exact this.mono fun _ _ h => h.q
theorem frcmp_g {a1 b1 a2 b2 : Option Addr} {m1 n1 c1 d1 m2 n2 c2 d2 : Nat} {p q : Nat × Nat} {w : World} (h1 : RG w a1 m1 c1 b1 n1 d1 p) (h2 : RG w a2 m2 c2 b2 n2 d2 q) (hm1 : m1 ≤ 10000) (hn1 : n1 ≤ 10000) (hm2 : m2 ≤ 10000) (hn2 : n2 ≤ 10000) (v : Int) (hv : cmpN (dN p.1 p.2 * dD q.2) (dN q.1 q.2 * dD p.2) = v) :
    Calls Tryz.prog 73 #[RatV a1 m1 c1 b1 n1 d1, RatV a2 m2 c2 b2 n2 d2] w (RetE (.int .i64 v) w) := by
  obtain ⟨xs1, ys1, s1, s2, v1, v2⟩ := h1
  obtain ⟨xs2, ys2, s3, s4, v3, v4⟩ := h2
  have := frcmp_calls s1 s2 s3 s4 hm1 hn1 hm2 hn2
  rw [v1, v2, v3, v4, hv] at this
  exact this
theorem frof_as {a b : Option Addr} {m n c d : Nat} {xs ys : List Nat} {w : World} (ha : Sl w a m c xs) (hb : Sl w b n d ys) (hm : m ≤ 1000000) (hn : n ≤ 1000000) {x y : Nat} (hx : val xs = x) (hy : val ys = y) (hy0 : y ≠ 0) {q : Nat × Nat} (hq : (rN x y, rD x y) = q) :
    Calls Tryz.prog 63 #[.slice a m c, .slice b n d] w (NewRE w (8 * m + 8 * n) (8 * m + 8 * n) (lim q.1) (lim q.2) 0) := by
  have h := frof_pos ha hb hm hn (by omega)
  rw [hx, hy] at h
  rw [← hq]
  exact h

set_option maxHeartbeats 8000000 in
set_option maxRecDepth 100000 in
theorem frfits_calls {w : World} {a1 b1 : Option Addr} {m1 c1 n1 d1 : Nat} {eq : Nat × Nat} (he : RG w a1 m1 c1 b1 n1 d1 eq) (hm1 : m1 ≤ 1000) (hn1 : n1 ≤ 1000) {n : Nat} (hn : n < B64) {a0 : Option Addr} {m0 c0 : Nat} {xs0 : List Nat} (hx : Sl w a0 m0 c0 xs0) (hm : m0 ≤ 1000)
    {p k : Int} {P K : Nat} (hp : max p 0 = (P : Int)) (hk : max k 0 = (K : Int)) (hP : P < 9223372036854775808) (hK : K < 9223372036854775808) :
    Calls Tryz.prog 32 #[RatV a1 m1 c1 b1 n1 d1, .int .u64 (n : Int), DecV a0 m0 c0, .int .i64 p, .int .i64 k] w (RetE (.bool (fitsB eq n (val xs0) P K)) w) := by
  have hlx := ln_val hx
  obtain ⟨X, hX⟩ : ∃ x, val xs0 = x := ⟨_, rfl⟩
  rw [hX] at hlx
  rw [hX]
  obtain ⟨Y, hY⟩ : ∃ x, n * U36 + X = x := ⟨_, rfl⟩
  obtain ⟨X1, hX1⟩ : ∃ X, w.alloc (.cells #[.slice a1 m1 c1, .slice b1 n1 d1] 40) = X := ⟨_, rfl⟩
  obtain ⟨X2, hX2⟩ : ∃ X, X1.alloc (.cells #[.slice a0 m0 c0] 35) = X := ⟨_, rfl⟩
  have E1 : Ext w X1 := by rw [← hX1]; exact (Ext.refl w).alloc _
  have E2 : Ext X1 X2 := by rw [← hX2]; exact (Ext.refl X1).alloc _
  have hs1 : X1.heap.size = w.heap.size + 1 := by rw [← hX1, alloc_size]
  have R1 : X1.heap[w.heap.size]? = some (.cells #[.slice a1 m1 c1, .slice b1 n1 d1] 40 (0, 0)) := by rw [← hX1]; exact heap_alloc_new w _
  have R2 : X2.heap[w.heap.size + 1]? = some (.cells #[.slice a0 m0 c0] 35 (0, 0)) := by rw [← hs1, ← hX2]; exact heap_alloc_new X1 _
  have E := E1.trans E2
  unfold fitsB
  rw [hY]
  have HX1 := Lib.hid hX1; have HX2 := Lib.hid hX2; have HS1 := Lib.hid hs1; have HE := Lib.hid E; have HR1 := Lib.hid (rowE E2 R1); have HR2 := Lib.hid R2; have HEQ := Lib.hid (he.old E); have HSX := Lib.hid (hx.old E); have HVX := Lib.hid hX; have HY := Lib.hid hY; have HN := Lib.hid hn; have HPP := Lib.hid hp; have HKK := Lib.hid hk; have HPB := Lib.hid hP; have HKB := Lib.hid hK
  have HBC := Lib.hid (fun w' (F : Ext X2 w') => (show w'.cell? ⟨w.heap.size + 1, 0, none⟩ = some (.slice a0 m0 c0) from by rw [cell_of_row _ _ _ _ _ _ (rowE F R2)]; rfl))
  have HLY := Lib.hid (show ln Y ≤ 1010 by rw [← hY]; exact ln_paid hn (Nat.le_trans hlx hm))
  clear hX1 hX2 hs1 R1 R2 E1 E2 E he hx hX hY hn hp hk hP hK hlx
  go_enter Tryz.func32, Tryz.ntmps32
  go_upto_region 2 with (first | rw [HX1.out] | rw [HX2.out, HS1.out] | rw [HX2.out])
  go_cut [11] from 17 to 21 (fun v1 wx => ∃ (B : Nat) (o1 : Option Addr) (z1 y1 : Nat) (o2 : Option Addr) (z2 y2 : Nat), v1 = .pointer (some ⟨B, 0, none⟩) ∧ wx.heap[B]? = some (.cells #[.slice o1 z1 y1, .slice o2 z2 y2] 40 (0, 0)) ∧ RA wx o1 z1 y1 o2 z2 y2 (decQ Y) ∧ Ext X2 wx)
  case first =>
    go_wp2_with (first | rw [HX1.out] | rw [HX2.out, HS1.out] | rw [HX2.out])
    go_region_held3 (fun w' => w'.cell? ⟨w.heap.size + 1, 0, none⟩ = some (.slice a0 m0 c0))
      (first | exact HBC.out _ (Ext.refl _).drew | exact HBC.out _ ((Ext.refl _).drew.alloc _) | exact HBC.out _ ((Ext.refl _).alloc _).drew | exact HBC.out _ (by assumption) | exact HBC.out _ (Ext.alloc (by assumption) _) | exact HBC.out _ (set2_ext (by assumption) (Nat.le_refl _) _ _) | exact HBC.out _ (set2_ext (by assumption) (Ext.size (by assumption)) _ _))
      (first
        | (go_at_call 72; refine (rdof_calls n HN.out _).mono ?_; rintro e yA ⟨o5, z5, y5, rfl, q5, xA, lA⟩; have EA : Ext X2 yA := (by first | exact (Ext.refl _).drew.trans xA | exact ((Ext.refl _).drew.alloc _).trans xA | exact ((Ext.refl _).alloc _).drew.trans xA); (first | have R9 := Lib.hid (box2_row (w := X2) (u := .slice none 0 0) (v := .slice none 0 0) (T := 40) (show Ext (X2.alloc (.cells #[.slice none 0 0, .slice none 0 0] 40)) yA from (Ext.refl _).drew.trans xA)) | skip))
        | (go_at_call 71; refine (rdadd_calls (by first | exact q5.sl | exact q5.sl.old ((Ext.refl _).alloc _)) (HSX.out.old (by first | exact EA | exact EA.alloc _)) (by omega) (by omega)).mono ?_; rintro e yB ⟨o6, z6, y6, rfl, q6, xB, lB⟩; rw [val_lim, HVX.out, HY.out] at q6; have EB : Ext X2 yB := (by first | exact EA.trans xB | exact (EA.alloc _).trans xB); (first | have R9 := Lib.hid (rowE xB R9.out) | have R9 := Lib.hid (box2_row (w := yA) (u := .slice none 0 0) (v := .slice none 0 0) (T := 40) xB) | skip))
        | (go_at_call 57; refine (frofdec_q (by first | exact q6.sl | exact q6.sl.old ((Ext.refl _).alloc _)) (by omega)).mono ?_; rintro e yC ⟨o7, z7, y7, o8, z8, y8, rfl, q7, q8, xC⟩; rw [val_lim] at q7 q8; have EC : Ext X2 yC := (by first | exact EB.trans xC | exact (EB.alloc _).trans xC); (first | have R9 := Lib.hid (rowE xC R9.out) | have R9 := Lib.hid (box2_row (w := yB) (u := .slice none 0 0) (v := .slice none 0 0) (T := 40) xC) | skip); (first | have k1 := (row2_cells R9.out).1 | skip); (first | have k2 := (row2_cells R9.out).2.1 | skip); (first | have k3 := (row2_cells R9.out).2.2.1 | skip); (first | have k4 := (row2_cells R9.out).2.2.2 | skip)))
    all_goals (
      have HQ := Lib.hid (And.intro q7.sl q8.sl)
      go_wp2_with fail
      go_meet
      first
        | (have LN := ((Tn.cell1 (i := 0) (Ext.refl yC) (.slice o7 z7 y7) none).cell2 (i := 1) (.slice o8 z8 y8)).ln (noNum2 R9.out) (fun o h => by cases h)
           exact ⟨_, o7, z7, y7, o8, z8, y8, rfl, set2_row R9.out _ _, ⟨HQ.out.1.ln LN, HQ.out.2.ln LN⟩, (by first | exact set2_ext EC (Nat.le_refl _) _ _ | exact set2_ext EC (Ext.size (by assumption)) _ _)⟩)
        | exact ⟨_, o7, z7, y7, o8, z8, y8, rfl, heap_alloc_new yC _, ⟨HQ.out.1.old ((Ext.refl _).alloc _), HQ.out.2.old ((Ext.refl _).alloc _)⟩, EC.alloc _⟩)
  obtain ⟨B, o1, z1, y1, o2, z2, y2, rfl, hrB, hpq, hxc⟩ := hcut
  have HRB := Lib.hid hrB; have HPQ := Lib.hid hpq; have HXC := Lib.hid hxc
  clear hrB hpq hxc
  have EX0 := Lib.hid (HE.out.trans HXC.out); have HEC := Lib.hid (HEQ.out.old HXC.out); have HR1C := Lib.hid (rowE HXC.out HR1.out)
  obtain ⟨pq, hpq⟩ : ∃ x, decQ Y = x := ⟨_, rfl⟩
  have hs2 : sz pq ≤ 1100 := by rw [← hpq]; have a := sz_dec Y; have b := HLY.out; omega
  obtain ⟨sq, hsq⟩ : ∃ x, slackQ P K = x := ⟨_, rfl⟩
  have hs1 : sz sq ≤ 100 := by
    rw [← hsq]
    have h1 : ln (P * (K + 3)) ≤ 3 := by
      have a := ln_mul P (K + 3)
      have b : ln P ≤ 1 := ln_le (by have := HPB.out; have := B64_eq; simp; omega)
      have c : ln (K + 3) ≤ 1 := ln_le (by have := HKB.out; have := B64_eq; simp; omega)
      omega
    exact Nat.le_trans (sz_of (t := 3) (by omega) h1 (ln_le (by decide +kernel))) (by omega)
  obtain ⟨tq, htq⟩ : ∃ x, addR pq sq = x := ⟨_, rfl⟩
  have hs3 : sz tq ≤ 1300 := by rw [← htq]; have a := sz_add pq sq; omega
  rw [hpq] at HPQ
  have HPQE := Lib.hid hpq
  have hlp := HPQ.out.len
  have HLP := Lib.hid (show z1 ≤ 10000 ∧ z2 ≤ 10000 by omega); have HLE := Lib.hid (show m1 ≤ 10000 ∧ n1 ≤ 10000 by omega)
  have HS1 := Lib.hid (show sz sq ≤ 10000 by omega); have HS2 := Lib.hid (show sz pq ≤ 10000 by omega); have HS3 := Lib.hid (show sz tq ≤ 10000 by omega)
  obtain ⟨g1, hg1⟩ : ∃ g, cmpN (dN pq.1 pq.2 * dD eq.2) (dN eq.1 eq.2 * dD pq.2) = g := ⟨_, rfl⟩
  have hd1 := leQ_cmp pq eq
  rw [hg1] at hd1
  obtain ⟨g2, hg2⟩ : ∃ g, cmpN (dN eq.1 eq.2 * dD tq.2) (dN tq.1 tq.2 * dD eq.2) = g := ⟨_, rfl⟩
  have hd2 := leQ_cmp eq tq
  rw [hg2] at hd2
  obtain ⟨r2, hr2⟩ : ∃ x, leQ eq tq = x := ⟨_, rfl⟩
  rw [hr2] at hd2; have HR2E := Lib.hid hr2
  have HG1 := Lib.hid hg1; have HG2 := Lib.hid hg2; have HSQ := Lib.hid hsq; have HTQ := Lib.hid htq; have HD2 := Lib.hid hd2
  clear hs1 hs2 hs3 hlp hg1 hg2 hsq htq hpq hd2 hr2
  have HP64 := Lib.hid (show P < B64 by have := HPB.out; have := B64_eq; omega)
  have HK64 := Lib.hid (show K < B64 by have := HKB.out; have := B64_eq; omega)
  cases hr1 : leQ pq eq with
  | false =>
    have HFIN := Lib.hid (show (leQ (decQ Y) eq && leQ eq (addR (decQ Y) (slackQ P K))) = false by rw [HPQE.out, hr1]; rfl)
    rw [hr1] at hd1; have hgt : (0 : Int) < g1 := by have := of_decide_eq_false hd1; omega
    clear hd1 hr1
    have jpaid1 := (row2_cells HRB.out).1; have jpaid2 := (row2_cells HRB.out).2.1
    have je1 := (row2_cells HR1C.out).1; have je2 := (row2_cells HR1C.out).2.1
    have C21 := Lib.hid (frcmp_g HPQ.out.rg HEC.out HLP.out.1 HLP.out.2 HLE.out.1 HLE.out.2 g1 HG1.out)
    go_wp2_with fail
    refine C21.out.mono ?_
    rintro e w21 ⟨rfl, x21⟩
    clear jpaid1 jpaid2 je1 je2
    have D1 := Lib.hid (Ext.lk x21)
    have EX1 := Lib.hid (Ext.trans EX0.out x21)
    clear x21
    clear C21
    go_wp2_with fail
    go_ret
    exact ⟨by rw [HFIN.out]; rfl, EX1.out⟩
  | true =>
    have HFIN := Lib.hid (show (leQ (decQ Y) eq && leQ eq (addR (decQ Y) (slackQ P K))) = r2 by rw [HPQE.out, hr1, HSQ.out, HTQ.out, HR2E.out]; rfl)
    rw [hr1] at hd1; have hgt : ¬ ((0 : Int) < g1) := by have := of_decide_eq_true hd1; omega
    clear hd1 hr1
    have hwp : IntKind.u64.wrap (max p 0) = (P : Int) := by
      rw [HPP.out]; have := HPB.out; simp [IntKind.wrap, IntKind.bits, IntKind.signed]; omega
    have hwk : IntKind.u64.wrap (max k 0) = (K : Int) := by
      rw [HKK.out]; have := HKB.out; simp [IntKind.wrap, IntKind.bits, IntKind.signed]; omega
    have jpaid1 := (row2_cells HRB.out).1; have jpaid2 := (row2_cells HRB.out).2.1
    have je1 := (row2_cells HR1C.out).1; have je2 := (row2_cells HR1C.out).2.1
    have C21 := Lib.hid (frcmp_g HPQ.out.rg HEC.out HLP.out.1 HLP.out.2 HLE.out.1 HLE.out.2 g1 HG1.out)
    go_wp2_with fail
    refine C21.out.mono ?_
    rintro e w21 ⟨rfl, x21⟩
    clear jpaid1 jpaid2 je1 je2
    have D1 := Lib.hid (Ext.lk x21)
    have EX1 := Lib.hid (Ext.trans EX0.out x21)
    clear x21
    clear C21
    have C22 := Lib.hid (fof_calls P HP64.out w21)
    go_wp2_with fail
    refine C22.out.mono ?_
    rintro e w22 ⟨p22, n22, c22, rfl, o22, x22, l22⟩
    have S22 := Lib.hid o22.sl
    clear o22
    have D2 := Lib.hid (Ext.lk x22)
    have EX2 := Lib.hid (Ext.trans EX1.out x22)
    clear x22
    clear C22
    have C23 := Lib.hid (fof_calls K HK64.out w22)
    go_wp2_with fail
    refine C23.out.mono ?_
    rintro e w23 ⟨p23, n23, c23, rfl, o23, x23, l23⟩
    have S23 := Lib.hid o23.sl
    clear o23
    have D3 := Lib.hid (Ext.lk x23)
    have EX3 := Lib.hid (Ext.trans EX2.out x23)
    clear x23
    clear C23
    have C24 := Lib.hid (fof_calls 3 (by decide) w23)
    go_wp2_with fail
    refine C24.out.mono ?_
    rintro e w24 ⟨p24, n24, c24, rfl, o24, x24, l24⟩
    have S24 := Lib.hid o24.sl
    clear o24
    have D4 := Lib.hid (Ext.lk x24)
    have EX4 := Lib.hid (Ext.trans EX3.out x24)
    clear x24
    clear C24
    clear hwp hwk
    have C25 := Lib.hid (fadd_calls (S23.out.lk D4.out) S24.out (by omega) (by omega))
    go_wp2_with fail
    refine C25.out.mono ?_
    rintro e w25 ⟨p25, n25, c25, rfl, o25, x25, l25⟩
    have S25 := Lib.hid o25.sl
    clear o25
    have D5 := Lib.hid (Ext.lk x25)
    have EX5 := Lib.hid (Ext.trans EX4.out x25)
    clear x25
    clear C25
    have C26 := Lib.hid (fmul_calls (S22.out.lk (Lk.trans D3.out (Lk.trans D4.out D5.out))) S25.out (by omega) (by omega))
    go_wp2_with fail
    refine C26.out.mono ?_
    rintro e w26 ⟨p26, n26, c26, rfl, o26, x26, l26⟩
    have S26 := Lib.hid o26.sl
    clear o26
    have D6 := Lib.hid (Ext.lk x26)
    have EX6 := Lib.hid (Ext.trans EX5.out x26)
    clear x26
    clear C26
    have C27 := Lib.hid (rpow_calls 18 (by decide) w26)
    go_wp2_with fail
    refine C27.out.mono ?_
    rintro e w27 ⟨p27, n27, c27, rfl, o27, x27, l27⟩
    have S27 := Lib.hid o27.sl
    clear o27
    have D7 := Lib.hid (Ext.lk x27)
    have EX7 := Lib.hid (Ext.trans EX6.out x27)
    clear x27
    clear C27
    have C28 := Lib.hid (frof_as (S26.out.lk D7.out) S27.out (by omega) (by omega) (x := P * (K + 3)) (y := slackN) (by rw [val_lim, val_lim, val_lim, val_lim, val_lim]) (by rw [val_lim]; decide) (by decide) HSQ.out)
    go_wp2_with fail
    refine C28.out.mono ?_
    rintro e w28 ⟨a28, n28, c28, b28, m28, d28, rfl, g28, h28, x28, -, -⟩
    have S28 : Hid (RA w28 a28 n28 c28 b28 m28 d28 sq) := Lib.hid ⟨g28.sl, h28.sl⟩
    clear g28 h28
    have D8 := Lib.hid (Ext.lk x28)
    have EX8 := Lib.hid (Ext.trans EX7.out x28)
    clear x28
    clear C28
    obtain ⟨V29, hV⟩ : ∃ V, w28.alloc (.cells #[.slice a28 n28 c28, .slice b28 m28 d28] 40) = V := ⟨_, rfl⟩
    have R29 := Lib.hid (show V29.heap[w28.heap.size]? = some (.cells #[.slice a28 n28 c28, .slice b28 m28 d28] 40 (0, 0)) by rw [← hV]; exact heap_alloc_new w28 _)
    have x29 : Ext w28 V29 := by rw [← hV]; exact (Ext.refl _).alloc _
    have HV29 := Lib.hid hV
    clear hV
    have D9 := Lib.hid (Ext.lk x29)
    have EX9 := Lib.hid (Ext.trans EX8.out x29)
    clear x29
    have hd2 := HD2.out
    have H30 : Hid (∀ w', Lk V29 w' → w'.cell? ⟨w.heap.size, 0, none⟩ = some (.slice a1 m1 c1) ∧ w'.cell? ⟨w.heap.size, 1, none⟩ = some (.slice b1 n1 d1) ∧ w'.cell? ⟨B, 0, none⟩ = some (.slice o1 z1 y1) ∧ w'.cell? ⟨B, 1, none⟩ = some (.slice o2 z2 y2) ∧ w'.cell? ⟨w28.heap.size, 0, none⟩ = some (.slice a28 n28 c28) ∧ w'.cell? ⟨w28.heap.size, 1, none⟩ = some (.slice b28 m28 d28)) := Lib.hid (fun w' h => ⟨(row2_cells (rowK (Lk.trans (Lk.trans D1.out (Lk.trans D2.out (Lk.trans D3.out (Lk.trans D4.out (Lk.trans D5.out (Lk.trans D6.out (Lk.trans D7.out (Lk.trans D8.out D9.out)))))))) h) HR1C.out)).1, (row2_cells (rowK (Lk.trans (Lk.trans D1.out (Lk.trans D2.out (Lk.trans D3.out (Lk.trans D4.out (Lk.trans D5.out (Lk.trans D6.out (Lk.trans D7.out (Lk.trans D8.out D9.out)))))))) h) HR1C.out)).2.1, (row2_cells (rowK (Lk.trans (Lk.trans D1.out (Lk.trans D2.out (Lk.trans D3.out (Lk.trans D4.out (Lk.trans D5.out (Lk.trans D6.out (Lk.trans D7.out (Lk.trans D8.out D9.out)))))))) h) HRB.out)).1, (row2_cells (rowK (Lk.trans (Lk.trans D1.out (Lk.trans D2.out (Lk.trans D3.out (Lk.trans D4.out (Lk.trans D5.out (Lk.trans D6.out (Lk.trans D7.out (Lk.trans D8.out D9.out)))))))) h) HRB.out)).2.1, (row2_cells (rowK h R29.out)).1, (row2_cells (rowK h R29.out)).2.1⟩)
    go_wp2_with (rw [HV29.out])
    go_region_held3 (fun w' => w'.cell? ⟨w.heap.size, 0, none⟩ = some (.slice a1 m1 c1) ∧ w'.cell? ⟨w.heap.size, 1, none⟩ = some (.slice b1 n1 d1) ∧ w'.cell? ⟨B, 0, none⟩ = some (.slice o1 z1 y1) ∧ w'.cell? ⟨B, 1, none⟩ = some (.slice o2 z2 y2) ∧ w'.cell? ⟨w28.heap.size, 0, none⟩ = some (.slice a28 n28 c28) ∧ w'.cell? ⟨w28.heap.size, 1, none⟩ = some (.slice b28 m28 d28))
      (first | exact H30.out _ (Ext.refl _).drew.lk | exact H30.out _ (by assumption))
      (first
        | (go_at_call 54; refine (fradd_q (HPQ.out.lk (Lk.trans (Lk.trans D1.out (Lk.trans D2.out (Lk.trans D3.out (Lk.trans D4.out (Lk.trans D5.out (Lk.trans D6.out (Lk.trans D7.out (Lk.trans D8.out D9.out)))))))) (Ext.refl V29).drew.lk)) (S28.out.lk (Lk.trans D9.out (Ext.refl V29).drew.lk)) HS2.out HS1.out).mono ?_; rintro e u30_0 ⟨a30_0, n30_0, c30_0, b30_0, m30_0, d30_0, rfl, g30_0, h30_0, x30_0⟩; have r30_0 : RA u30_0 a30_0 n30_0 c30_0 b30_0 m30_0 d30_0 (addR pq sq) := ⟨g30_0.sl, h30_0.sl⟩; have y30_0 := Ext.lk x30_0; have K30_0 : Lk V29 u30_0 := Lk.trans (Ext.refl V29).drew.lk y30_0; have E30_0 := Ext.trans (EX9.out.drew) x30_0; rw [HTQ.out] at r30_0; have lz := r30_0.len; have lz1 : n30_0 ≤ 10000 := Nat.le_trans lz.1 HS3.out; have lz2 : m30_0 ≤ 10000 := Nat.le_trans lz.2 HS3.out)
        | (go_at_call 73; refine (frcmp_g (HEC.out.lk (Lk.trans (Lk.trans D1.out (Lk.trans D2.out (Lk.trans D3.out (Lk.trans D4.out (Lk.trans D5.out (Lk.trans D6.out (Lk.trans D7.out (Lk.trans D8.out D9.out)))))))) K30_0)) r30_0.rg HLE.out.1 HLE.out.2 lz1 lz2 g2 HG2.out).mono ?_; rintro e u30_1 ⟨rfl, x30_1⟩; have y30_1 := Ext.lk x30_1; have K30_1 : Lk V29 u30_1 := Lk.trans K30_0 y30_1; have E30_1 := Ext.trans E30_0 x30_1))
    have xk30 := K30_1; have xe30 := E30_1
    clear r30_0 g30_0 h30_0 x30_0 y30_0 K30_0 E30_0 x30_1 y30_1 K30_1 E30_1
    have D10 := Lib.hid xk30; have EX10 := Lib.hid xe30; clear xk30 xe30
    go_wp2_with fail
    go_ret
    exact ⟨by rw [HFIN.out]; rfl, EX10.out⟩

end Go.Proofs.YtimcnhlcepemjaaGreatDoor
