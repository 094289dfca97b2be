
/- ledger.Fits. -/
import Derived.Test.YtimcnhlcepemjaaGreatDoorMH
import Derived.Test.YtimcnhlcepemjaaGreatDoorMid
import Derived.Deep.CutRange
namespace Go.Proofs.YtimcnhlcepemjaaGreatDoor
open Go.RowKit

/-- Two slices whose numbers read as a fraction. -/
def RG (w : World) (a : Option Addr) (n c : Nat) (b : Option Addr) (m d : Nat) (q : Nat × Nat) : Prop := ∃ xs ys, Sl w a n c xs ∧ Sl w b m d ys ∧ val xs = q.1 ∧ val ys = q.2
theorem RA.rg {w : World} {a : Option Addr} {n c : Nat} {b : Option Addr} {m d : Nat} {q : Nat × Nat} (h : RA w a n c b m d q) : RG w a n c b m d q := ⟨_, _, h.nu, h.de, val_lim _, val_lim _⟩
theorem RG.old {w w' : World} {a : Option Addr} {n c : Nat} {b : Option Addr} {m d : Nat} {q : Nat × Nat} (h : RG w a n c b m d q) (E : Ext w w') : RG w' a n c b m d q := by
  obtain ⟨xs, ys, h1, h2, h3, h4⟩ := h
  exact ⟨xs, ys, h1.old E, h2.old E, h3, h4⟩
theorem rcmp_g {a1 b1 a2 b2 : Option Addr} {m1 n1 c1 d1 m2 n2 c2 d2 : Nat} {p q : Nat × Nat} {w : World} (h1 : RG w a1 m1 c1 b1 n1 d1 p) (h2 : RG w a2 m2 c2 b2 n2 d2 q) (hm1 : m1 ≤ 100000) (hn1 : n1 ≤ 100000) (hm2 : m2 ≤ 100000) (hn2 : n2 ≤ 100000) (v : Int) (hv : cmpN (dN p.1 p.2 * dD q.2) (dN q.1 q.2 * dD p.2) = v) :
    Calls Tryz.prog 37 #[RatV a1 m1 c1 b1 n1 d1, RatV a2 m2 c2 b2 n2 d2] w (RetE (.int .i64 v) w) := by
  obtain ⟨xs1, ys1, s1, s2, v1, v2⟩ := h1
  obtain ⟨xs2, ys2, s3, s4, v3, v4⟩ := h2
  have := rcmp_calls s1 s2 s3 s4 hm1 hn1 hm2 hn2
  rw [v1, v2, v3, v4, hv] at this
  exact this
/-- One is at most the other. -/
def leQ (p q : Nat × Nat) : Bool := decide (dN p.1 p.2 * dD q.2 ≤ dN q.1 q.2 * dD p.2)
theorem cmpN_le {x y : Nat} : cmpN x y ≤ 0 ↔ x ≤ y := by
  rcases Nat.lt_trichotomy x y with h | h | h
  · rw [cmpN_lt h]; omega
  · rw [cmpN_eq h]; omega
  · rw [cmpN_gt h]; omega
theorem leQ_cmp (p q : Nat × Nat) : decide (cmpN (dN p.1 p.2 * dD q.2) (dN q.1 q.2 * dD p.2) ≤ 0) = leQ p q := by
  unfold leQ
  exact decide_eq_decide.2 cmpN_le
def slackN : Nat := 1000000000000000000
def slackQ (P K : Nat) : Nat × Nat := (rN (P * (K + 3)) slackN, rD (P * (K + 3)) slackN)
/-- Does a payment lie within the bound? -/
def fitsB (e : Nat × Nat) (n X P K : Nat) : Bool := leQ (decQ (n * U36 + X)) e && leQ e (addR (decQ (n * U36 + X)) (slackQ P K))
theorem ln_paid {n X : Nat} (hn : n < B64) (hx : ln X ≤ 1000) : ln (n * U36 + X) ≤ 1010 := by
  have h1 := ln_mul n U36
  have h2 := ln_add (n * U36) X
  have h3 := ln_U36
  have h4 : ln n ≤ 1 := ln_le (by simpa using hn)
  generalize ln (n * U36 + X) = a at *
  generalize ln (n * U36) = b at *
  generalize ln X = c at *
  generalize ln U36 = d at *
  generalize ln n = e at *
  clear hn
  omega
set_option maxHeartbeats 8000000 in
set_option maxRecDepth 100000 in
theorem lfits_calls {w : World} {a1 b1 : Option Addr} {m1 c1 n1 d1 : Nat} {eq : Nat × Nat} (he : RG w a1 m1 c1 b1 n1 d1 eq) (hm1 : m1 ≤ 1000) (hn1 : n1 ≤ 1000) {n : Nat} (hn : n < B64) {a0 : Option Addr} {m0 c0 : Nat} {xs0 : List Nat} (hx : Sl w a0 m0 c0 xs0) (hm : m0 ≤ 1000)
    {p k : Int} {P K : Nat} (hp : max p 0 = (P : Int)) (hk : max k 0 = (K : Int)) (hP : P < 9223372036854775808) (hK : K < 9223372036854775808) (htz : TzTab w) :
    Calls Tryz.prog 31 #[RatV a1 m1 c1 b1 n1 d1, .int .u64 (n : Int), DecV a0 m0 c0, .int .i64 p, .int .i64 k] w (RetE (.bool (fitsB eq n (val xs0) P K)) w) := by
  have hlx := ln_val hx
  obtain ⟨X, hX⟩ : ∃ x, val xs0 = x := ⟨_, rfl⟩
  rw [hX] at hlx
  rw [hX]
  obtain ⟨Y, hY⟩ : ∃ x, n * U36 + X = x := ⟨_, rfl⟩
  obtain ⟨X1, hX1⟩ : ∃ X, w.alloc (.cells #[.slice a1 m1 c1, .slice b1 n1 d1] 40) = X := ⟨_, rfl⟩
  obtain ⟨X2, hX2⟩ : ∃ X, X1.alloc (.cells #[.slice a0 m0 c0] 35) = X := ⟨_, rfl⟩
  have E1 : Ext w X1 := by rw [← hX1]; exact (Ext.refl w).alloc _
  have E2 : Ext X1 X2 := by rw [← hX2]; exact (Ext.refl X1).alloc _
  have hs1 : X1.heap.size = w.heap.size + 1 := by rw [← hX1, alloc_size]
  have R1 : X1.heap[w.heap.size]? = some (.cells #[.slice a1 m1 c1, .slice b1 n1 d1] 40 (0, 0)) := by rw [← hX1]; exact heap_alloc_new w _
  have R2 : X2.heap[w.heap.size + 1]? = some (.cells #[.slice a0 m0 c0] 35 (0, 0)) := by rw [← hs1, ← hX2]; exact heap_alloc_new X1 _
  have E := E1.trans E2
  unfold fitsB
  rw [hY]
  have HX1 := Lib.hid hX1; have HX2 := Lib.hid hX2; have HS1 := Lib.hid hs1; have HE := Lib.hid E; have HR1 := Lib.hid (rowE E2 R1); have HR2 := Lib.hid R2; have HEQ := Lib.hid (he.old E); have HSX := Lib.hid (hx.old E); have HTZ := Lib.hid (htz.old E); have HVX := Lib.hid hX; have HY := Lib.hid hY; have HN := Lib.hid hn; have HPP := Lib.hid hp; have HKK := Lib.hid hk; have HPB := Lib.hid hP; have HKB := Lib.hid hK
  have HBC := Lib.hid (fun w' (F : Ext X2 w') => (show w'.cell? ⟨w.heap.size + 1, 0, none⟩ = some (.slice a0 m0 c0) from by rw [cell_of_row _ _ _ _ _ _ (rowE F R2)]; rfl))
  have HLY := Lib.hid (show ln Y ≤ 1010 by rw [← hY]; exact ln_paid hn (Nat.le_trans hlx hm))
  clear hX1 hX2 hs1 R1 R2 E1 E2 E he hx htz hX hY hn hp hk hP hK hlx
  go_enter Tryz.func31, Tryz.ntmps31
  go_upto_region 2 with (first | rw [HX1.out] | rw [HX2.out, HS1.out] | rw [HX2.out])
  go_cut [11] from 15 to 19 (fun v1 wx => ∃ (B : Nat) (o1 : Option Addr) (z1 y1 : Nat) (o2 : Option Addr) (z2 y2 : Nat), v1 = .pointer (some ⟨B, 0, none⟩) ∧ wx.heap[B]? = some (.cells #[.slice o1 z1 y1, .slice o2 z2 y2] 40 (0, 0)) ∧ RA wx o1 z1 y1 o2 z2 y2 (decQ Y) ∧ Ext X2 wx)
  case first =>
    go_wp2_with (first | rw [HX1.out] | rw [HX2.out, HS1.out] | rw [HX2.out])
    go_region_held3 (fun w' => w'.cell? ⟨w.heap.size + 1, 0, none⟩ = some (.slice a0 m0 c0))
      (first | exact HBC.out _ (Ext.refl _).drew | exact HBC.out _ ((Ext.refl _).drew.alloc _) | exact HBC.out _ ((Ext.refl _).alloc _).drew | exact HBC.out _ (by assumption) | exact HBC.out _ (Ext.alloc (by assumption) _) | exact HBC.out _ (set2_ext (by assumption) (Nat.le_refl _) _ _) | exact HBC.out _ (set2_ext (by assumption) (Ext.size (by assumption)) _ _))
      (first
        | (go_at_call 36; refine (dof_calls n HN.out _).mono ?_; rintro e yA ⟨o5, z5, y5, rfl, q5, xA, lA⟩; have EA : Ext X2 yA := (by first | exact (Ext.refl _).drew.trans xA | exact ((Ext.refl _).drew.alloc _).trans xA | exact ((Ext.refl _).alloc _).drew.trans xA); (first | have R9 := Lib.hid (box2_row (w := X2) (u := .slice none 0 0) (v := .slice none 0 0) (T := 40) (show Ext (X2.alloc (.cells #[.slice none 0 0, .slice none 0 0] 40)) yA from (Ext.refl _).drew.trans xA)) | skip))
        | (go_at_call 35; refine (dadd_calls (by first | exact q5.sl | exact q5.sl.old ((Ext.refl _).alloc _)) (HSX.out.old (by first | exact EA | exact EA.alloc _)) (by omega) (by omega)).mono ?_; rintro e yB ⟨o6, z6, y6, rfl, q6, xB, lB⟩; rw [val_lim, HVX.out, HY.out] at q6; have EB : Ext X2 yB := (by first | exact EA.trans xB | exact (EA.alloc _).trans xB); (first | have R9 := Lib.hid (rowE xB R9.out) | have R9 := Lib.hid (box2_row (w := yA) (u := .slice none 0 0) (v := .slice none 0 0) (T := 40) xB) | skip))
        | (go_at_call 34; refine (rofdec_q (by first | exact q6.sl | exact q6.sl.old ((Ext.refl _).alloc _)) (by omega) (HTZ.out.old (by first | exact EB | exact EB.alloc _))).mono ?_; rintro e yC ⟨o7, z7, y7, o8, z8, y8, rfl, q7, q8, xC⟩; rw [val_lim] at q7 q8; have EC : Ext X2 yC := (by first | exact EB.trans xC | exact (EB.alloc _).trans xC); (first | have R9 := Lib.hid (rowE xC R9.out) | have R9 := Lib.hid (box2_row (w := yB) (u := .slice none 0 0) (v := .slice none 0 0) (T := 40) xC) | skip); (first | have k1 := (row2_cells R9.out).1 | skip); (first | have k2 := (row2_cells R9.out).2.1 | skip); (first | have k3 := (row2_cells R9.out).2.2.1 | skip); (first | have k4 := (row2_cells R9.out).2.2.2 | skip)))
    all_goals (
      have HQ := Lib.hid (And.intro q7.sl q8.sl)
      go_wp2_with fail
      go_meet
      first
        | (have LN := ((Tn.cell1 (i := 0) (Ext.refl yC) (.slice o7 z7 y7) none).cell2 (i := 1) (.slice o8 z8 y8)).ln (noNum2 R9.out) (fun o h => by cases h)
           exact ⟨_, o7, z7, y7, o8, z8, y8, rfl, set2_row R9.out _ _, ⟨HQ.out.1.ln LN, HQ.out.2.ln LN⟩, (by first | exact set2_ext EC (Nat.le_refl _) _ _ | exact set2_ext EC (Ext.size (by assumption)) _ _)⟩)
        | exact ⟨_, o7, z7, y7, o8, z8, y8, rfl, heap_alloc_new yC _, ⟨HQ.out.1.old ((Ext.refl _).alloc _), HQ.out.2.old ((Ext.refl _).alloc _)⟩, EC.alloc _⟩)
  obtain ⟨B, o1, z1, y1, o2, z2, y2, rfl, hrB, hpq, hxc⟩ := hcut
  have HRB := Lib.hid hrB; have HPQ := Lib.hid hpq; have HXC := Lib.hid hxc
  clear hrB hpq hxc
  have hwp : IntKind.u64.wrap (max p 0) = (P : Int) := by
    rw [HPP.out]; have := HPB.out; simp [IntKind.wrap, IntKind.bits, IntKind.signed]; omega
  have hwk : IntKind.u64.wrap (max k 0) = (K : Int) := by
    rw [HKK.out]; have := HKB.out; simp [IntKind.wrap, IntKind.bits, IntKind.signed]; omega
  have HP64 := Lib.hid (show P < B64 by have := HPB.out; have := B64_eq; omega)
  have HK64 := Lib.hid (show K < B64 by have := HKB.out; have := B64_eq; omega)
  have C1 := Lib.hid (of_calls P HP64.out wc)
  go_wp2_with fail
  refine C1.out.mono ?_
  rintro e w1 ⟨p1, r1, s1, rfl, h1, x1, -⟩
  have C2 := Lib.hid (of_calls K HK64.out w1)
  have S1 := Lib.hid h1.sl; have X1' := Lib.hid x1
  clear h1 x1 C1
  go_wp2_with fail
  refine C2.out.mono ?_
  rintro e w2 ⟨p2, r2, s2, rfl, h2, x2, hl2⟩
  have C3 := Lib.hid (of_calls 3 (by decide) w2)
  have S2 := Lib.hid h2.sl; have X2' := Lib.hid x2
  clear h2 x2 C2
  go_wp2_with fail
  refine C3.out.mono ?_
  rintro e w3 ⟨p3, r3, s3, rfl, h3, x3, hl3⟩
  have C4 := add_calls (S2.out.old x3) h3.sl (by omega) (by omega)
  rw [val_lim, val_lim] at C4
  have HC4 := Lib.hid C4; have X3' := Lib.hid x3
  clear h3 x3 C3 C4
  go_wp2_with fail
  refine HC4.out.mono ?_
  rintro e w4 ⟨p4, r4, s4, rfl, h4, x4, hl4⟩
  have C5 := mul_calls ((S1.out.old X2'.out).old (X3'.out.trans x4)) h4.sl (by have := S1.out.len; have := ln_le (x := P) (t := 1) (by simpa using HP64.out); unfold ln at this; omega) (by omega)
  rw [val_lim, val_lim] at C5
  have HC5 := Lib.hid C5; have X4' := Lib.hid x4
  clear h4 x4 C5 HC4
  go_wp2_with fail
  refine HC5.out.mono ?_
  rintro e w5 ⟨p5, r5, s5, rfl, h5, x5, hl5⟩
  have C6 := Lib.hid (of_calls slackN (by decide) w5)
  have S5 := Lib.hid h5.sl; have X5' := Lib.hid x5
  clear h5 x5 HC5 hwp hwk
  rw [show ((slackN : Nat) : Int) = 1000000000000000000 from rfl] at C6
  go_wp2_with fail
  refine C6.out.mono ?_
  rintro e w6 ⟨p6, r6, s6, rfl, h6, x6, hl6⟩
  have HX6 := Lib.hid x6
  have EX6 := HXC.out.trans (X1'.out.trans (X2'.out.trans (X3'.out.trans (X4'.out.trans (X5'.out.trans x6)))))
  have C7 := rof_calls (S5.out.old x6) h6.sl (by have h := S1.out.len; have h' := ln_le (x := P) (t := 1) (by simpa using HP64.out); unfold ln at h'; omega) (by omega) (HTZ.out.old EX6) (by rw [val_lim]; decide)
  rw [val_lim, val_lim] at C7
  rw [show (rN (P * (K + 3)) slackN) = (slackQ P K).1 from rfl, show (rD (P * (K + 3)) slackN) = (slackQ P K).2 from rfl] at C7
  have HC7 := Lib.hid C7; have HE6 := Lib.hid EX6
  clear h6 x6 C6 C7 EX6
  go_wp2_with fail
  refine HC7.out.mono ?_
  rintro e w7 ⟨o3, z3, y3, o4, z4, y4, rfl, h7, h8, x7, -, -⟩
  obtain ⟨V, hV⟩ : ∃ V, w7.alloc (.cells #[.slice o3 z3 y3, .slice o4 z4 y4] 40) = V := ⟨_, rfl⟩
  have EV7 : Ext w7 V := by rw [← hV]; exact (Ext.refl w7).alloc _
  have hvr : V.heap[w7.heap.size]? = some (.cells #[.slice o3 z3 y3, .slice o4 z4 y4] 40 (0, 0)) := by rw [← hV]; exact heap_alloc_new w7 _
  have EXV := (HE6.out.trans x7).trans EV7
  have ECV := (X1'.out.trans (X2'.out.trans (X3'.out.trans (X4'.out.trans X5'.out))))
  have hxw : Ext wc w7 := by
    have a := HE6.out
    exact ECV.trans (by
      have := x7
      exact Ext.trans HX6.out this)
  have HRV := Lib.hid (rowE (hxw.trans EV7) HRB.out); have HRE := Lib.hid (rowE EXV HR1.out); have HRS := Lib.hid hvr
  have HPV := Lib.hid (HPQ.out.old (hxw.trans EV7)); have HEVV := Lib.hid (HEQ.out.old EXV)
  have HSV := Lib.hid (show RA V o3 z3 y3 o4 z4 y4 (slackQ P K) from ⟨h7.sl.old EV7, h8.sl.old EV7⟩)
  have HTV := Lib.hid (HTZ.out.old EXV); have HEF := Lib.hid (HE.out.trans EXV)
  obtain ⟨sq, hsq⟩ : ∃ x, slackQ P K = x := ⟨_, rfl⟩
  have hs1 : sz sq ≤ 100 := by
    rw [← hsq]
    have h1 : ln (P * (K + 3)) ≤ 3 := by
      have a := ln_mul P (K + 3)
      have b : ln P ≤ 1 := ln_le (by simpa using HP64.out)
      have c : ln (K + 3) ≤ 1 := ln_le (by have := HKB.out; have := B64_eq; simp; omega)
      omega
    exact Nat.le_trans (sz_of (t := 3) (by omega) h1 (ln_le (by decide +kernel))) (by omega)
  obtain ⟨pq, hpq⟩ : ∃ x, decQ Y = x := ⟨_, rfl⟩
  have hs2 : sz pq ≤ 1100 := by rw [← hpq]; have a := sz_dec Y; have b := HLY.out; omega
  obtain ⟨tq, htq⟩ : ∃ x, addR pq sq = x := ⟨_, rfl⟩
  have hs3 : sz tq ≤ 1300 := by rw [← htq]; have a := sz_add pq sq; omega
  rw [hsq] at HSV
  rw [hpq] at HPV
  have CA : ∀ W', Ext V W' → Calls Tryz.prog 53 #[RatV o1 z1 y1 o2 z2 y2, RatV o3 z3 y3 o4 z4 y4] W' (NewQ W' tq) := fun W' F => by rw [← htq]; exact radd_q (HPV.out.old F) (HSV.out.old F) (by omega) (by omega) (HTV.out.old F)
  have hlp := HPV.out.len
  obtain ⟨g1, hg1⟩ : ∃ g, cmpN (dN pq.1 pq.2 * dD eq.2) (dN eq.1 eq.2 * dD pq.2) = g := ⟨_, rfl⟩
  have hd1 := leQ_cmp pq eq
  rw [hg1] at hd1
  obtain ⟨g2, hg2⟩ : ∃ g, cmpN (dN eq.1 eq.2 * dD tq.2) (dN tq.1 tq.2 * dD eq.2) = g := ⟨_, rfl⟩
  have hd2 := leQ_cmp eq tq
  rw [hg2] at hd2
  have CC1 : ∀ W', Ext V W' → Calls Tryz.prog 37 #[RatV o1 z1 y1 o2 z2 y2, RatV a1 m1 c1 b1 n1 d1] W' (RetE (.int .i64 g1) W') := fun W' F => rcmp_g (HPV.out.old F).rg (HEVV.out.old F) (by omega) (by omega) (by omega) (by omega) g1 hg1
  have CC2 : ∀ W', Ext V W' → ∀ o5 z5 y5 o6 z6 y6, RA W' o5 z5 y5 o6 z6 y6 tq → Calls Tryz.prog 37 #[RatV a1 m1 c1 b1 n1 d1, RatV o5 z5 y5 o6 z6 y6] W' (RetE (.int .i64 g2) W') := fun W' F o5 z5 y5 o6 z6 y6 h => by
    have l := h.len
    exact rcmp_g (HEVV.out.old F) h.rg (by omega) (by omega) (by omega) (by omega) g2 hg2
  have HCA := Lib.hid CA; have HCC1 := Lib.hid CC1; have HCC2 := Lib.hid CC2; have HV := Lib.hid hV
  obtain ⟨r2, hr2⟩ : ∃ x, leQ eq tq = x := ⟨_, rfl⟩
  rw [hr2] at hd2
  have HBV := Lib.hid (fun w' (F : Ext V w') => (show w'.cell? ⟨B, 0, none⟩ = some (.slice o1 z1 y1) ∧ w'.cell? ⟨B, 1, none⟩ = some (.slice o2 z2 y2) ∧ w'.cell? ⟨w.heap.size, 0, none⟩ = some (.slice a1 m1 c1) ∧ w'.cell? ⟨w.heap.size, 1, none⟩ = some (.slice b1 n1 d1) ∧ w'.cell? ⟨w7.heap.size, 0, none⟩ = some (.slice o3 z3 y3) ∧ w'.cell? ⟨w7.heap.size, 1, none⟩ = some (.slice o4 z4 y4) from
    ⟨(row2_cells (rowE F HRV.out)).1, (row2_cells (rowE F HRV.out)).2.1, (row2_cells (rowE F HRE.out)).1, (row2_cells (rowE F HRE.out)).2.1, (row2_cells (rowE F HRS.out)).1, (row2_cells (rowE F HRS.out)).2.1⟩))
  cases hr1 : leQ pq eq with
  | true =>
    have HFIN := Lib.hid (show (leQ (decQ Y) eq && leQ eq (addR (decQ Y) (slackQ P K))) = r2 by rw [hpq, hsq, htq, hr1, hr2]; rfl)
    rw [hr1] at hd1
    have hle1 : g1 ≤ 0 := of_decide_eq_true hd1
    clear CA CC1 CC2 hV EV7 hvr EXV ECV hxw h7 h8 x7 hg1 hg2 hr1 hr2 hsq hpq htq hs1 hs2 hs3 hlp
    go_wp2_with (rw [HV.out])
    go_region_held3 (fun w' => w'.cell? ⟨B, 0, none⟩ = some (.slice o1 z1 y1) ∧ w'.cell? ⟨B, 1, none⟩ = some (.slice o2 z2 y2) ∧ w'.cell? ⟨w.heap.size, 0, none⟩ = some (.slice a1 m1 c1) ∧ w'.cell? ⟨w.heap.size, 1, none⟩ = some (.slice b1 n1 d1) ∧ w'.cell? ⟨w7.heap.size, 0, none⟩ = some (.slice o3 z3 y3) ∧ w'.cell? ⟨w7.heap.size, 1, none⟩ = some (.slice o4 z4 y4))
      (first | exact HBV.out _ (Ext.refl _).drew | exact HBV.out _ (by assumption))
      (first
        | (go_at_call_of 37 o1; refine (HCC1.out _ (Ext.refl _).drew).mono ?_; rintro e yA ⟨rfl, xA⟩; have EA : Ext V yA := (Ext.refl _).drew.trans xA)
        | (go_at_call 53; refine (HCA.out _ EA).mono ?_; rintro e yB ⟨o5, z5, y5, o6, z6, y6, rfl, q5, q6, xB⟩; have EB : Ext V yB := EA.trans xB)
        | (go_at_call 37; refine (HCC2.out _ EB _ _ _ _ _ _ ⟨q5.sl, q6.sl⟩).mono ?_; rintro e yC ⟨rfl, xC⟩; have EC : Ext V yC := EB.trans xC))
    go_wp2_with fail
    go_ret
    exact ⟨by rw [HFIN.out]; rfl, HEF.out.trans EC⟩
  | false =>
    have HFIN := Lib.hid (show (leQ (decQ Y) eq && leQ eq (addR (decQ Y) (slackQ P K))) = false by rw [hpq, hr1]; rfl)
    rw [hr1] at hd1
    clear CA CC1 CC2 hV EV7 hvr EXV ECV hxw h7 h8 x7 hg1 hg2 hr1 hr2 hsq hpq htq hs1 hs2 hs3 hlp hd2
    go_wp2_with (rw [HV.out])
    refine wp_region_held_drew (S := fun w' => w'.cell? ⟨B, 0, none⟩ = some (.slice o1 z1 y1) ∧ w'.cell? ⟨B, 1, none⟩ = some (.slice o2 z2 y2) ∧ w'.cell? ⟨w.heap.size, 0, none⟩ = some (.slice a1 m1 c1) ∧ w'.cell? ⟨w.heap.size, 1, none⟩ = some (.slice b1 n1 d1) ∧ w'.cell? ⟨w7.heap.size, 0, none⟩ = some (.slice o3 z3 y3) ∧ w'.cell? ⟨w7.heap.size, 1, none⟩ = some (.slice o4 z4 y4)) (by kernel_rfl) (HBV.out _ (Ext.refl _).drew) (fun hHeld => ?_)
    refine takeW (i := 0) (v := ?_) rfl (by kernel_rfl) (by kernel_rfl) (by kernel_rfl) (fun _ _ _ h => h) (Or.inl ⟨by rfl, ?_⟩) (by assumption) ?_
    rotate_left
    · (intro wz hSw; (try dsimp only at hSw); go_simp <;> with_reducible rfl)
    try simp only [Act.put, List.setIfInBounds_toArray, List.set_cons_zero, List.set_cons_succ]
    refine takeW (i := 1) (v := ?_) rfl (by kernel_rfl) (by kernel_rfl) (by kernel_rfl) (fun _ _ _ h => h) (Or.inl ⟨by rfl, ?_⟩) (by assumption) ?_
    rotate_left
    · (intro wz hSw; (try dsimp only at hSw); go_simp <;> with_reducible rfl)
    try simp only [Act.put, List.setIfInBounds_toArray, List.set_cons_zero, List.set_cons_succ]
    refine wpAnyH_ready (rs := [2]) (by kernel_rfl) (by simp) ?_
    refine consW rfl (fun K hK => ?_) AllReadyH.nil
    go_simp
    go_at_call_of 37 o1
    refine (HCC1.out _ (Ext.refl _).drew).mono ?_
    rintro e yA ⟨rfl, xA⟩
    have EA : Ext V yA := (Ext.refl _).drew.trans xA
    try go_wp2_with fail
    refine hK.out _ _ ?_ (fun hHeld => ?_)
    · (try dsimp only); exact HBV.out _ EA
    clear hK K
    try simp only [Act.put, List.setIfInBounds_toArray, List.set_cons_zero, List.set_cons_succ]
    refine takeW (i := 3) (v := ?_) rfl (by kernel_rfl) (by kernel_rfl) (by kernel_rfl) (fun _ _ _ h => h) (Or.inl ⟨by rfl, ?_⟩) (by assumption) ?_
    rotate_left
    · (intro wz hSw; (try dsimp only at hSw); go_simp <;> with_reducible rfl)
    try simp only [Act.put, List.setIfInBounds_toArray, List.set_cons_zero, List.set_cons_succ]
    refine takeW (i := 4) (v := ?_) rfl (by kernel_rfl) (by kernel_rfl) (by kernel_rfl) (fun _ _ _ h => h) (Or.inl ⟨by rfl, ?_⟩) (by assumption) ?_
    rotate_left
    · (intro wz hSw; (try dsimp only at hSw); go_simp <;> with_reducible rfl)
    try simp only [Act.put, List.setIfInBounds_toArray, List.set_cons_zero, List.set_cons_succ]
    refine skipW (i := 5) rfl (by kernel_rfl) (by kernel_rfl) (by kernel_rfl) (fun _ _ _ h => h) (by rfl) (by assumption) ?_
    try simp only [Act.put, List.setIfInBounds_toArray, List.set_cons_zero, List.set_cons_succ]
    refine skipW (i := 6) rfl (by kernel_rfl) (by kernel_rfl) (by kernel_rfl) (fun _ _ _ h => h) (by rfl) (by assumption) ?_
    try simp only [Act.put, List.setIfInBounds_toArray, List.set_cons_zero, List.set_cons_succ]
    refine skipW (i := 7) rfl (by kernel_rfl) (by kernel_rfl) (by kernel_rfl) (fun _ _ _ h => h) (by rfl) (by assumption) ?_
    try simp only [Act.put, List.setIfInBounds_toArray, List.set_cons_zero, List.set_cons_succ]
    refine skipW (i := 8) rfl (by kernel_rfl) (by kernel_rfl) (by kernel_rfl) (fun _ _ _ h => h) (by rfl) (by assumption) ?_
    try simp only [Act.put, List.setIfInBounds_toArray, List.set_cons_zero, List.set_cons_succ]
    refine skipW (i := 9) rfl (by kernel_rfl) (by kernel_rfl) (by kernel_rfl) (fun _ _ _ h => h) (by rfl) (by assumption) ?_
    try simp only [Act.put, List.setIfInBounds_toArray, List.set_cons_zero, List.set_cons_succ]
    refine skipW (i := 10) rfl (by kernel_rfl) (by kernel_rfl) (by kernel_rfl) (fun _ _ _ h => h) (by rfl) (by assumption) ?_
    try simp only [Act.put, List.setIfInBounds_toArray, List.set_cons_zero, List.set_cons_succ]
    refine takeW (i := 11) (v := ?_) rfl (by kernel_rfl) (by kernel_rfl) (by kernel_rfl) (fun _ _ _ h => h) (Or.inl ⟨by rfl, ?_⟩) (by assumption) ?_
    rotate_left
    · (intro wz hSw; (try dsimp only at hSw); go_simp <;> with_reducible rfl)
    try simp only [Act.put, List.setIfInBounds_toArray, List.set_cons_zero, List.set_cons_succ]
    refine takeW (i := 12) (v := ?_) rfl (by kernel_rfl) (by kernel_rfl) (by kernel_rfl) (fun _ _ _ h => h) (Or.inl ⟨by rfl, ?_⟩) (by assumption) ?_
    rotate_left
    · (intro wz hSw; (try dsimp only at hSw); go_simp <;> with_reducible rfl)
    try simp only [Act.put, List.setIfInBounds_toArray, List.set_cons_zero, List.set_cons_succ]
    refine wpAnyH_done (by kernel_rfl) ?_ _
    go_wp2_with fail
    go_ret
    exact ⟨by rw [HFIN.out]; rfl, HEF.out.trans EA⟩

end Go.Proofs.YtimcnhlcepemjaaGreatDoor
