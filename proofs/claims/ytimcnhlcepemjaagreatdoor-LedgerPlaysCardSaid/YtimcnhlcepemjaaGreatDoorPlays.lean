
/- gleanlaw24.LedgerPlays: the walk. -/
import Derived.Test.YtimcnhlcepemjaaGreatDoorPlW
namespace Go.Proofs.YtimcnhlcepemjaaGreatDoor
open Go.RowKit Go.Lib

def PlEnd (w0 : World) (lp p b k : Nat) (wx : World) : Prop :=
  ∃ (M : Stakes) (es : List Ent) (gb : Option Nat) (o : Option Addr) (nn c N g cu : Nat), PlW w0 lp p b M es gb o nn c N wx ∧ PlN M es nn N g cu ∧ N + g + cu ≤ k
def PlRel (w0 : World) (lp p b n : Nat) (iv : Value) (wr : World) : Prop := ∃ k : Nat, k ≤ n ∧ iv = .int .i64 (k : Int) ∧ PlEnd w0 lp p b k wr
theorem RMod.tn {w w' : World} {lp : Nat} {gb : Option Nat} {o : Option Addr} {n c : Nat} {es : List Ent} (h : RMod w lp gb o n c es w') : Tn w w' lp gb :=
  ⟨h.2.1.os, h.2.1.tape, h.2.1.output, h.2.1.size, fun k hk _ h2 => h.2.1.block k hk h2⟩
theorem Tn.none {w w' : World} {b : Nat} (h : Tn w w' b none) (ob : Option Nat) : Tn w w' b ob := ⟨h.os, h.tape, h.output, h.size, fun k hk h1 _ => h.block k hk h1 (by simp)⟩
/-- A variable of a round stays through the document's step. -/
theorem Tn.keep {w w' : World} {lp : Nat} {gb : Option Nat} (t : Tn w w' lp gb) {B : Nat} {ob : Obj} (h : w.heap[B]? = some ob) (h1 : lp < B) (h2 : ∀ g, gb = some g → g < B) : w'.heap[B]? = some ob :=
  t.row h (by omega) (fun g hg => by have := h2 g hg; omega)
/-- An argument's numbers lie below. -/
theorem far_of {w0 : World} {a : Option Addr} {n c : Nat} {xs : List Nat} (h : Sl w0 a n c xs) {gb : Option Nat} (hg : ∀ q, gb = some q → w0.heap.size ≤ q) : n = 0 ∨ ∀ g, gb = some g → blk a ≠ some g := by
  rcases h.lt with h1 | ⟨k, h1, h2⟩
  · exact .inl h1
  · refine .inr fun g hgb e => ?_
    have := hg g hgb
    rw [h1] at e
    cases e
    omega
theorem sz_canQ {q r : Nat × Nat} (h : canQ q = r) {H : Nat} (hr : sz r ≤ H) : sz (canQ q) ≤ H := by rw [h]; exact hr
theorem row7_cells {w : World} {B : Nat} {u0 u1 u2 u3 u4 u5 u6 : Value} {T : TypeId} (h : w.heap[B]? = some (.cells #[u0, u1, u2, u3, u4, u5, u6] T (0, 0))) :
    w.cell? ⟨B, 0, none⟩ = some u0 ∧ w.cell? ⟨B, 1, none⟩ = some u1 ∧ w.cell? ⟨B, 2, none⟩ = some u2 ∧ w.cell? ⟨B, 3, none⟩ = some u3 ∧ w.cell? ⟨B, 4, none⟩ = some u4 ∧ w.cell? ⟨B, 5, none⟩ = some u5 ∧ w.cell? ⟨B, 6, none⟩ = some u6 := by
  refine ⟨?_, ?_, ?_, ?_, ?_, ?_, ?_⟩ <;> (rw [cell_of_row _ _ _ _ _ _ h]; rfl)
/-- What the looks tell is the same. -/
theorem PlN.look {M : Stakes} {es : List Ent} {n N g cu : Nat} (h : PlN M es n N g cu) (hN : N + g + cu ≤ 40) (v d : Nat) :
    canQ (got M v d).h = ((rgot es v d).map (·.h)).getD (0, 1) ∧ canQ (got M v d).o = ((rgot es v d).map (·.o)).getD (0, 1) ∧ sz (((rgot es v d).map (·.h)).getD (0, 1)) ≤ 10000 ∧ sz (((rgot es v d).map (·.o)).getD (0, 1)) ≤ 10000 ∧ sz (got M v d).h ≤ 10000 ∧ sz (got M v d).o ≤ 10000 := by
  have ha := (arith3 hN).2
  unfold got
  rcases h.cpl.look v d with ⟨h1, h2⟩ | ⟨s, t, h1, h2, h3⟩
  · rw [h1, h2]
    exact ⟨canQ_nil, canQ_nil, by show sz (0, 1) ≤ _; rw [sz_one]; decide, by show sz (0, 1) ≤ _; rw [sz_one]; decide, by show sz (0, 0) ≤ _; rw [sz_nil]; decide, by show sz (0, 0) ≤ _; rw [sz_nil]; decide⟩
  · rw [h1, h2]
    have hb := h.cpl.ok h.bnd h1
    have e1 := h3.h.sz; have e2 := h3.o.sz
    have := hb.1; have := hb.2
    exact ⟨h3.h.can, h3.o.can, by show sz t.h ≤ _; omega, by show sz t.o ≤ _; omega, by show sz s.h ≤ _; omega, by show sz s.o ≤ _; omega⟩
theorem PlN.sums {M : Stakes} {es : List Ent} {n N g cu : Nat} (h : PlN M es n N g cu) (hN : N + g + cu ≤ 40) (hl : es.length = n) (v : Nat) :
    (∀ ds, Dels M v ds → ds.foldl (fun a d => uStakes a (got M v d)) (0, 1) = rsum (·.h) v es) ∧ (∀ ds, Dels M v ds → ds.foldl (fun a d => uOwes a (got M v d)) (0, 1) = rsum (·.o) v es) ∧ sz (rsum (·.h) v es) ≤ 10000 ∧ sz (rsum (·.o) v es) ≤ 10000 ∧
    N ≤ 1000000 ∧ N * (45 + 1) ≤ 90000 ∧ N * (1 + g * (13 + cu) + 1) ≤ 90000 ∧ n * (45 + 1) + 1 ≤ 10000 ∧ n * (1 + g * (13 + cu) + 1) + 1 ≤ 10000 ∧ (∀ e ∈ es, sz e.s.h ≤ 45) ∧ (∀ e ∈ es, sz e.s.o ≤ 1 + g * (13 + cu)) ∧
    (∀ d s, M v d = some s → sz s.h ≤ 45) ∧ (∀ d s, M v d = some s → sz s.o ≤ 1 + g * (13 + cu)) ∧ 1 + g * (13 + cu) ≤ 10000 := by
  obtain ⟨ha, hb⟩ := arith3 hN
  have hn := h.nN
  have h1 : n * (1 + g * (13 + cu) + 1) ≤ N * (1 + g * (13 + cu) + 1) := Nat.mul_le_mul_right _ hn
  have h2 : N * (45 + 1) ≤ 40 * 46 := Nat.mul_le_mul_right _ (by omega)
  have h3 : n * (45 + 1) ≤ 40 * 46 := Nat.mul_le_mul_right _ (by omega)
  have e1 : ∀ e ∈ es, sz e.s.h ≤ 45 := fun e he => by have := (h.bnd e he).1; omega
  have e2 : ∀ e ∈ es, sz e.s.o ≤ 1 + g * (13 + cu) := fun e he => (h.bnd e he).2
  have k1 := rsum_sz (f := (·.h)) (v := v) n es e1 (by omega)
  have k2 := rsum_sz (f := (·.o)) (v := v) n es e2 (by omega)
  rw [List.take_of_length_le (by omega)] at k1 k2
  refine ⟨fun ds hd => h.cpl.sum (f := (·.h)) (fun s t hs => hs.h.tq) hd, fun ds hd => h.cpl.sum (f := (·.o)) (fun s t hs => hs.o.tq) hd, by omega, by omega, by omega, by omega, by omega, by omega, by omega, e1, e2, fun d s hs => ?_, fun d s hs => ?_, by omega⟩
  · have := (h.cpl.ok h.bnd hs).1; omega
  · exact (h.cpl.ok h.bnd hs).2

set_option maxHeartbeats 16000000 in
set_option maxRecDepth 100000 in
theorem lplays_law {a : Option Addr} {n c : Nat} {ss : List StepV} {w : World} (hs : StSl w a n c ss) (htz : TzTab w) (hM : MaxL w) :
    Calls Tryz.prog 3 #[.slice a n c] w (RetE (.bool true) w) := by
  have hbig : (n : Int) ≤ 9223372036854775807 := by have := hs.big; have := hs.cap; omega
  have HST := Lib.hid hs; have HTZ := Lib.hid htz; have C1 := Lib.hid (knownL_calls w htz hM)
  clear hs htz hM
  go_enter Tryz.func3, Tryz.ntmps3
  go_wp2_with fail
  refine C1.out.mono ?_
  rintro e w1 ⟨rfl, x1⟩
  have HX1 := Lib.hid x1
  have C2 := Lib.hid (light_calls (HST.out.old x1))
  clear x1 C1
  go_wp2_with fail
  refine C2.out.mono ?_
  rintro e w2 ⟨t, rfl, rfl, ht⟩
  clear C2
  cases t with
  | false =>
    go_wp2_with fail
    go_ret
    exact ⟨rfl, HX1.out⟩
  | true =>
    have HLT := Lib.hid (ht rfl)
    clear ht
    have C3 := Lib.hid (lnew_calls w2)
    go_wp2_with fail
    refine C3.out.mono ?_
    rintro e w3 ⟨p, b, rfl, h3, q3, z3, x3⟩
    clear C3
    obtain ⟨V, hV⟩ : ∃ V, w3.alloc (.cells #[.slice none 0 0] 30) = V := ⟨_, rfl⟩
    have xV : Ext w3 V := by rw [← hV]; exact (Ext.refl _).alloc _
    have hlrow : V.heap[w3.heap.size]? = some (.cells #[.slice none 0 0] 30 (0, 0)) := by rw [← hV]; exact heap_alloc_new w3 _
    have HP0 := Lib.hid (show PlEnd w w3.heap.size p b 0 V from ⟨noStakes, [], none, none, 0, 0, 0, 0, 0, ⟨h3.old xV, xV.cell q3, ⟨hlrow, rfl, by decide, .inl ⟨rfl, rfl, rfl, rfl⟩⟩, (HX1.out.trans x3).trans xV, Nat.le_trans HX1.out.size z3, (HX1.out.trans x3).size, fun q h => by cases h⟩, ⟨Cpl.nil, Nat.le_refl _, fun e h => by cases h⟩, Nat.le_refl _⟩)
    have HV := Lib.hid hV
    obtain ⟨lp, hlp⟩ : ∃ x, w3.heap.size = x := ⟨_, rfl⟩
    rw [hlp] at HP0
    clear h3 q3 z3 x3 xV hlrow hV
    go_wp2_with (rw [HV.out])
    try simp only [hlp]
    clear hlp HV
    go_loopw [5] (fun iv wr => PlRel w lp p b n iv wr) (fun iv _ => n - (RowKit.intOf iv).toNat)
    case atStart => exact ⟨0, Nat.zero_le _, rfl, HP0.out⟩
    case round =>
      obtain ⟨k, hk, rfl, M, es, gb, o, nn, cc, N, g, cu, hpw, hpn, hk2⟩ := hrel
      clear HP0
      by_cases hkn : k = n
      · have hge : ¬ ((k : Int) < (n : Int)) := by omega
        have HPW := Lib.hid hpw
        clear hkn hk hpw hpn
        go_wp2_with fail
        go_ret
        exact ⟨rfl, HPW.out.ext⟩
      · have hlt : (k : Int) < (n : Int) := by omega
        have hn40 := HLT.out.1
        obtain ⟨b0, off, s, hs, hat, hix⟩ := HST.out.ix (k := k) (by omega)
        have HL4 := Lib.hid (HLT.out.2 k s hs); have HAT := Lib.hid hat
        have hat1 := hat.old hpw.ext
        have x0 := hat1.c0; have x1 := hat1.c1; have x2 := hat1.c2; have x3 := hat1.c3; have x4 := hat1.c4; have x5 := hat1.c5; have x6 := hat1.c6; have xi := hix wr
        obtain ⟨V, hV⟩ : ∃ V, wr.alloc (.cells #[.int .i64 s.q, .int .u64 (s.v : Int), .int .u64 (s.u : Int), .int .u64 (s.n : Int), .int .u64 (s.m : Int), .slice s.d.1 s.d.2.1 s.d.2.2, .slice s.e.1 s.e.2.1 s.e.2.2] 37) = V := ⟨_, rfl⟩
        have xV : Ext wr V := by rw [← hV]; exact (Ext.refl _).alloc _
        have hbx : V.heap[wr.heap.size]? = some (.cells #[.int .i64 s.q, .int .u64 (s.v : Int), .int .u64 (s.u : Int), .int .u64 (s.n : Int), .int .u64 (s.m : Int), .slice s.d.1 s.d.2.1 s.d.2.2, .slice s.e.1 s.e.2.1 s.e.2.2] 37 (0, 0)) := by rw [← hV]; exact heap_alloc_new wr _
        obtain ⟨B, hB⟩ : ∃ x, wr.heap.size = x := ⟨_, rfl⟩
        have HBS := Lib.hid (show lp < B ∧ (∀ q, gb = some q → q < B) by rw [← hB]; exact ⟨hpw.rled.llt, hpw.rled.glt'⟩)
        have ff : V.cell? ⟨wr.heap.size, 0, none⟩ = some (.int .i64 s.q) := (row7_cells hbx).1
        rw [hB] at hbx
        have HPW := Lib.hid (hpw.old xV); have HPN := Lib.hid hpn; have HK := Lib.hid (show N + g + cu + 1 ≤ 40 ∧ N + g + cu ≤ k by omega); have HBX := Lib.hid hbx; have HV := Lib.hid hV
        have HSX := Lib.hid ((HAT.out.old (hpw.ext.trans xV)).x); have HSY := Lib.hid ((HAT.out.old (hpw.ext.trans xV)).y)
        have HTV := Lib.hid (HTZ.out.old (hpw.ext.trans xV)); have HBW := Lib.hid (show wr.heap.size = B from hB)
        clear hpw hpn hk2 hn40 hs hat hix hat1 hV xV hbx hB
        go_upto_block 2 with (rw [HV.out])
        try simp only [HBW.out]
        clear HV x0 x1 x2 x3 x4 x5 x6 xi ff
        go_cut [] from 30 to 146 (fun wx => PlEnd w lp p b (k + 1) wx ∧ wx.heap[B]? = some (.cells #[.int .i64 s.q, .int .u64 (s.v : Int), .int .u64 (s.u : Int), .int .u64 (s.n : Int), .int .u64 (s.m : Int), .slice s.d.1 s.d.2.1 s.d.2.2, .slice s.e.1 s.e.2.1 s.e.2.2] 37 (0, 0)))
        case first =>
          obtain ⟨f0, f1, f2, f3, f4, f5, f6⟩ := row7_cells HBX.out
          have HNN := Lib.hid (show N ≤ 1000000 by have := HK.out.1; omega)
          have HA3 := Lib.hid (arith3 (N := N) (g := g) (cu := cu) (by have := HK.out.1; omega)).2
          have HHO := Lib.hid (show 5 + cu ≤ 10000 ∧ 1 + g * (13 + cu) ≤ 90000 from ⟨by have := HK.out.1; omega, by have := HA3.out; omega⟩)
          by_cases q0 : s.q = 0
          · have CG := Lib.hid (lgive_calls (H := 5 + cu) (O := 1 + g * (13 + cu)) HPW.out.led HNN.out HPW.out.cell HAT.out.v HSX.out (Nat.le_trans HL4.out.1 (by decide)) HAT.out.n HTV.out HHO.out.1 HHO.out.2 (fun d s' h => HPN.out.cpl.ok HPN.out.bnd h))
            go_wp2_with fail
            refine CG.out.mono ?_
            rintro e' w4 ⟨rfl, h1, g1⟩
            clear CG
            have P1 := Lib.hid (HPW.out.prog h1 g1); have L1 := Lib.hid (HPW.out.led.isMapB.lk g1)
            clear h1 g1
            clear f0 f1 f2 f3 f4 f5 f6
            obtain ⟨f0, f1, f2, f3, f4, f5, f6⟩ := row7_cells (L1.out.keep _ _ _ _ HBX.out)
            have CR := Lib.hid (rlgive_calls P1.out.rled (v := s.v) HAT.out.n (HSX.out.lk L1.out) (Nat.le_trans HL4.out.1 (by decide)) (fun e' he => ⟨Nat.le_trans (HPN.out.bnd e' he).1 (by have := HK.out.1; omega), Nat.le_trans (HPN.out.bnd e' he).2 (by have := HHO.out.2; have := HA3.out; omega)⟩))
            go_wp2_with fail
            refine CR.out.mono ?_
            rintro e' w5 ⟨rfl, hm⟩
            clear CR
            have P2 := Lib.hid (P1.out.ref hm.1 hm.tn hm.2.2.limK (fun q h => .inl h)); have R2 := Lib.hid (hm.tn.keep (L1.out.keep _ _ _ _ HBX.out) HBS.out.1 HBS.out.2)
            clear hm
            have HF := Lib.hid (show PlEnd w lp p b (k + 1) w5 from ⟨_, _, gb, o, nn, cc, N, g + 1, cu, P2.out, ⟨HPN.out.cpl.all (fun s' t' h => same_give h (val s.xs) s.n) s.v, HPN.out.nN, (HPN.out.bnd.give (Nat.le_trans (ln_val HSX.out) HL4.out.1) HAT.out.n s.v).mono (Nat.le_refl _) (by rw [Nat.succ_mul]; omega)⟩, by have := HK.out.2; omega⟩)
            go_wp2_with fail
            go_meet
            case rel => exact ⟨HF.out, R2.out⟩
          have nq0 : (s.q == 0) = false := by rw [beq_eq_false_iff_ne]; exact q0
          by_cases q1 : s.q = 1
          · have CG := Lib.hid (lgive_calls (H := 5 + cu) (O := 1 + g * (13 + cu)) HPW.out.led HNN.out HPW.out.cell HAT.out.v HSX.out (Nat.le_trans HL4.out.1 (by decide)) HAT.out.n HTV.out HHO.out.1 HHO.out.2 (fun d s' h => HPN.out.cpl.ok HPN.out.bnd h))
            go_wp2_with fail
            refine CG.out.mono ?_
            rintro e' w4 ⟨rfl, h1, g1⟩
            clear CG
            have P1 := Lib.hid (HPW.out.prog h1 g1); have L1 := Lib.hid (HPW.out.led.isMapB.lk g1)
            clear h1 g1
            clear f0 f1 f2 f3 f4 f5 f6
            obtain ⟨f0, f1, f2, f3, f4, f5, f6⟩ := row7_cells (L1.out.keep _ _ _ _ HBX.out)
            have CR := Lib.hid (rlgive_calls P1.out.rled (v := s.v) HAT.out.n (HSX.out.lk L1.out) (Nat.le_trans HL4.out.1 (by decide)) (fun e' he => ⟨Nat.le_trans (HPN.out.bnd e' he).1 (by have := HK.out.1; omega), Nat.le_trans (HPN.out.bnd e' he).2 (by have := HHO.out.2; have := HA3.out; omega)⟩))
            go_wp2_with fail
            refine CR.out.mono ?_
            rintro e' w5 ⟨rfl, hm⟩
            clear CR
            have P2 := Lib.hid (P1.out.ref hm.1 hm.tn hm.2.2.limK (fun q h => .inl h)); have R2 := Lib.hid (hm.tn.keep (L1.out.keep _ _ _ _ HBX.out) HBS.out.1 HBS.out.2)
            clear hm
            have HF := Lib.hid (show PlEnd w lp p b (k + 1) w5 from ⟨_, _, gb, o, nn, cc, N, g + 1, cu, P2.out, ⟨HPN.out.cpl.all (fun s' t' h => same_give h (val s.xs) s.n) s.v, HPN.out.nN, (HPN.out.bnd.give (Nat.le_trans (ln_val HSX.out) HL4.out.1) HAT.out.n s.v).mono (Nat.le_refl _) (by rw [Nat.succ_mul]; omega)⟩, by have := HK.out.2; omega⟩)
            go_wp2_with fail
            go_meet
            case rel => exact ⟨HF.out, R2.out⟩
          have nq1 : (s.q == 1) = false := by rw [beq_eq_false_iff_ne]; exact q1
          by_cases q2 : s.q = 2
          · obtain ⟨z1, z2, z3, z4⟩ := HPN.out.cpl.settle s.v s.u
            obtain ⟨Q, hQ⟩ : ∃ x, ((rgot (rmap fSettle s.v es) s.v s.u).map (·.o)).getD (0, 1) = x := ⟨_, rfl⟩
            obtain ⟨PP, hPP⟩ : ∃ x, ((rgot (rmap fSettle s.v es) s.v s.u).map (·.p)).getD 0 = x := ⟨_, rfl⟩
            obtain ⟨KK, hKK⟩ : ∃ x, ((rgot (rmap fSettle s.v es) s.v s.u).map (·.k)).getD 0 = x := ⟨_, rfl⟩
            rw [hQ] at z2; rw [hPP] at z3; rw [hKK] at z4
            have HZ1 := Lib.hid z1; have HLK := Lib.hid (HPN.out.look (by have := HK.out.1; omega) s.v s.u)
            have HSQ := Lib.hid (show sz Q ≤ 100000 by rw [← z2, HLK.out.2.1]; exact Nat.le_trans HLK.out.2.2.2.1 (by decide))
            have CG := Lib.hid (lsettle_as HPW.out.led HNN.out HPW.out.cell HAT.out.v HAT.out.u (Nat.le_trans HLK.out.2.2.2.2.2 (by decide)) HTV.out rfl z2 z3 z4)
            have HR0 := Lib.hid (fun (W : World) (P : PlW w lp p b (settleM M s.v s.u) es gb o nn cc N W) => (show Calls Tryz.prog 15 #[.pointer (some ⟨lp, 0, none⟩), .int .u64 (s.v : Int), .int .u64 (s.u : Int)] W (RSet W lp gb o nn cc (rSettle es s.v s.u) Q PP KK) by have := rlsettle_calls P.rled (v := s.v) (d := s.u); rw [hQ, hPP, hKK] at this; exact this))
            clear z1 z2 z3 z4 hQ hPP hKK
            go_wp2_with fail
            refine CG.out.mono ?_
            rintro e' w4 ⟨a1, n1, c1, b1, m1, d1, rfl, r1, h1, g1⟩
            clear CG
            obtain ⟨V4, hV4⟩ : ∃ V, w4.alloc (.cells #[.slice a1 n1 c1, .slice b1 m1 d1] 40) = V := ⟨_, rfl⟩
            have E4 : Ext w4 V4 := by rw [← hV4]; exact (Ext.refl _).alloc _
            have b4 : V4.heap[w4.heap.size]? = some (.cells #[.slice a1 n1 c1, .slice b1 m1 d1] 40 (0, 0)) := by rw [← hV4]; exact heap_alloc_new w4 _
            have P1 := Lib.hid ((HPW.out.prog h1 g1).old E4); have L1 := Lib.hid ((HPW.out.led.isMapB.lk g1).trans E4.lk); have RA1 := Lib.hid (r1.old E4); have HB4 := Lib.hid b4; have HV4 := Lib.hid hV4
            have S4 := Lib.hid (show lp < w4.heap.size ∧ ∀ q, gb = some q → q < w4.heap.size from ⟨Nat.lt_of_lt_of_le HPW.out.rled.llt g1.size, fun q hq => Nat.lt_of_lt_of_le (HPW.out.rled.glt' q hq) g1.size⟩)
            clear h1 g1 r1 E4 b4 hV4
            clear f0 f1 f2 f3 f4 f5 f6
            obtain ⟨f0, f1, f2, f3, f4, f5, f6⟩ := row7_cells (L1.out.keep _ _ _ _ HBX.out)
            have CR := Lib.hid (HR0.out V4 P1.out)
            go_wp2_with (rw [HV4.out])
            refine CR.out.mono ?_
            rintro e' w5 ⟨a2, n2, c2, b2, m2, d2, rfl, r2, hm⟩
            clear CR HV4
            obtain ⟨V5, hV5⟩ : ∃ V, w5.alloc (.cells #[.slice a2 n2 c2, .slice b2 m2 d2] 40) = V := ⟨_, rfl⟩
            have E5 : Ext w5 V5 := by rw [← hV5]; exact (Ext.refl _).alloc _
            have b5 : V5.heap[w5.heap.size]? = some (.cells #[.slice a2 n2 c2, .slice b2 m2 d2] 40 (0, 0)) := by rw [← hV5]; exact heap_alloc_new w5 _
            have P2 := Lib.hid ((P1.out.ref hm.1 hm.tn hm.2.2.limK (fun q h => .inl h)).old E5); have R2 := Lib.hid (rowE E5 (hm.tn.keep (L1.out.keep _ _ _ _ HBX.out) HBS.out.1 HBS.out.2)); have Q4 := Lib.hid (rowE E5 (hm.tn.keep HB4.out S4.out.1 S4.out.2))
            have RA1b := Lib.hid ((RA1.out.ln hm.2.2).old E5); have RA2 := Lib.hid (r2.old E5); have HV5 := Lib.hid hV5
            obtain ⟨j1, j2, -, -⟩ := row2_cells Q4.out; obtain ⟨j3, j4, -, -⟩ := row2_cells b5
            clear hm r2 E5 b5 hV5 f0 f1 f2 f3 f4 f5 f6
            have CH := Lib.hid (hrat_q RA1b.out RA2.out HSQ.out HSQ.out true (decide_eq_true rfl))
            go_wp2_with (rw [HV5.out])
            refine CH.out.mono ?_
            rintro e' w6 ⟨rfl, x6⟩
            clear CH HV5 j1 j2 j3 j4
            have HF := Lib.hid (show PlEnd w lp p b (k + 1) w6 from ⟨_, _, gb, o, nn, cc, N, g, cu, P2.out.old x6, ⟨HZ1.out, HPN.out.nN, HPN.out.bnd.settle (by omega) (by omega) s.v s.u⟩, by have := HK.out.2; omega⟩)
            have R3 := Lib.hid (rowE x6 R2.out)
            clear x6
            go_wp2_with fail
            go_meet
            case rel => exact ⟨HF.out, R3.out⟩
          have nq2 : (s.q == 2) = false := by rw [beq_eq_false_iff_ne]; exact q2
          by_cases q3 : s.q = 3
          · have CG := Lib.hid (lhold_calls (N' := N + 1) HPW.out.led HNN.out HPW.out.cell HAT.out.v HAT.out.u HSX.out HSY.out (Nat.le_trans HL4.out.1 (by decide)) (Nat.le_trans HL4.out.2 (by decide)) HAT.out.n (by split <;> omega) HTV.out)
            go_wp2_with fail
            refine CG.out.mono ?_
            rintro e' w4 ⟨rfl, h1, g1⟩
            clear CG
            have P1 := Lib.hid (HPW.out.prog h1 g1); have L1 := Lib.hid (HPW.out.led.isMapB.lk g1)
            clear h1 g1
            clear f0 f1 f2 f3 f4 f5 f6
            obtain ⟨f0, f1, f2, f3, f4, f5, f6⟩ := row7_cells (L1.out.keep _ _ _ _ HBX.out)
            have CR := Lib.hid (rlhold_calls P1.out.rled (by have := HPN.out.nN; have := HK.out.1; omega) HAT.out.v HAT.out.u HAT.out.n (HSX.out.lk L1.out) (Nat.le_trans HL4.out.1 (by decide)) (far_of HAT.out.x HPW.out.gge) (HSY.out.lk L1.out) (Nat.le_trans HL4.out.2 (by decide)) (far_of HAT.out.y HPW.out.gge))
            go_wp2_with fail
            refine CR.out.mono ?_
            rintro e' w5 ⟨rfl, gb', o', n', c', hr, hg, ht, hl, hn'⟩
            clear CR
            have P2 := Lib.hid (P1.out.ref hr ht hl hg); have R2 := Lib.hid (ht.keep (L1.out.keep _ _ _ _ HBX.out) HBS.out.1 HBS.out.2)
            have HF := Lib.hid (show PlEnd w lp p b (k + 1) w5 from ⟨_, _, gb', o', n', c', N + 1, g, cu, P2.out, ⟨HPN.out.cpl.hold HAT.out.v HAT.out.u (val s.xs) (val s.ys) s.n, by have := HPN.out.nN; omega, HPN.out.bnd.hold (by omega) (Nat.le_trans (sz_holdR (a := 4) (Nat.le_trans (ln_val HSX.out) HL4.out.1) (Nat.le_trans (ln_val HSY.out) (by have := HL4.out.2; omega)) HAT.out.n) (by omega)) s.v s.u⟩, by have := HK.out.2; omega⟩)
            clear hr hg ht hl hn'
            go_wp2_with fail
            go_meet
            case rel => exact ⟨HF.out, R2.out⟩
          have nq3 : (s.q == 3) = false := by rw [beq_eq_false_iff_ne]; exact q3
          by_cases q4 : s.q = 4
          · have CG := Lib.hid (lhold_calls (N' := N + 1) HPW.out.led HNN.out HPW.out.cell HAT.out.v HAT.out.u HSX.out HSY.out (Nat.le_trans HL4.out.1 (by decide)) (Nat.le_trans HL4.out.2 (by decide)) HAT.out.n (by split <;> omega) HTV.out)
            go_wp2_with fail
            refine CG.out.mono ?_
            rintro e' w4 ⟨rfl, h1, g1⟩
            clear CG
            have P1 := Lib.hid (HPW.out.prog h1 g1); have L1 := Lib.hid (HPW.out.led.isMapB.lk g1)
            clear h1 g1
            clear f0 f1 f2 f3 f4 f5 f6
            obtain ⟨f0, f1, f2, f3, f4, f5, f6⟩ := row7_cells (L1.out.keep _ _ _ _ HBX.out)
            have CR := Lib.hid (rlhold_calls P1.out.rled (by have := HPN.out.nN; have := HK.out.1; omega) HAT.out.v HAT.out.u HAT.out.n (HSX.out.lk L1.out) (Nat.le_trans HL4.out.1 (by decide)) (far_of HAT.out.x HPW.out.gge) (HSY.out.lk L1.out) (Nat.le_trans HL4.out.2 (by decide)) (far_of HAT.out.y HPW.out.gge))
            go_wp2_with fail
            refine CR.out.mono ?_
            rintro e' w5 ⟨rfl, gb', o', n', c', hr, hg, ht, hl, hn'⟩
            clear CR
            have P2 := Lib.hid (P1.out.ref hr ht hl hg); have R2 := Lib.hid (ht.keep (L1.out.keep _ _ _ _ HBX.out) HBS.out.1 HBS.out.2)
            have HF := Lib.hid (show PlEnd w lp p b (k + 1) w5 from ⟨_, _, gb', o', n', c', N + 1, g, cu, P2.out, ⟨HPN.out.cpl.hold HAT.out.v HAT.out.u (val s.xs) (val s.ys) s.n, by have := HPN.out.nN; omega, HPN.out.bnd.hold (by omega) (Nat.le_trans (sz_holdR (a := 4) (Nat.le_trans (ln_val HSX.out) HL4.out.1) (Nat.le_trans (ln_val HSY.out) (by have := HL4.out.2; omega)) HAT.out.n) (by omega)) s.v s.u⟩, by have := HK.out.2; omega⟩)
            clear hr hg ht hl hn'
            go_wp2_with fail
            go_meet
            case rel => exact ⟨HF.out, R2.out⟩
          have nq4 : (s.q == 4) = false := by rw [beq_eq_false_iff_ne]; exact q4
          by_cases q5 : s.q = 5
          · have CG := Lib.hid (ldrop_calls HPW.out.led HPW.out.cell HAT.out.v HAT.out.u)
            go_wp2_with fail
            refine CG.out.mono ?_
            rintro e' w4 ⟨rfl, h1, g1⟩
            clear CG
            have P1 := Lib.hid (HPW.out.prog h1 g1); have L1 := Lib.hid (HPW.out.led.isMapB.lk g1)
            clear h1 g1
            clear f0 f1 f2 f3 f4 f5 f6
            obtain ⟨f0, f1, f2, f3, f4, f5, f6⟩ := row7_cells (L1.out.keep _ _ _ _ HBX.out)
            have CR := Lib.hid (rldrop_calls P1.out.rled (by have := HPN.out.nN; have := HK.out.1; omega) (v := s.v) (d := s.u))
            go_wp2_with fail
            refine CR.out.mono ?_
            rintro e' w5 ⟨rfl, gb', o', n', c', hr, hg, ht, hl, hn'⟩
            clear CR
            have P2 := Lib.hid (P1.out.ref hr (ht.none gb) hl.limK hg); have R2 := Lib.hid ((ht.none gb).keep (L1.out.keep _ _ _ _ HBX.out) HBS.out.1 HBS.out.2)
            have HF := Lib.hid (show PlEnd w lp p b (k + 1) w5 from ⟨_, _, gb', o', n', c', N, g, cu, P2.out, ⟨HPN.out.cpl.drop s.v s.u, by have := HPN.out.nN; omega, HPN.out.bnd.drop s.v s.u⟩, by have := HK.out.2; omega⟩)
            clear hr hg ht hl hn'
            go_wp2_with fail
            go_meet
            case rel => exact ⟨HF.out, R2.out⟩
          have nq5 : (s.q == 5) = false := by rw [beq_eq_false_iff_ne]; exact q5
          by_cases q6 : s.q = 6
          · have CG := Lib.hid (lcut_calls (H := 5 + cu) (O := 1 + g * (13 + cu)) HPW.out.led HNN.out HPW.out.cell HAT.out.v HAT.out.n HAT.out.m HTV.out HHO.out.1 (fun d s' h => HPN.out.cpl.ok HPN.out.bnd h))
            go_wp2_with fail
            refine CG.out.mono ?_
            rintro e' w4 ⟨rfl, h1, g1⟩
            clear CG
            have P1 := Lib.hid (HPW.out.prog h1 g1); have L1 := Lib.hid (HPW.out.led.isMapB.lk g1)
            clear h1 g1
            clear f0 f1 f2 f3 f4 f5 f6
            obtain ⟨f0, f1, f2, f3, f4, f5, f6⟩ := row7_cells (L1.out.keep _ _ _ _ HBX.out)
            have CR := Lib.hid (rlcut_calls P1.out.rled (v := s.v) HAT.out.n HAT.out.m (fun e' he => Nat.le_trans (HPN.out.bnd e' he).1 (by have := HK.out.1; omega)))
            go_wp2_with fail
            refine CR.out.mono ?_
            rintro e' w5 ⟨rfl, hm⟩
            clear CR
            have P2 := Lib.hid (P1.out.ref hm.1 hm.tn hm.2.2.limK (fun q h => .inl h)); have R2 := Lib.hid (hm.tn.keep (L1.out.keep _ _ _ _ HBX.out) HBS.out.1 HBS.out.2)
            clear hm
            have HF := Lib.hid (show PlEnd w lp p b (k + 1) w5 from ⟨_, _, gb, o, nn, cc, N, g, cu + 1, P2.out, ⟨HPN.out.cpl.all (fun s' t' h => same_cut h s.m s.n) s.v, HPN.out.nN, (HPN.out.bnd.cut HAT.out.n HAT.out.m s.v).mono (by omega) (Nat.add_le_add_left (Nat.mul_le_mul_left _ (by omega)) 1)⟩, by have := HK.out.2; omega⟩)
            go_wp2_with fail
            go_meet
            case rel => exact ⟨HF.out, R2.out⟩
          have nq6 : (s.q == 6) = false := by rw [beq_eq_false_iff_ne]; exact q6
          have HF := Lib.hid (show PlEnd w lp p b (k + 1) V from ⟨_, _, gb, o, nn, cc, N, g, cu, HPW.out, HPN.out, by have := HK.out.2; omega⟩)
          go_wp2_with fail
          go_meet
          case rel => exact ⟨HF.out, HBX.out⟩
        case rest =>
          revert wc; intro wb hcut
          obtain ⟨⟨M1, es1, gb1, o1, nn1, cc1, N1, g1, cu1, hpw1, hpn1, hk1⟩, hbx1⟩ := hcut
          have hle : N1 + g1 + cu1 ≤ 40 := by have := HLT.out.1; omega
          have HP := Lib.hid (hpw1.old (Ext.refl _).drew); have HLK := Lib.hid (hpn1.look hle s.v s.u); have HSU := Lib.hid (hpn1.sums hle hpw1.rled.len s.v); have HEND := Lib.hid (And.intro hpn1 (And.intro hk1 hpw1))
          have HS := Lib.hid (fun w' (L : Lk wb w') => (show w'.cell? ⟨B, 1, none⟩ = some (.int .u64 (s.v : Int)) ∧ w'.cell? ⟨B, 2, none⟩ = some (.int .u64 (s.u : Int)) from ⟨L.cell (row7_cells hbx1).2.1, L.cell (row7_cells hbx1).2.2.1⟩))
          clear hpw1 hpn1 hk1 hbx1 hle HPW HPN HBX HSX HSY
          go_wp2_with fail
          go_region_held3 (fun w' => w'.cell? ⟨B, 1, none⟩ = some (.int .u64 (s.v : Int)) ∧ w'.cell? ⟨B, 2, none⟩ = some (.int .u64 (s.u : Int)))
            (first | exact HS.out _ (Ext.refl wb).drew.lk | exact HS.out _ (by assumption))
            (first
              | (go_at_call 23; refine (lstake_calls HP.out.led HP.out.cell HAT.out.v HAT.out.u (Nat.le_trans HLK.out.2.2.2.2.1 (by decide)) (HTZ.out.old HP.out.ext)).mono ?_; rintro e' u1 ⟨a1, n1, c1, b1, m1, d1, rfl, r1, h1, y1⟩; have P1 := HP.out.prog h1 y1; have K1 : Lk wb u1 := Lk.trans (Ext.refl wb).drew.lk (HP.out.led.isMapB.lk y1))
              | (go_at_call 24; refine (rlstake_calls P1.rled (v := s.v) (d := s.u)).mono ?_; rintro e' u2 ⟨a2, n2, c2, b2, m2, d2, rfl, r2, x2⟩; have P2 := P1.old x2; have K2 : Lk wb u2 := Lk.trans K1 x2.lk)
              | (go_at_call_of 16 a1; refine (hrat_q (r1.old x2) r2 (Nat.le_trans (sz_canQ HLK.out.1 HLK.out.2.2.1) (by decide)) (Nat.le_trans HLK.out.2.2.1 (by decide)) true (decide_eq_true HLK.out.1)).mono ?_; rintro e' u3 ⟨rfl, x3⟩; have P3 := P2.old x3; have K3 : Lk wb u3 := Lk.trans K2 x3.lk)
              | (go_at_call 25; refine (lowed_calls P3.led P3.cell HAT.out.v HAT.out.u (Nat.le_trans HLK.out.2.2.2.2.2 (by decide)) (HTZ.out.old P3.ext)).mono ?_; rintro e' u4 ⟨a4, n4, c4, b4, m4, d4, rfl, r4, h4, y4⟩; have P4 := P3.prog h4 y4; have K4 : Lk wb u4 := Lk.trans K3 (P3.led.isMapB.lk y4))
              | (go_at_call 26; refine (rlowed_calls P4.rled (v := s.v) (d := s.u)).mono ?_; rintro e' u5 ⟨a5, n5, c5, b5, m5, d5, rfl, r5, x5⟩; have P5 := P4.old x5; have K5 : Lk wb u5 := Lk.trans K4 x5.lk)
              | (go_at_call_of 16 a4; refine (hrat_q (r4.old x5) r5 (Nat.le_trans (sz_canQ HLK.out.2.1 HLK.out.2.2.2.1) (by decide)) (Nat.le_trans HLK.out.2.2.2.1 (by decide)) true (decide_eq_true HLK.out.2.1)).mono ?_; rintro e' u6 ⟨rfl, x6⟩; have P6 := P5.old x6; have K6 : Lk wb u6 := Lk.trans K5 x6.lk)
              | (go_at_call 27; refine (lstakes_as (H := 45) P6.led HSU.out.2.2.2.2.1 P6.cell HAT.out.v (HTZ.out.old P6.ext) (by decide) HSU.out.2.2.2.2.2.1 HSU.out.2.2.2.2.2.2.2.2.2.2.2.1 HSU.out.1).mono ?_; rintro e' u7 ⟨a7, n7, c7, b7, m7, d7, rfl, r7, h7, y7⟩; have P7 := P6.prog h7 y7; have K7 : Lk wb u7 := Lk.trans K6 (P6.led.isMapB.lk y7))
              | (go_at_call 28; refine (rlstakes_calls P7.rled (v := s.v) (H := 45) HSU.out.2.2.2.2.2.2.2.2.2.1 HSU.out.2.2.2.2.2.2.2.1 (by decide)).mono ?_; rintro e' u8 ⟨a8, n8, c8, b8, m8, d8, rfl, r8, x8⟩; have P8 := P7.old x8; have K8 : Lk wb u8 := Lk.trans K7 x8.lk)
              | (go_at_call_of 16 a7; refine (hrat_q (r7.old x8) r8 (Nat.le_trans HSU.out.2.2.1 (by decide)) (Nat.le_trans HSU.out.2.2.1 (by decide)) true (decide_eq_true rfl)).mono ?_; rintro e' u9 ⟨rfl, x9⟩; have P9 := P8.old x9; have K9 : Lk wb u9 := Lk.trans K8 x9.lk)
              | (go_at_call 29; refine (lowes_as (H := 1 + g1 * (13 + cu1)) P9.led HSU.out.2.2.2.2.1 P9.cell HAT.out.v (HTZ.out.old P9.ext) HSU.out.2.2.2.2.2.2.2.2.2.2.2.2.2 HSU.out.2.2.2.2.2.2.1 HSU.out.2.2.2.2.2.2.2.2.2.2.2.2.1 HSU.out.2.1).mono ?_; rintro e' u10 ⟨a10, n10, c10, b10, m10, d10, rfl, r10, h10, y10⟩; have P10 := P9.prog h10 y10; have K10 : Lk wb u10 := Lk.trans K9 (P9.led.isMapB.lk y10))
              | (go_at_call 30; refine (rlowes_calls P10.rled (v := s.v) (H := 1 + g1 * (13 + cu1)) HSU.out.2.2.2.2.2.2.2.2.2.2.1 HSU.out.2.2.2.2.2.2.2.2.1 HSU.out.2.2.2.2.2.2.2.2.2.2.2.2.2).mono ?_; rintro e' u11 ⟨a11, n11, c11, b11, m11, d11, rfl, r11, x11⟩; have P11 := P10.old x11; have K11 : Lk wb u11 := Lk.trans K10 x11.lk)
              | (go_at_call_of 16 a10; refine (hrat_q (r10.old x11) r11 (Nat.le_trans HSU.out.2.2.2.1 (by decide)) (Nat.le_trans HSU.out.2.2.2.1 (by decide)) true (decide_eq_true rfl)).mono ?_; rintro e' u12 ⟨rfl, x12⟩; have P12 := P11.old x12; have K12 : Lk wb u12 := Lk.trans K11 x12.lk))
          have HFE := Lib.hid (show PlEnd w lp p b (k + 1) u12 from ⟨_, _, gb1, o1, nn1, cc1, N1, g1, cu1, P12, HEND.out.1, HEND.out.2.1⟩)
          clear P1 K1 P2 K2 P3 K3 P4 K4 P5 K5 P6 K6 P7 K7 P8 K8 P9 K9 P10 K10 P11 K11 P12 K12 x2 x3 x5 x6 x8 x9 x11 x12 r1 r2 r4 r5 r7 r8 r10 r11 h1 y1 h4 y4 h7 y7 h10 y10
          go_wp2_with fail
          go_roundw
          case rel => exact ⟨k + 1, by omega, by go_num, HFE.out⟩
          case measure => simp only [RowKit.intOf]; omega

end Go.Proofs.YtimcnhlcepemjaaGreatDoor
