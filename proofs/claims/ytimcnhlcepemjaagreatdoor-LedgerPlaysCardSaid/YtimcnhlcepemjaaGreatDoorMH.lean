
/- The ledger's functions: Give, Cut, Hold, Drop, Settle, Stake, Owed, Stakes, Owes. -/
import Derived.Test.YtimcnhlcepemjaaGreatDoorLedE
import Derived.Test.YtimcnhlcepemjaaGreatDoorMG
import Derived.Deep.RegionHeld3
import Derived.StillTailTactics

/- The steps that each is handed: what is given, cut, settled, summed. -/
namespace Go.Proofs.YtimcnhlcepemjaaGreatDoor
open Go.RowKit

theorem TzTab.of_block {w w' : World} (h : TzTab w) (hk : w'.heap[0]? = w.heap[0]?) : TzTab w' := by
  unfold TzTab Lib.TabIs World.var? at *
  rw [gTz] at *
  simp only [Option.bind_some] at *
  rw [hk]
  exact h
theorem TzTab.lk {w w' : World} (h : TzTab w) (L : Lk w w') : TzTab w' := by
  have hc := h.cell 0 (by decide)
  unfold World.cell? at hc
  cases ho : w.heap[0]? with
  | none => rw [ho] at hc; cases hc
  | some o =>
    cases o with
    | cells cur T fr => exact h.of_block (by rw [ho]; exact L.keep _ _ _ _ ho)
    | _ => rw [ho] at hc; cases hc
/-- A block whose first cell is no byte. -/
def NoByte (w : World) (B : Nat) : Prop := ∀ x : Int, w.cell? ⟨B, 0, none⟩ ≠ some (.int .u8 x)
theorem TzTab.tn {w w' : World} {b : Nat} {ob : Option Nat} (h : TzTab w) (t : Tn w w' b ob) (hb : NoByte w b) (ho : ∀ o, ob = some o → NoByte w o) : TzTab w' := by
  have hc := h.cell 0 (by decide)
  have hlt := World.block_lt_of_cell? w _ hc
  exact h.of_block (t.block _ hlt (fun e => hb ((Lib.deBruijn64tab.getD 0 0 : Nat) : Int) (by rw [← e]; exact hc)) (fun e => ho _ e.symm _ hc))
theorem noByte_slice {w : World} {B : Nat} {o : Option Addr} {n c : Nat} (h : w.cell? ⟨B, 0, none⟩ = some (.slice o n c)) : NoByte w B := by
  intro x e
  rw [h] at e
  cases e
theorem IsMapB.noByte {w : World} {b : Nat} (h : IsMapB w b) : NoByte w b := by
  intro x r
  obtain ⟨es, c, hb⟩ := h
  unfold World.cell? at r
  simp [hb] at r
theorem RA.ln {w w' : World} {a : Option Addr} {n c : Nat} {b : Option Addr} {m d : Nat} {q : Nat × Nat} (h : RA w a n c b m d q) (L : Ln w w') : RA w' a n c b m d q := ⟨h.nu.ln L, h.de.ln L⟩
theorem RA.lk {w w' : World} {a : Option Addr} {n c : Nat} {b : Option Addr} {m d : Nat} {q : Nat × Nat} (h : RA w a n c b m d q) (L : Lk w w') : RA w' a n c b m d q := ⟨h.nu.lk L, h.de.lk L⟩
theorem St6.ra1 {w : World} {a1 : Option Addr} {m1 c1 : Nat} {b1 : Option Addr} {n1 d1 : Nat} {a2 : Option Addr} {m2 c2 : Nat} {b2 : Option Addr} {n2 d2 : Nat} {s : Stk} (h : St6 w a1 m1 c1 b1 n1 d1 a2 m2 c2 b2 n2 d2 s) : RA w a1 m1 c1 b1 n1 d1 s.h := ⟨h.s1, h.s2⟩
theorem St6.ra2 {w : World} {a1 : Option Addr} {m1 c1 : Nat} {b1 : Option Addr} {n1 d1 : Nat} {a2 : Option Addr} {m2 c2 : Nat} {b2 : Option Addr} {n2 d2 : Nat} {s : Stk} (h : St6 w a1 m1 c1 b1 n1 d1 a2 m2 c2 b2 n2 d2 s) : RA w a2 m2 c2 b2 n2 d2 s.o := ⟨h.s3, h.s4⟩
theorem Tn.cell1 {w w' : World} {xb i : Nat} (h : Ext w w') (u : Value) (ob : Option Nat) : Tn w (w'.setCell ⟨xb, i, none⟩ u) xb ob :=
  (Tn.ext h xb ob).trans (Tn.one (setCell_by' w' xb i u) ob) (.inl rfl)
theorem Tn.cell2 {ob : Option Nat} {w w' : World} {xb i : Nat} (h : Tn w w' xb ob) (u : Value) : Tn w (w'.setCell ⟨xb, i, none⟩ u) xb ob :=
  h.trans (Tn.one (setCell_by' w' xb i u) ob) (.inl rfl)

theorem St6.as {w : World} {a1 : Option Addr} {m1 c1 : Nat} {b1 : Option Addr} {n1 d1 : Nat} {a2 : Option Addr} {m2 c2 : Nat} {b2 : Option Addr} {n2 d2 : Nat} {s s' : Stk} (h : St6 w a1 m1 c1 b1 n1 d1 a2 m2 c2 b2 n2 d2 s) (h1 : s'.h = s.h) (h2 : s'.o = s.o) : St6 w a1 m1 c1 b1 n1 d1 a2 m2 c2 b2 n2 d2 s' :=
  ⟨by rw [h1]; exact h.s1, by rw [h1]; exact h.s2, by rw [h2]; exact h.s3, by rw [h2]; exact h.s4⟩

/-! Settle's step: one period more. -/
def fSettle (s : Stk) : Stk := ⟨s.h, s.o, wrap64 (s.p + 1), s.k⟩
set_option maxHeartbeats 4000000 in
set_option maxRecDepth 100000 in
theorem settle_how (N : Nat) : HowAt Unit Tryz.prog 58 #[] fSettle (fun _ _ => ()) none (fun _ => True) N (fun _ _ _ => True) := by
  intro W xb a1 m1 c1 b1 n1 d1 a2 m2 c2 b2 n2 d2 s k a hk hok hrow hne h6 hp
  show Calls Tryz.prog 58 #[.pointer (some ⟨xb, 0, none⟩)] W _
  obtain ⟨f0, f1, f2, f3, f4, f5⟩ := row6_cells hrow
  have g4 : W.frozen? ⟨xb, 4, none⟩ = false := frozen_of_row _ _ _ _ _ hrow
  have HROW := Lib.hid hrow; have H6 := Lib.hid h6
  clear hrow h6 hok hk hp hne
  go_enter Tryz.func58, Tryz.ntmps58
  go_wp2_with fail
  go_end0
  have T := Tn.cell1 (xb := xb) (i := 4) (Ext.refl W) (.int .i64 (wrap64 (s.p + 1))) none
  exact ⟨rfl, trivial, T, a1, m1, c1, b1, n1, d1, a2, m2, c2, b2, n2, d2, heap_setCell_same _ xb 4 _ _ _ HROW.out, (H6.out.ln (T.ln (noNum6 HROW.out) (fun o h => by cases h))).as rfl rfl⟩

/-! Give's step: what is owed grows by a share of what is had. -/
def PartAt (q : Nat × Nat) (pb : Nat) (W : World) : Prop :=
  TzTab W ∧ ∃ a n c b m d, W.heap[pb]? = some (.cells #[.slice a n c, .slice b m d] 40 (0, 0)) ∧ RA W a n c b m d q
theorem PartAt.lk {q : Nat × Nat} {pb : Nat} {w w' : World} (h : PartAt q pb w) (L : Lk w w') : PartAt q pb w' := by
  obtain ⟨h0, a, n, c, b, m, d, h1, h2⟩ := h
  exact ⟨h0.lk L, a, n, c, b, m, d, L.keep _ _ _ _ h1, h2.lk L⟩
theorem row6_ne {w : World} {xb pb : Nat} {u0 u1 u2 u3 u4 u5 v0 v1 : Value} {T T' : TypeId} (h : w.heap[xb]? = some (.cells #[u0, u1, u2, u3, u4, u5] T (0, 0))) (k : w.heap[pb]? = some (.cells #[v0, v1] T' (0, 0))) : pb ≠ xb := by
  intro e
  rw [e, h] at k
  simp at k
theorem PartAt.tn {q : Nat × Nat} {pb xb : Nat} {w w' : World} (h : PartAt q pb w) (t : Tn w w' xb none) {o1 : Option Addr} {n1 c1 : Nat} {u1 u2 u3 u4 u5 : Value} {T : TypeId} (hx : w.heap[xb]? = some (.cells #[.slice o1 n1 c1, u1, u2, u3, u4, u5] T (0, 0))) (hn : NoNum w xb) : PartAt q pb w' := by
  obtain ⟨h0, a, n, c, b, m, d, h1, h2⟩ := h
  have L := t.ln hn (fun o h => by cases h)
  refine ⟨h0.tn t (noByte_slice (row6_cells hx).1) (fun o h => by cases h), a, n, c, b, m, d, ?_, h2.ln L⟩
  rw [t.block pb (Array.getElem?_eq_some_iff.1 h1).1 (row6_ne hx h1) (by simp)]
  exact h1
def OkB (H O : Nat) (s : Stk) : Prop := sz s.h ≤ H ∧ sz s.o ≤ O
def fGive (q : Nat × Nat) (s : Stk) : Stk := ⟨s.h, addR s.o (mulR s.h q), s.p, s.k⟩
set_option maxHeartbeats 8000000 in
set_option maxRecDepth 100000 in
theorem give_how {q : Nat × Nat} {pb H O N : Nat} (hq : sz q ≤ 10000) (hH : H ≤ 10000) (hO : O ≤ 90000) :
    HowAt Unit Tryz.prog 52 #[.pointer (some ⟨pb, 0, none⟩)] (fGive q) (fun _ _ => ()) none (OkB H O) N (fun W _ _ => PartAt q pb W) := by
  intro W xb a1 m1 c1 b1 n1 d1 a2 m2 c2 b2 n2 d2 s k a hk hok hrow hne h6 hp
  show Calls Tryz.prog 52 #[.pointer (some ⟨xb, 0, none⟩), .pointer (some ⟨pb, 0, none⟩)] W _
  have hp' := hp
  obtain ⟨hz, pa, pn, pc, pd, pm, pe, hpr, hpq⟩ := hp
  obtain ⟨f0, f1, f2, f3, f4, f5⟩ := row6_cells hrow
  obtain ⟨k1, k2, -, -⟩ := row2_cells hpr
  unfold fGive
  obtain ⟨mq, hmq⟩ : ∃ x, mulR s.h q = x := ⟨_, rfl⟩
  obtain ⟨aq, haq⟩ : ∃ x, addR s.o mq = x := ⟨_, rfl⟩
  have hs1 : sz s.h ≤ 100000 := by have := hok.1; omega
  have hs2 : sz s.o ≤ 100000 := by have := hok.2; omega
  have hs3 : sz mq ≤ 100000 := by have := sz_mul s.h q; rw [hmq] at this; have := hok.1; omega
  rw [hmq, haq]
  have CM := fun W' (E : Ext W W') => rmul_q (h6.ra1.old E) (hpq.old E) hs1 (by omega) (hz.old E)
  rw [hmq] at CM
  have CA := fun W' (E : Ext W W') {o1 z1 y1 o2 z2 y2} (h : RA W' o1 z1 y1 o2 z2 y2 mq) => radd_q (h6.ra2.old E) h hs2 hs3 (hz.old E)
  rw [haq] at CA
  have HCM := Lib.hid CM; have HCA := Lib.hid (fun W' E o1 z1 y1 o2 z2 y2 h => CA W' E (o1 := o1) (z1 := z1) (y1 := y1) (o2 := o2) (z2 := z2) (y2 := y2) h)
  have HROW := Lib.hid hrow; have H6 := Lib.hid h6; have HPR := Lib.hid hpr; have HP := Lib.hid hp'
  clear CM CA hrow h6 hok hk hne hz hpr hpq hp' hmq haq hs1 hs2 hs3
  go_enter Tryz.func52, Tryz.ntmps52
  go_wp2_with fail
  go_region_with (first
    | (go_at_call 45; refine (HCM.out _ (Ext.refl _).drew).mono ?_; rintro e wA ⟨o1, z1, y1, o2, z2, y2, rfl, h1, h2, hxA⟩; have EA : Ext W wA := (Ext.refl _).drew.trans hxA; obtain ⟨x0, x1, x2, x3, x4, x5⟩ := row6_cells (rowE EA HROW.out); obtain ⟨j1, j2, -, -⟩ := row2_cells (rowE EA HPR.out))
    | (go_at_call 53; refine (HCA.out _ EA _ _ _ _ _ _ ⟨h1.sl, h2.sl⟩).mono ?_; rintro e wB ⟨o3, z3, y3, o4, z4, y4, rfl, h3, h4, hxB⟩; have EB : Ext W wB := EA.trans hxB; obtain ⟨t0, t1, t2, t3, t4, t5⟩ := row6_cells (rowE EB HROW.out); have g2 : wB.frozen? ⟨xb, 2, none⟩ = false := frozen_of_row _ _ _ _ _ (rowE EB HROW.out); have g3 : wB.frozen? ⟨xb, 3, none⟩ = false := frozen_of_row _ _ _ _ _ (rowE EB HROW.out)))
  all_goals (
    go_wp2_with fail
    go_end0
    have T := (Tn.cell1 (xb := xb) (i := 2) EB (.slice o3 z3 y3) none).cell2 (i := 3) (.slice o4 z4 y4)
    have LB := ((Tn.cell1 (xb := xb) (i := 2) (Ext.refl wB) (.slice o3 z3 y3) none).cell2 (i := 3) (.slice o4 z4 y4)).ln (noNum6 (rowE EB HROW.out)) (fun o h => by cases h)
    have LW := T.ln (noNum6 HROW.out) (fun o h => by cases h)
    exact ⟨rfl, HP.out.tn T HROW.out (noNum6 HROW.out), T, a1, m1, c1, b1, n1, d1, o3, z3, y3, o4, z4, y4, heap_setCell_same _ xb 3 _ _ _ (heap_setCell_same _ xb 2 _ _ _ (rowE EB HROW.out)), ⟨H6.out.s1.ln LW, H6.out.s2.ln LW, h3.sl.ln LB, h4.sl.ln LB⟩⟩)

/-! Cut's step. -/
def fCut (q : Nat × Nat) (s : Stk) : Stk := ⟨mulR s.h q, s.o, wrap64 (s.p + 1), wrap64 (s.k + 1)⟩
set_option maxHeartbeats 8000000 in
set_option maxRecDepth 100000 in
theorem cut_how {q : Nat × Nat} {pb H O N : Nat} (hq : sz q ≤ 10000) (hH : H ≤ 10000) :
    HowAt Unit Tryz.prog 66 #[.pointer (some ⟨pb, 0, none⟩)] (fCut q) (fun _ _ => ()) none (OkB H O) N (fun W _ _ => PartAt q pb W) := by
  intro W xb a1 m1 c1 b1 n1 d1 a2 m2 c2 b2 n2 d2 s k a hk hok hrow hne h6 hp
  show Calls Tryz.prog 66 #[.pointer (some ⟨xb, 0, none⟩), .pointer (some ⟨pb, 0, none⟩)] W _
  have hp' := hp
  obtain ⟨hz, pa, pn, pc, pd, pm, pe, hpr, hpq⟩ := hp
  obtain ⟨f0, f1, f2, f3, f4, f5⟩ := row6_cells hrow
  obtain ⟨k1, k2, -, -⟩ := row2_cells hpr
  unfold fCut
  obtain ⟨mq, hmq⟩ : ∃ x, mulR s.h q = x := ⟨_, rfl⟩
  have hs1 : sz s.h ≤ 100000 := by have := hok.1; omega
  rw [hmq]
  have CM := fun W' (E : Ext W W') => rmul_q (h6.ra1.old E) (hpq.old E) hs1 (by omega) (hz.old E)
  rw [hmq] at CM
  have HCM := Lib.hid CM
  have HROW := Lib.hid hrow; have H6 := Lib.hid h6; have HPR := Lib.hid hpr; have HP := Lib.hid hp'
  clear CM hrow h6 hok hk hne hz hpr hpq hp' hmq hs1
  go_enter Tryz.func66, Tryz.ntmps66
  go_wp2_with fail
  go_region_with (first
    | (go_at_call 45; refine (HCM.out _ (Ext.refl _).drew).mono ?_; rintro e wA ⟨o1, z1, y1, o2, z2, y2, rfl, h1, h2, hxA⟩; have EA : Ext W wA := (Ext.refl _).drew.trans hxA; obtain ⟨x0, x1, x2, x3, x4, x5⟩ := row6_cells (rowE EA HROW.out); have g0 : wA.frozen? ⟨xb, 0, none⟩ = false := frozen_of_row _ _ _ _ _ (rowE EA HROW.out); have g1 : wA.frozen? ⟨xb, 1, none⟩ = false := frozen_of_row _ _ _ _ _ (rowE EA HROW.out)))
  all_goals (
    obtain ⟨wC, hwC⟩ : ∃ x, (wA.setCell ⟨xb, 0, none⟩ (.slice o1 z1 y1)).setCell ⟨xb, 1, none⟩ (.slice o2 z2 y2) = x := ⟨_, rfl⟩
    have T := (Tn.cell1 (xb := xb) (i := 0) EA (.slice o1 z1 y1) none).cell2 (i := 1) (.slice o2 z2 y2)
    have LB := ((Tn.cell1 (xb := xb) (i := 0) (Ext.refl wA) (.slice o1 z1 y1) none).cell2 (i := 1) (.slice o2 z2 y2)).ln (noNum6 (rowE EA HROW.out)) (fun o h => by cases h)
    have HR := heap_setCell_same _ xb 1 _ _ (.slice o2 z2 y2) (heap_setCell_same _ xb 0 _ _ (.slice o1 z1 y1) (rowE EA HROW.out))
    rw [hwC] at T LB HR
    have hr : wC.heap[xb]? = some (.cells #[.slice o1 z1 y1, .slice o2 z2 y2, .slice a2 m2 c2, .slice b2 n2 d2, .int .i64 s.p, .int .i64 s.k] 78 (0, 0)) := HR
    have hs1 := h1.sl.ln LB; have hs2 := h2.sl.ln LB
    have HT := Lib.hid T; have HRC := Lib.hid hr; have HS1 := Lib.hid hs1; have HS2 := Lib.hid hs2; have HWC := Lib.hid hwC
    obtain ⟨t0, t1, t2, t3, t4, t5⟩ := row6_cells hr
    have g4 : wC.frozen? ⟨xb, 4, none⟩ = false := frozen_of_row _ _ _ _ _ hr
    have hr5 : (wC.setCell ⟨xb, 4, none⟩ (.int .i64 (wrap64 (s.p + 1)))).heap[xb]? = some (.cells #[.slice o1 z1 y1, .slice o2 z2 y2, .slice a2 m2 c2, .slice b2 n2 d2, .int .i64 (wrap64 (s.p + 1)), .int .i64 s.k] 78 (0, 0)) := heap_setCell_same _ xb 4 _ _ _ hr
    obtain ⟨-, -, -, -, -, t6⟩ := row6_cells hr5
    have g5 : (wC.setCell ⟨xb, 4, none⟩ (.int .i64 (wrap64 (s.p + 1)))).frozen? ⟨xb, 5, none⟩ = false := frozen_of_row _ _ _ _ _ hr5
    have HR5 := Lib.hid hr5
    clear T LB HR hr hs1 hs2 hwC h1 h2 hr5
    go_wp2_with (rw [HWC.out])
    go_end0
    have T2 := (HT.out.cell2 (i := 4) (.int .i64 (wrap64 (s.p + 1)))).cell2 (i := 5) (.int .i64 (wrap64 (s.k + 1)))
    have LW := T2.ln (noNum6 HROW.out) (fun o h => by cases h)
    have LC := ((Tn.cell1 (xb := xb) (i := 4) (Ext.refl wC) (.int .i64 (wrap64 (s.p + 1))) none).cell2 (i := 5) (.int .i64 (wrap64 (s.k + 1)))).ln (noNum6 HRC.out) (fun o h => by cases h)
    exact ⟨rfl, HP.out.tn T2 HROW.out (noNum6 HROW.out), T2, o1, z1, y1, o2, z2, y2, a2, m2, c2, b2, n2, d2, heap_setCell_same _ xb 5 _ _ _ HR5.out, ⟨HS1.out.ln LC, HS2.out.ln LC, H6.out.s3.ln LW, H6.out.s4.ln LW⟩⟩)

end Go.Proofs.YtimcnhlcepemjaaGreatDoor

/- The steps of Stakes and Owes: sums in a captured variable. -/
namespace Go.Proofs.YtimcnhlcepemjaaGreatDoor
open Go.RowKit

theorem Tn.ob2 {w w' : World} {xb pb : Nat} (E : Ext w w') (u v : Value) : Tn w ((w'.setCell ⟨pb, 0, none⟩ u).setCell ⟨pb, 1, none⟩ v) xb (some pb) := by
  have g := set2_by w' pb u v
  exact ⟨g.os.trans E.os, g.tape.trans E.tape, g.output.trans E.output, Nat.le_trans E.size g.size, fun k hk _ ho => by
    rw [g.block k (Nat.lt_of_lt_of_le hk E.size) (fun e => ho (by rw [e]))]
    exact E.block k hk⟩
/-- The sum so far. -/
def SumAt (H pb : Nat) (W : World) (k : Nat) (q : Nat × Nat) : Prop :=
  TzTab W ∧ sz q ≤ 1 + k * (H + 1) ∧ ∃ a n c b m d, W.heap[pb]? = some (.cells #[.slice a n c, .slice b m d] 40 (0, 0)) ∧ RA W a n c b m d q
theorem SumAt.lk {H pb k : Nat} {q : Nat × Nat} {w w' : World} (h : SumAt H pb w k q) (L : Lk w w') : SumAt H pb w' k q := by
  obtain ⟨h0, hs, a, n, c, b, m, d, h1, h2⟩ := h
  exact ⟨h0.lk L, hs, a, n, c, b, m, d, L.keep _ _ _ _ h1, h2.lk L⟩
theorem SumAt.ob {H pb k : Nat} {q : Nat × Nat} {w : World} (h : SumAt H pb w k q) : ∀ o, some pb = some o → NoNum w o ∧ o < w.heap.size := by
  obtain ⟨h0, hs, a, n, c, b, m, d, h1, h2⟩ := h
  intro o e
  cases e
  exact ⟨noNum2 h1, (Array.getElem?_eq_some_iff.1 h1).1⟩

def uStakes (q : Nat × Nat) (s : Stk) : Nat × Nat := addR q s.h
set_option maxHeartbeats 8000000 in
set_option maxRecDepth 100000 in
theorem stakes_how {pb H N : Nat} (hNH : N * (H + 1) ≤ 90000) (hH : H ≤ 10000) :
    HowAt (Nat × Nat) Tryz.prog 67 #[.pointer (some ⟨pb, 0, none⟩)] (fun s => s) uStakes (some pb) (fun s => sz s.h ≤ H) N (SumAt H pb) := by
  intro W xb a1 m1 c1 b1 n1 d1 a2 m2 c2 b2 n2 d2 s k q hk hok hrow hne h6 hp
  show Calls Tryz.prog 67 #[.pointer (some ⟨xb, 0, none⟩), .pointer (some ⟨pb, 0, none⟩)] W _
  obtain ⟨hz, hsq, pa, pn, pc, pd, pm, pe, hpr, hpq⟩ := hp
  obtain ⟨f0, f1, f2, f3, f4, f5⟩ := row6_cells hrow
  obtain ⟨k1, k2, -, -⟩ := row2_cells hpr
  have hkn : (k + 1) * (H + 1) ≤ N * (H + 1) := Nat.mul_le_mul_right _ hk
  have hk1 : (k + 1) * (H + 1) = k * (H + 1) + (H + 1) := Nat.succ_mul _ _
  have hss : sz s.h ≤ H := hok
  have hsa := sz_add q s.h
  show Calls _ _ _ _ fun e W' => e = .returned (.tuple #[]) ∧ SumAt H pb W' (k + 1) (addR q s.h) ∧ _
  obtain ⟨aq, haq⟩ : ∃ x, addR q s.h = x := ⟨_, rfl⟩
  rw [haq] at hsa ⊢
  have CA := fun W' (E : Ext W W') => radd_q (hpq.old E) (h6.ra1.old E) (by omega) (by omega) (hz.old E)
  rw [haq] at CA
  have hsz : sz aq ≤ 1 + (k + 1) * (H + 1) := by omega
  have HCA := Lib.hid CA; have HSZ := Lib.hid hsz
  have HROW := Lib.hid hrow; have H6 := Lib.hid h6; have HPR := Lib.hid hpr; have HZ := Lib.hid hz; have HNE := Lib.hid (row6_ne hrow hpr)
  clear CA hrow h6 hok hk hne hz hpr hpq haq hsa hss hk1 hkn hsq hsz
  go_enter Tryz.func67, Tryz.ntmps67
  go_wp2_with fail
  go_region_with (first
    | (go_at_call 53; refine (HCA.out _ (Ext.refl _).drew).mono ?_; rintro e wA ⟨o1, z1, y1, o2, z2, y2, rfl, h1, h2, hxA⟩; have EA : Ext W wA := (Ext.refl _).drew.trans hxA; obtain ⟨x0, x1, x2, x3⟩ := row2_cells (rowE EA HPR.out)))
  all_goals (
    go_wp2_with fail
    go_end0
    have T := Tn.ob2 (xb := xb) (pb := pb) EA (.slice o1 z1 y1) (.slice o2 z2 y2)
    have hNX := noNum6 HROW.out
    have LA : Ln wA ((wA.setCell ⟨pb, 0, none⟩ (.slice o1 z1 y1)).setCell ⟨pb, 1, none⟩ (.slice o2 z2 y2)) := (Tn.ob2 (xb := xb) (pb := pb) (Ext.refl wA) (.slice o1 z1 y1) (.slice o2 z2 y2)).ln (noNum6 (rowE EA HROW.out)) (fun o h => by cases h; exact noNum2 (rowE EA HPR.out))
    have LW := T.ln hNX (fun o h => by cases h; exact noNum2 HPR.out)
    have hz' := HZ.out.tn T (noByte_slice (row6_cells HROW.out).1) (fun o h => by cases h; exact noByte_slice (row2_cells HPR.out).1)
    exact ⟨rfl, ⟨hz', HSZ.out, o1, z1, y1, o2, z2, y2, set2_row (rowE EA HPR.out) _ _, ⟨h1.sl.ln LA, h2.sl.ln LA⟩⟩, T, a1, m1, c1, b1, n1, d1, a2, m2, c2, b2, n2, d2, set2_other (rowE EA HROW.out) HNE.out.symm _ _, H6.out.ln LW⟩)

def uOwes (q : Nat × Nat) (s : Stk) : Nat × Nat := addR q s.o
set_option maxHeartbeats 8000000 in
set_option maxRecDepth 100000 in
theorem owes_how {pb H N : Nat} (hNH : N * (H + 1) ≤ 90000) (hH : H ≤ 10000) :
    HowAt (Nat × Nat) Tryz.prog 68 #[.pointer (some ⟨pb, 0, none⟩)] (fun s => s) uOwes (some pb) (fun s => sz s.o ≤ H) N (SumAt H pb) := by
  intro W xb a1 m1 c1 b1 n1 d1 a2 m2 c2 b2 n2 d2 s k q hk hok hrow hne h6 hp
  show Calls Tryz.prog 68 #[.pointer (some ⟨xb, 0, none⟩), .pointer (some ⟨pb, 0, none⟩)] W _
  obtain ⟨hz, hsq, pa, pn, pc, pd, pm, pe, hpr, hpq⟩ := hp
  obtain ⟨f0, f1, f2, f3, f4, f5⟩ := row6_cells hrow
  obtain ⟨k1, k2, -, -⟩ := row2_cells hpr
  have hkn : (k + 1) * (H + 1) ≤ N * (H + 1) := Nat.mul_le_mul_right _ hk
  have hk1 : (k + 1) * (H + 1) = k * (H + 1) + (H + 1) := Nat.succ_mul _ _
  have hss : sz s.o ≤ H := hok
  have hsa := sz_add q s.o
  show Calls _ _ _ _ fun e W' => e = .returned (.tuple #[]) ∧ SumAt H pb W' (k + 1) (addR q s.o) ∧ _
  obtain ⟨aq, haq⟩ : ∃ x, addR q s.o = x := ⟨_, rfl⟩
  rw [haq] at hsa ⊢
  have CA := fun W' (E : Ext W W') => radd_q (hpq.old E) (h6.ra2.old E) (by omega) (by omega) (hz.old E)
  rw [haq] at CA
  have hsz : sz aq ≤ 1 + (k + 1) * (H + 1) := by omega
  have HCA := Lib.hid CA; have HSZ := Lib.hid hsz
  have HROW := Lib.hid hrow; have H6 := Lib.hid h6; have HPR := Lib.hid hpr; have HZ := Lib.hid hz; have HNE := Lib.hid (row6_ne hrow hpr)
  clear CA hrow h6 hok hk hne hz hpr hpq haq hsa hss hk1 hkn hsq hsz
  go_enter Tryz.func68, Tryz.ntmps68
  go_wp2_with fail
  go_region_with (first
    | (go_at_call 53; refine (HCA.out _ (Ext.refl _).drew).mono ?_; rintro e wA ⟨o1, z1, y1, o2, z2, y2, rfl, h1, h2, hxA⟩; have EA : Ext W wA := (Ext.refl _).drew.trans hxA; obtain ⟨x0, x1, x2, x3⟩ := row2_cells (rowE EA HPR.out)))
  all_goals (
    go_wp2_with fail
    go_end0
    have T := Tn.ob2 (xb := xb) (pb := pb) EA (.slice o1 z1 y1) (.slice o2 z2 y2)
    have hNX := noNum6 HROW.out
    have LA : Ln wA ((wA.setCell ⟨pb, 0, none⟩ (.slice o1 z1 y1)).setCell ⟨pb, 1, none⟩ (.slice o2 z2 y2)) := (Tn.ob2 (xb := xb) (pb := pb) (Ext.refl wA) (.slice o1 z1 y1) (.slice o2 z2 y2)).ln (noNum6 (rowE EA HROW.out)) (fun o h => by cases h; exact noNum2 (rowE EA HPR.out))
    have LW := T.ln hNX (fun o h => by cases h; exact noNum2 HPR.out)
    have hz' := HZ.out.tn T (noByte_slice (row6_cells HROW.out).1) (fun o h => by cases h; exact noByte_slice (row2_cells HPR.out).1)
    exact ⟨rfl, ⟨hz', HSZ.out, o1, z1, y1, o2, z2, y2, set2_row (rowE EA HPR.out) _ _, ⟨h1.sl.ln LA, h2.sl.ln LA⟩⟩, T, a1, m1, c1, b1, n1, d1, a2, m2, c2, b2, n2, d2, set2_other (rowE EA HROW.out) HNE.out.symm _ _, H6.out.ln LW⟩)

end Go.Proofs.YtimcnhlcepemjaaGreatDoor

/- ledger.New, Drop, Stake, Owed. -/
namespace Go.Proofs.YtimcnhlcepemjaaGreatDoor
open Go.RowKit

/-- A new ledger: nothing is held. -/
def NewL (w : World) (e : Ending) (w' : World) : Prop :=
  ∃ p b, e = .returned (.pointer (some ⟨p, 0, none⟩)) ∧ Led w' b 0 (fun _ _ => none) ∧ w'.cell? ⟨p, 0, none⟩ = some (.map (some b)) ∧ w.heap.size ≤ b ∧ Ext w w'
/-- The call hands back v, and the ledger reads as M. -/
def MRet (v : Value) (w : World) (b N : Nat) (M : Stakes) (e : Ending) (w' : World) : Prop := e = .returned v ∧ Led w' b N M ∧ w.grownBy w' (some b)
/-- .. a fraction. -/
def MQ (w : World) (b N : Nat) (M : Stakes) (q : Nat × Nat) (e : Ending) (w' : World) : Prop :=
  ∃ a n c a' m d, e = .returned (RatV a n c a' m d) ∧ RA w' a n c a' m d q ∧ Led w' b N M ∧ w.grownBy w' (some b)
abbrev noStakes : Stakes := fun _ _ => none

set_option maxHeartbeats 2000000 in
set_option maxRecDepth 100000 in
theorem lnew_calls (w : World) : Calls Tryz.prog 11 #[] w (NewL w) := by
  have hmm := @run_makeMap Tryz.prog
  obtain ⟨Z, hZ⟩ : ∃ Z, w.alloc (.map #[] 0) = Z := ⟨_, rfl⟩
  have hsz : Z.heap.size = w.heap.size + 1 := by rw [← hZ, alloc_size]
  have EZ : Ext w Z := by rw [← hZ]; exact (Ext.refl w).alloc _
  have own := World.ownsMap_made (H := Value) w Tryz.prog 85 RV
  rw [hZ] at own
  have HZ := Lib.hid hZ; have HS := Lib.hid hsz; have HE := Lib.hid EZ; have HO := Lib.hid own
  clear hZ hsz EZ own
  go_enter Tryz.func11, Tryz.ntmps11
  go_wp2_with (rw [HZ.out])
  go_ret
  refine ⟨_, w.heap.size, rfl, (led_new HO.out).old ((Ext.refl Z).alloc _), ?_, Nat.le_refl _, HE.out.alloc _⟩
  first
    | exact drow1_new Z _ _
    | simp

set_option maxHeartbeats 2000000 in
set_option maxRecDepth 100000 in
theorem ldrop_calls {w : World} {b N : Nat} {M : Stakes} (h : Led w b N M) {p : Nat} (hp : w.cell? ⟨p, 0, none⟩ = some (.map (some b))) {v d : Nat} (hv : v < B64) (hd : d < B64) :
    Calls Tryz.prog 19 #[.pointer (some ⟨p, 0, none⟩), .int .u64 (v : Int), .int .u64 (d : Int)] w (MRet (.tuple #[]) w b N (delM M v d)) := by
  obtain ⟨D, hD⟩ := h
  have own := hD.own
  have HD := Lib.hid hD; have HV := Lib.hid hv; have HDD := Lib.hid hd
  clear hD hv hd
  go_enter Tryz.func19, Tryz.ntmps19
  go_wp2_with (first
    | (at_delete; refine wpList_delete_own _ rfl _ _ 72 85 rfl 78 lawPair Tryz.underlying72 RV b N D rfl own _ (kl v d) rfl (keyOf_pair HV.out HDD.out) ?_; intro w1 hown1 hturn1)
    | fail)
  have HG := Lib.hid hturn1.grown; have HO := Lib.hid hown1
  clear hown1 hturn1
  go_end0
  exact ⟨rfl, ⟨_, HD.out.del HV.out HDD.out HO.out HG.out⟩, HG.out⟩

theorem field_has (a1 : Option Addr) (m1 c1 : Nat) (b1 : Option Addr) (n1 d1 : Nat) (a2 : Option Addr) (m2 c2 : Nat) (b2 : Option Addr) (n2 d2 : Nat) (p k : Int) (W : World) :
    (Instr.field 78 (StV a1 m1 c1 b1 n1 d1 a2 m2 c2 b2 n2 d2 p k) 0).run Tryz.prog W = .ok (.agg #[.slice a1 m1 c1, .slice b1 n1 d1]) W := by kernel_rfl
theorem field_owed (a1 : Option Addr) (m1 c1 : Nat) (b1 : Option Addr) (n1 d1 : Nat) (a2 : Option Addr) (m2 c2 : Nat) (b2 : Option Addr) (n2 d2 : Nat) (p k : Int) (W : World) :
    (Instr.field 78 (StV a1 m1 c1 b1 n1 d1 a2 m2 c2 b2 n2 d2 p k) 1).run Tryz.prog W = .ok (.agg #[.slice a2 m2 c2, .slice b2 n2 d2]) W := by kernel_rfl
/-- What a look at a key gives, in this world and in later ones. -/
theorem Led.look {w : World} {b N : Nat} {M : Stakes} (h : Led w b N M) {v d : Nat} (hv : v < B64) (hd : d < B64) :
    ∃ a1 m1 c1 b1 n1 d1 a2 m2 c2 b2 n2 d2, St6 w a1 m1 c1 b1 n1 d1 a2 m2 c2 b2 n2 d2 (got M v d) ∧
      (∀ W, Ext w W → (Instr.lookup 72 (.map (some b)) (PairV v d) false).run Tryz.prog W = .ok (StV a1 m1 c1 b1 n1 d1 a2 m2 c2 b2 n2 d2 (got M v d).p (got M v d).k) W) ∧
      (∀ W, Ext w W → (Instr.lookup 72 (.map (some b)) (PairV v d) true).run Tryz.prog W = .ok (.tuple #[StV a1 m1 c1 b1 n1 d1 a2 m2 c2 b2 n2 d2 (got M v d).p (got M v d).k, .bool (M v d).isSome]) W) := by
  obtain ⟨D, hD⟩ := h
  have key := keyOf_pair hv hd
  obtain ⟨v0, ps, hrun, hv0⟩ := hD.own.lookup lawPair Tryz.underlying72 (zeroStk w) (zd := .held stkZ) (zp := []) rfl key
  have e0 : D.atKey (kl v d) (.held stkZ) = .held v0 := (Prod.mk.inj (Option.some.inj hv0)).1.symm
  obtain ⟨a1, m1, c1, b1, n1, d1, a2, m2, c2, b2, n2, d2, e1, h6⟩ := hD.look hv hd e0
  subst e1
  refine ⟨a1, m1, c1, b1, n1, d1, a2, m2, c2, b2, n2, d2, h6, fun W E => ?_, fun W E => ?_⟩
  · obtain ⟨v1, ps, hrun, hv1⟩ := (hD.old E).own.lookup lawPair Tryz.underlying72 (zeroStk W) (zd := .held stkZ) (zp := []) rfl key
    rw [e0] at hv1
    have e : v1 = _ := (DataW.held.inj (Prod.mk.inj (Option.some.inj hv1)).1)
    rw [← e]
    exact hrun
  · obtain ⟨v1, ps, hrun, hv1⟩ := (hD.old E).own.look_ok lawPair Tryz.underlying72 (zeroStk W) (zd := .held stkZ) (zp := []) rfl key
    rw [e0] at hv1
    have e : v1 = _ := (DataW.held.inj (Prod.mk.inj (Option.some.inj hv1)).1)
    rw [hD.has v d hv hd] at hrun
    rw [← e]
    exact hrun


set_option maxHeartbeats 4000000 in
set_option maxRecDepth 100000 in
theorem lstake_calls {w : World} {b N : Nat} {M : Stakes} (h : Led w b N M) {p : Nat} (hp : w.cell? ⟨p, 0, none⟩ = some (.map (some b))) {v d : Nat} (hv : v < B64) (hd : d < B64) (hsz : sz (got M v d).h ≤ 90000) (htz : TzTab w) :
    Calls Tryz.prog 23 #[.pointer (some ⟨p, 0, none⟩), .int .u64 (v : Int), .int .u64 (d : Int)] w (MQ w b N M (canQ (got M v d).h)) := by
  obtain ⟨X, hX⟩ : ∃ X, w.alloc (.cells #[.slice none 0 0, .slice none 0 0] 40) = X := ⟨_, rfl⟩
  have E0 : Ext w X := by rw [← hX]; exact (Ext.refl w).alloc _
  have hr0 : X.heap[w.heap.size]? = some (.cells #[.slice none 0 0, .slice none 0 0] 40 (0, 0)) := by rw [← hX]; exact heap_alloc_new w _
  have hsX : X.heap.size = w.heap.size + 1 := by rw [← hX, alloc_size]
  have hpX := E0.cell hp
  obtain ⟨a1, m1, c1, b1, n1, d1, a2, m2, c2, b2, n2, d2, h6, hlook, -⟩ := (h.old E0).look hv hd
  have hl1 := hlook X (Ext.refl X)
  obtain ⟨Y, hY⟩ : ∃ Y, X.alloc (.cells #[.slice a1 m1 c1, .slice b1 n1 d1] 40) = Y := ⟨_, rfl⟩
  have EY : Ext X Y := by rw [← hY]; exact (Ext.refl X).alloc _
  have hry : Y.heap[X.heap.size]? = some (.cells #[.slice a1 m1 c1, .slice b1 n1 d1] 40 (0, 0)) := by rw [← hY]; exact heap_alloc_new X _
  have CS := rsum1_q (o := some ⟨X.heap.size, 0, none⟩) (co := 1) (h6.ra1.old EY) hsz (htz.old (E0.trans EY)) X.heap.size 0 rfl (Nat.le_refl _) (by decide) (row2_cells hry).1 (row2_cells hry).2.1
  have HX := Lib.hid hX; have HY := Lib.hid hY; have HCS := Lib.hid CS; have HR0 := Lib.hid (rowE EY hr0); have HE := Lib.hid (E0.trans EY); have HL := Lib.hid h; have HSX := Lib.hid hsX; have HLT := Lib.hid (show w.heap.size < Y.heap.size by have := EY.size; omega)
  have hfld := field_has a1 m1 c1 b1 n1 d1 a2 m2 c2 b2 n2 d2 (got M v d).p (got M v d).k
  clear hX E0 hr0 hsX h6 hlook hY EY hry CS h hp hv hd hsz htz
  go_enter Tryz.func23, Tryz.ntmps23
  go_wp2_with (first | rw [HX.out] | rw [HY.out])
  refine HCS.out.mono ?_
  rintro e w1 ⟨o1, z1, y1, o2, z2, y2, rfl, h1, h2, hx1⟩
  have HRW := Lib.hid (rowE hx1 HR0.out)
  obtain ⟨k1, k2, k3, k4⟩ := row2_cells HRW.out
  have HEF := Lib.hid (set2_ext (HE.out.trans hx1) (Nat.le_refl w.heap.size) (.slice o1 z1 y1) (.slice o2 z2 y2))
  have HO1 := Lib.hid (h1.set2 (.slice o1 z1 y1) (.slice o2 z2 y2) HLT.out).sl
  have HO2 := Lib.hid (h2.set2 (.slice o1 z1 y1) (.slice o2 z2 y2) HLT.out).sl
  clear h1 h2 hx1
  go_wp2_with fail
  try simp only [Exit.inBlock, Exit.then]
  refine bodyPost_ret (results_box1 rfl _ _ _ _ rfl (load_rat (set2_row HRW.out _ _))) rfl ?_
  exact ⟨_, _, _, _, _, _, rfl, ⟨HO1.out, HO2.out⟩, HL.out.old HEF.out, HEF.out.by_ _⟩

set_option maxHeartbeats 4000000 in
set_option maxRecDepth 100000 in
theorem lowed_calls {w : World} {b N : Nat} {M : Stakes} (h : Led w b N M) {p : Nat} (hp : w.cell? ⟨p, 0, none⟩ = some (.map (some b))) {v d : Nat} (hv : v < B64) (hd : d < B64) (hsz : sz (got M v d).o ≤ 90000) (htz : TzTab w) :
    Calls Tryz.prog 25 #[.pointer (some ⟨p, 0, none⟩), .int .u64 (v : Int), .int .u64 (d : Int)] w (MQ w b N M (canQ (got M v d).o)) := by
  obtain ⟨X, hX⟩ : ∃ X, w.alloc (.cells #[.slice none 0 0, .slice none 0 0] 40) = X := ⟨_, rfl⟩
  have E0 : Ext w X := by rw [← hX]; exact (Ext.refl w).alloc _
  have hr0 : X.heap[w.heap.size]? = some (.cells #[.slice none 0 0, .slice none 0 0] 40 (0, 0)) := by rw [← hX]; exact heap_alloc_new w _
  have hsX : X.heap.size = w.heap.size + 1 := by rw [← hX, alloc_size]
  have hpX := E0.cell hp
  obtain ⟨a1, m1, c1, b1, n1, d1, a2, m2, c2, b2, n2, d2, h6, hlook, -⟩ := (h.old E0).look hv hd
  have hl1 := hlook X (Ext.refl X)
  obtain ⟨Y, hY⟩ : ∃ Y, X.alloc (.cells #[.slice a2 m2 c2, .slice b2 n2 d2] 40) = Y := ⟨_, rfl⟩
  have EY : Ext X Y := by rw [← hY]; exact (Ext.refl X).alloc _
  have hry : Y.heap[X.heap.size]? = some (.cells #[.slice a2 m2 c2, .slice b2 n2 d2] 40 (0, 0)) := by rw [← hY]; exact heap_alloc_new X _
  have CS := rsum1_q (o := some ⟨X.heap.size, 0, none⟩) (co := 1) (h6.ra2.old EY) hsz (htz.old (E0.trans EY)) X.heap.size 0 rfl (Nat.le_refl _) (by decide) (row2_cells hry).1 (row2_cells hry).2.1
  have HX := Lib.hid hX; have HY := Lib.hid hY; have HCS := Lib.hid CS; have HR0 := Lib.hid (rowE EY hr0); have HE := Lib.hid (E0.trans EY); have HL := Lib.hid h; have HSX := Lib.hid hsX; have HLT := Lib.hid (show w.heap.size < Y.heap.size by have := EY.size; omega)
  have hfld := field_owed a1 m1 c1 b1 n1 d1 a2 m2 c2 b2 n2 d2 (got M v d).p (got M v d).k
  clear hX E0 hr0 hsX h6 hlook hY EY hry CS h hp hv hd hsz htz
  go_enter Tryz.func25, Tryz.ntmps25
  go_wp2_with (first | rw [HX.out] | rw [HY.out])
  refine HCS.out.mono ?_
  rintro e w1 ⟨o1, z1, y1, o2, z2, y2, rfl, h1, h2, hx1⟩
  have HRW := Lib.hid (rowE hx1 HR0.out)
  obtain ⟨k1, k2, k3, k4⟩ := row2_cells HRW.out
  have HEF := Lib.hid (set2_ext (HE.out.trans hx1) (Nat.le_refl w.heap.size) (.slice o1 z1 y1) (.slice o2 z2 y2))
  have HO1 := Lib.hid (h1.set2 (.slice o1 z1 y1) (.slice o2 z2 y2) HLT.out).sl
  have HO2 := Lib.hid (h2.set2 (.slice o1 z1 y1) (.slice o2 z2 y2) HLT.out).sl
  clear h1 h2 hx1
  go_wp2_with fail
  try simp only [Exit.inBlock, Exit.then]
  refine bodyPost_ret (results_box1 rfl _ _ _ _ rfl (load_rat (set2_row HRW.out _ _))) rfl ?_
  exact ⟨_, _, _, _, _, _, rfl, ⟨HO1.out, HO2.out⟩, HL.out.old HEF.out, HEF.out.by_ _⟩

end Go.Proofs.YtimcnhlcepemjaaGreatDoor

/- ledger.Hold, Give, Cut. -/
namespace Go.Proofs.YtimcnhlcepemjaaGreatDoor
open Go.RowKit

theorem ln_val {w : World} {a : Option Addr} {n c : Nat} {xs : List Nat} (h : Sl w a n c xs) : ln (val xs) ≤ n := h.trimmed_len
theorem ln_U36 : ln U36 ≤ 2 := ln_le (by decide +kernel)
theorem sz_dec (X : Nat) : sz (decQ X) ≤ ln X + 2 := by
  have := ln_U36
  exact sz_of (by omega) (by omega) (by omega)
theorem sz_whole (n : Nat) (hn : n < B64) : sz (n, 1) = 1 := by
  have h1 : ln n ≤ 1 := ln_le (by simpa using hn)
  have h2 := ln_one
  unfold sz
  simp only
  omega
/-- What a held stake is worth: shares of the tokens. -/
def holdQ (X S n : Nat) : Nat × Nat := quoR (mulR (decQ X) (n, 1)) (decQ S)
/-- A stake that is held. -/
def heldStk (M : Stakes) (v d X S n : Nat) : Stk := ⟨holdQ X S n, (got M v d).o, (got M v d).p, (got M v d).k⟩

set_option maxHeartbeats 8000000 in
set_option maxRecDepth 100000 in
theorem lhold_calls {w : World} {b N N' : Nat} {M : Stakes} (h : Led w b N M) (hN : N ≤ 1000000) {p : Nat} (hp : w.cell? ⟨p, 0, none⟩ = some (.map (some b))) {v d : Nat} (hv : v < B64) (hd : d < B64)
    {a0 : Option Addr} {m0 c0 : Nat} {xs0 : List Nat} {e0 : Option Addr} {n0 f0 : Nat} {ys0 : List Nat} (hx : Sl w a0 m0 c0 xs0) (hs : Sl w e0 n0 f0 ys0) (hm : m0 ≤ 1000) (hn : n0 ≤ 1000) {k : Nat} (hk : k < B64)
    (hN' : (if (M v d).isSome then N else N + 1) ≤ N') (htz : TzTab w) :
    Calls Tryz.prog 17 #[.pointer (some ⟨p, 0, none⟩), .int .u64 (v : Int), .int .u64 (d : Int), DecV a0 m0 c0, DecV e0 n0 f0, .int .u64 (k : Int)] w
      (MRet (.tuple #[]) w b N' (putM M v d (heldStk M v d (val xs0) (val ys0) k))) := by
  have hlx := ln_val hx
  have hls := ln_val hs
  obtain ⟨X, hX⟩ : ∃ x, val xs0 = x := ⟨_, rfl⟩
  obtain ⟨S, hS⟩ : ∃ x, val ys0 = x := ⟨_, rfl⟩
  rw [hX] at hlx; rw [hS] at hls
  obtain ⟨X1, hX1⟩ : ∃ X, w.alloc (.cells #[.slice a0 m0 c0] 35) = X := ⟨_, rfl⟩
  obtain ⟨X2, hX2⟩ : ∃ X, X1.alloc (.cells #[.slice e0 n0 f0] 35) = X := ⟨_, rfl⟩
  have E1 : Ext w X1 := by rw [← hX1]; exact (Ext.refl w).alloc _
  have E2 : Ext X1 X2 := by rw [← hX2]; exact (Ext.refl X1).alloc _
  have hs1 : X1.heap.size = w.heap.size + 1 := by rw [← hX1, alloc_size]
  have R1 : X1.heap[w.heap.size]? = some (.cells #[.slice a0 m0 c0] 35 (0, 0)) := by rw [← hX1]; exact heap_alloc_new w _
  have R2 : X2.heap[w.heap.size + 1]? = some (.cells #[.slice e0 n0 f0] 35 (0, 0)) := by rw [← hs1, ← hX2]; exact heap_alloc_new X1 _
  have E12 := E1.trans E2
  have hp2 := E12.cell hp
  have hled2 := h.old E12
  obtain ⟨a1, m1, c1, b1, n1, d1, a2, m2, c2, b2, n2, d2, h6, hlook, -⟩ := hled2.look hv hd
  have hl2 := hlook X2 (Ext.refl X2)
  obtain ⟨X3, hX3⟩ : ∃ X, X2.alloc (.cells #[.slice a1 m1 c1, .slice b1 n1 d1, .slice a2 m2 c2, .slice b2 n2 d2, .int .i64 (got M v d).p, .int .i64 (got M v d).k] 78) = X := ⟨_, rfl⟩
  have E3 : Ext X2 X3 := by rw [← hX3]; exact (Ext.refl X2).alloc _
  have R3 : X3.heap[X2.heap.size]? = some (.cells #[.slice a1 m1 c1, .slice b1 n1 d1, .slice a2 m2 c2, .slice b2 n2 d2, .int .i64 (got M v d).p, .int .i64 (got M v d).k] 78 (0, 0)) := by rw [← hX3]; exact heap_alloc_new X2 _
  have E := E12.trans E3
  have hz3 := htz.old E
  have CD1 := fun W' (F : Ext X3 W') => rofdec_q ((hx.old E).old F) (by omega) (hz3.old F)
  have CD2 := fun W' (F : Ext X3 W') => rofdec_q ((hs.old E).old F) (by omega) (hz3.old F)
  rw [hX] at CD1 ⊢; rw [hS] at CD2 ⊢
  have hsz1 := sz_dec X; have hsz2 := sz_dec S; have hsz3 := sz_whole k hk; have hsz4 := sz_mul (decQ X) (k, 1)
  unfold heldStk holdQ
  obtain ⟨xq, hxq⟩ : ∃ x, decQ X = x := ⟨_, rfl⟩
  obtain ⟨sq, hsq⟩ : ∃ x, decQ S = x := ⟨_, rfl⟩
  rw [hxq] at CD1 hsz1 hsz4 ⊢; rw [hsq] at CD2 hsz2 ⊢
  obtain ⟨mq, hmq⟩ : ∃ x, mulR xq (k, 1) = x := ⟨_, rfl⟩
  rw [hmq] at hsz4 ⊢
  obtain ⟨rq, hrq⟩ : ∃ x, quoR mq sq = x := ⟨_, rfl⟩
  rw [hrq]
  have hb1 : sz xq ≤ 100000 := by omega
  have hb2 : sz sq ≤ 100000 := by omega
  have hb3 : sz (k, 1) ≤ 100000 := by omega
  have hb4 : sz mq ≤ 100000 := by omega
  have CM : ∀ W' (F : Ext X3 W') o1 z1 y1 o2 z2 y2 o3 z3 y3 o4 z4 y4, RA W' o1 z1 y1 o2 z2 y2 xq → RA W' o3 z3 y3 o4 z4 y4 (k, 1) → Calls Tryz.prog 45 #[RatV o1 z1 y1 o2 z2 y2, RatV o3 z3 y3 o4 z4 y4] W' (NewQ W' mq) :=
    fun W' F o1 z1 y1 o2 z2 y2 o3 z3 y3 o4 z4 y4 q1 q2 => by rw [← hmq]; exact rmul_q q1 q2 hb1 hb3 (hz3.old F)
  have CQ : ∀ W' (F : Ext X3 W') o1 z1 y1 o2 z2 y2 o3 z3 y3 o4 z4 y4, RA W' o1 z1 y1 o2 z2 y2 mq → RA W' o3 z3 y3 o4 z4 y4 sq → Calls Tryz.prog 49 #[RatV o1 z1 y1 o2 z2 y2, RatV o3 z3 y3 o4 z4 y4] W' (NewQ W' rq) :=
    fun W' F o1 z1 y1 o2 z2 y2 o3 z3 y3 o4 z4 y4 q1 q2 => by rw [← hrq]; exact quo_q q1 q2 hb4 hb2 (hz3.old F)
  have HCM := Lib.hid CM; have HCQ := Lib.hid CQ; have HC1 := Lib.hid CD1; have HC2 := Lib.hid CD2
  have HX1 := Lib.hid hX1; have HX2 := Lib.hid hX2; have HX3 := Lib.hid hX3; have HS1 := Lib.hid hs1; have HE := Lib.hid E; have HE12 := Lib.hid E12; have HE3 := Lib.hid E3; have HR3 := Lib.hid R3; have HL := Lib.hid h; have HV := Lib.hid hv; have HD := Lib.hid hd; have HP := Lib.hid hp; have H6 := Lib.hid (h6.lk E3.lk); have HKK := Lib.hid hk; have HN' := Lib.hid hN'
  have HBC := Lib.hid (fun w' (F : Ext X2 w') => (show w'.cell? ⟨w.heap.size, 0, none⟩ = some (.slice a0 m0 c0) ∧ w'.cell? ⟨w.heap.size + 1, 0, none⟩ = some (.slice e0 n0 f0) from
    ⟨by rw [cell_of_row _ _ _ _ _ _ (rowE (E2.trans F) R1)]; rfl, by rw [cell_of_row _ _ _ _ _ _ (rowE F R2)]; rfl⟩))
  clear CM CQ CD1 CD2 hX1 hX2 hX3 hs1 E R1 R2 R3 E12 E1 E2 E3 hled2 h6 hlook h hv hd hp hx hs hk htz hz3 hxq hsq hmq hrq hb1 hb2 hb3 hb4 hsz1 hsz2 hsz3 hsz4 hlx hls hX hS hm hn hN'
  go_enter Tryz.func17, Tryz.ntmps17
  go_wp2_with (first | rw [HX1.out] | rw [HX2.out, HS1.out] | rw [HX2.out] | rw [HX3.out])
  go_region_held3 (fun w' => w'.cell? ⟨w.heap.size, 0, none⟩ = some (.slice a0 m0 c0) ∧ w'.cell? ⟨w.heap.size + 1, 0, none⟩ = some (.slice e0 n0 f0))
    (first | exact HBC.out _ (HE3.out.trans (Ext.refl _).drew) | exact HBC.out _ (HE3.out.trans (by assumption)) | exact HBC.out _ (set2_ext (HE3.out.trans (by assumption)) (Nat.le_refl _) _ _))
    (first
      | (go_at_call_of 34 a0; refine (HC1.out _ (Ext.refl _).drew).mono ?_; rintro e wA ⟨o1, z1, y1, o2, z2, y2, rfl, q1, q2, xA⟩; have EA : Ext X3 wA := (Ext.refl _).drew.trans xA)
      | (go_at_call 50; refine (whole_q k HKK.out _).mono ?_; rintro e wB ⟨o3, z3, y3, o4, z4, y4, rfl, q3, q4, xB⟩; have EB : Ext X3 wB := EA.trans xB)
      | (go_at_call 45; refine (HCM.out _ EB _ _ _ _ _ _ _ _ _ _ _ _ ⟨q1.sl.old xB, q2.sl.old xB⟩ ⟨q3.sl, q4.sl⟩).mono ?_; rintro e wC ⟨o5, z5, y5, o6, z6, y6, rfl, q5, q6, xC⟩; have EC : Ext X3 wC := EB.trans xC)
      | (go_at_call_of 34 e0; refine (HC2.out _ EC).mono ?_; rintro e wD ⟨o7, z7, y7, o8, z8, y8, rfl, q7, q8, xD⟩; have ED : Ext X3 wD := EC.trans xD)
      | (go_at_call 49; refine (HCQ.out _ ED _ _ _ _ _ _ _ _ _ _ _ _ ⟨q5.sl.old xD, q6.sl.old xD⟩ ⟨q7.sl, q8.sl⟩).mono ?_; rintro e wE ⟨o9, z9, y9, oa, za, ya, rfl, q9, qa, xE⟩; have EE : Ext X3 wE := ED.trans xE; have gr := rowE EE HR3.out; have g0 : wE.frozen? ⟨X2.heap.size, 0, none⟩ = false := frozen_of_row _ _ _ _ _ gr; have g1 : wE.frozen? ⟨X2.heap.size, 1, none⟩ = false := frozen_of_row _ _ _ _ _ gr; obtain ⟨u0, u1, u2, u3, u4, u5⟩ := row6_cells gr))
  obtain ⟨W6, hW6⟩ : ∃ x, (wE.setCell ⟨X2.heap.size, 0, none⟩ (.slice o9 z9 y9)).setCell ⟨X2.heap.size, 1, none⟩ (.slice oa za ya) = x := ⟨_, rfl⟩
  have gr := rowE EE HR3.out
  have E6 : Ext X2 W6 := by rw [← hW6]; exact set2_ext (HE3.out.trans EE) (Nat.le_refl _) _ _
  have hr6 : W6.heap[X2.heap.size]? = some (.cells #[.slice o9 z9 y9, .slice oa za ya, .slice a2 m2 c2, .slice b2 n2 d2, .int .i64 (got M v d).p, .int .i64 (got M v d).k] 78 (0, 0)) := by
    rw [← hW6]; exact heap_setCell_same _ _ 1 _ _ _ (heap_setCell_same _ _ 0 _ _ _ gr)
  have LN : Ln X3 W6 := by
    rw [← hW6]
    exact ((Tn.cell1 (xb := X2.heap.size) (i := 0) EE (.slice o9 z9 y9) none).cell2 (i := 1) (.slice oa za ya)).ln (noNum6 HR3.out) (fun o h => by cases h)
  have LE : Ln wE W6 := by
    rw [← hW6]
    exact ((Tn.cell1 (xb := X2.heap.size) (i := 0) (Ext.refl wE) (.slice o9 z9 y9) none).cell2 (i := 1) (.slice oa za ya)).ln (noNum6 gr) (fun o h => by cases h)
  have hst : St6 W6 o9 z9 y9 oa za ya a2 m2 c2 b2 n2 d2 ⟨rq, (got M v d).o, (got M v d).p, (got M v d).k⟩ := ⟨q9.sl.ln LE, qa.sl.ln LE, H6.out.s3.ln LN, H6.out.s4.ln LN⟩
  have EW := HE12.out.trans E6
  have hp6 := EW.cell HP.out
  have HST := Lib.hid hst; have HEW := Lib.hid EW; have HW6 := Lib.hid hW6; have HP6 := Lib.hid hp6
  obtain ⟨t0, t1, t2, t3, t4, t5⟩ := row6_cells hr6
  clear hst EW hW6 LN LE E6 hr6 gr hp6 hp2 hl2 q1 q2 q3 q4 q5 q6 q7 q8 q9 qa xA xB xC xD xE EA EB EC ED EE g0 g1 u0 u1 u2 u3 u4 u5 HCM HCQ HC1 HC2 HBC
  have z1 := HP6.out
  go_wp2_with (rw [HW6.out])
  go_still_tail 8, (by kernel_rfl)
  change wpList _ _ _ _ _ W6.drew
  generalize hw7 : W6.drew = w7
  have E7 : Ext W6 w7 := by rw [← hw7]; exact (Ext.refl W6).drew
  obtain ⟨D, hD⟩ := HL.out.old (HEW.out.trans E7)
  have HD7 := Lib.hid hD; have HE7 := Lib.hid E7
  have hown := hD.own
  have hN7 : N < maxLen := by unfold maxLen; omega
  clear hw7 t0 t1 t2 t3 t4 t5 z1 hD E7
  go_wp2_with (first
    | (at_mapUpdate; refine wpList_mapUpdate_own _ rfl _ _ _ 72 rfl 85 78 lawPair Tryz.underlying72 RV b N D rfl hown hN7 _ _ (kl v d) rfl rfl (keyOf_pair HV.out HD.out) _ [] rfl ?_; intro w8 hown8 hg8)
    | fail)
  have HG := Lib.hid hg8; have HO := Lib.hid hown8
  clear hown8 hg8 hown hN7
  go_end0
  exact ⟨rfl, ⟨_, HD7.out.put HV.out HD.out (s := ⟨rq, (got M v d).o, (got M v d).p, (got M v d).k⟩) ⟨_, _, _, _, _, _, _, _, _, _, _, _, rfl, HST.out.lk HE7.out.lk⟩ HO.out HG.out HN'.out⟩, grownBy_trans ((HEW.out.trans HE7.out).by_ (some b)) HG.out⟩

end Go.Proofs.YtimcnhlcepemjaaGreatDoor

/- ledger.Give, Cut, Stakes, Owes. -/
namespace Go.Proofs.YtimcnhlcepemjaaGreatDoor
open Go.RowKit

theorem Tn.by_ {w w' : World} {b : Nat} (h : Tn w w' b none) : w.grownBy w' (some b) := ⟨h.os, h.tape, h.output, h.size, fun k hk hb => h.block k hk (fun e => hb (by rw [e])) (by simp)⟩
/-- All stakes of a validator turned. -/
def allM (M : Stakes) (v : Nat) (f : Stk → Stk) : Stakes := fun v' d' => if v' = v then (M v' d').map f else M v' d'
theorem Led.congr {w : World} {b N : Nat} {M M' : Stakes} (h : Led w b N M) (e : ∀ v d, v < B64 → d < B64 → M v d = M' v d) : Led w b N M' := by
  obtain ⟨D, hD⟩ := h
  exact ⟨D, hD.own, fun v d hv hd => by rw [← e v d hv hd]; exact hD.has v d hv hd, fun v d s hv hd hs => hD.at_ v d s hv hd (by rw [e v d hv hd]; exact hs)⟩
theorem mapM_all {M : Stakes} {v : Nat} {f : Stk → Stk} {ds : List Nat} (h : Dels M v ds) (v' d' : Nat) (hd : d' < B64) : mapM M v f ds v' d' = allM M v f v' d' := by
  unfold mapM allM
  by_cases e : v' = v
  · subst e
    rw [if_pos rfl]
    by_cases hm : d' ∈ ds
    · rw [if_pos ⟨rfl, hm⟩]
    · rw [if_neg (fun q => hm q.2)]
      cases hx : M v' d' with
      | none => rfl
      | some s => exact absurd ((h.2 d').2 ⟨hd, by rw [hx]; rfl⟩) hm
  · rw [if_neg (fun q => e q.1), if_neg e]
theorem mapM_id (M : Stakes) (v : Nat) (ds : List Nat) : mapM M v (fun s => s) ds = M := by
  funext v' d'
  unfold mapM
  split
  · cases M v' d' <;> rfl
  · rfl
theorem Led.all {w : World} {b N v : Nat} {M : Stakes} {f : Stk → Stk} {ds : List Nat} (h : Led w b N (mapM M v f ds)) (hd : Dels M v ds) : Led w b N (allM M v f) :=
  h.congr fun v' d' _ h2 => mapM_all hd v' d' h2

set_option maxHeartbeats 8000000 in
set_option maxRecDepth 100000 in
theorem lgive_calls {w : World} {b N H O : Nat} {M : Stakes} (h : Led w b N M) (hN : N ≤ 1000000) {p : Nat} (hp : w.cell? ⟨p, 0, none⟩ = some (.map (some b))) {v : Nat} (hv : v < B64)
    {a0 : Option Addr} {m0 c0 : Nat} {xs0 : List Nat} (hx : Sl w a0 m0 c0 xs0) (hm : m0 ≤ 1000) {t : Nat} (ht : t < B64) (htz : TzTab w) (hH : H ≤ 10000) (hO : O ≤ 90000) (hok : ∀ d s, M v d = some s → OkB H O s) :
    Calls Tryz.prog 12 #[.pointer (some ⟨p, 0, none⟩), .int .u64 (v : Int), DecV a0 m0 c0, .int .u64 (t : Int)] w
      (MRet (.tuple #[]) w b N (allM M v (fGive (quoR (decQ (val xs0)) (t, 1))))) := by
  have hlx := ln_val hx
  obtain ⟨X, hX⟩ : ∃ x, val xs0 = x := ⟨_, rfl⟩
  rw [hX] at hlx
  obtain ⟨X1, hX1⟩ : ∃ X, w.alloc (.cells #[.slice a0 m0 c0] 35) = X := ⟨_, rfl⟩
  have E1 : Ext w X1 := by rw [← hX1]; exact (Ext.refl w).alloc _
  have CD := rofdec_q (hx.old E1) (by omega) (htz.old E1)
  rw [hX] at CD ⊢
  have hsz1 := sz_dec X; have hsz3 := sz_whole t ht
  have hsq := sz_quo (decQ X) (t, 1)
  obtain ⟨xq, hxq⟩ : ∃ x, decQ X = x := ⟨_, rfl⟩
  rw [hxq] at CD hsz1 hsq ⊢
  obtain ⟨q, hq⟩ : ∃ x, quoR xq (t, 1) = x := ⟨_, rfl⟩
  rw [hq] at hsq ⊢
  have hb1 : sz xq ≤ 100000 := by omega
  have hb3 : sz (t, 1) ≤ 100000 := by omega
  have hbq : sz q ≤ 10000 := by omega
  have CQ : ∀ W' (F : Ext w W') o1 z1 y1 o2 z2 y2 o3 z3 y3 o4 z4 y4, RA W' o1 z1 y1 o2 z2 y2 xq → RA W' o3 z3 y3 o4 z4 y4 (t, 1) → Calls Tryz.prog 49 #[RatV o1 z1 y1 o2 z2 y2, RatV o3 z3 y3 o4 z4 y4] W' (NewQ W' q) :=
    fun W' F o1 z1 y1 o2 z2 y2 o3 z3 y3 o4 z4 y4 q1 q2 => by rw [← hq]; exact quo_q q1 q2 hb1 hb3 (htz.old F)
  have HCQ := Lib.hid CQ; have HCD := Lib.hid CD; have HX1 := Lib.hid hX1; have HE1 := Lib.hid E1; have HT := Lib.hid ht; have HL := Lib.hid h; have HP := Lib.hid hp; have HV := Lib.hid hv; have HTZ := Lib.hid htz; have HOK := Lib.hid hok; have HBQ := Lib.hid hbq
  have k0 : X1.cell? ⟨w.heap.size, 0, none⟩ = some (.slice a0 m0 c0) := by rw [← hX1, cell_of_row _ _ _ _ _ _ (heap_alloc_new w _)]; rfl
  clear CQ CD hX1 E1 ht h hp hv htz hok hx hm hlx hsz1 hsz3 hsq hxq hq hb1 hb3 hbq hX
  go_enter Tryz.func12, Tryz.ntmps12
  go_wp2_with (rw [HX1.out])
  refine HCD.out.mono ?_
  rintro e w1 ⟨o1, z1, y1, o2, z2, y2, rfl, q1, q2, x1⟩
  have S1 := Lib.hid q1.sl; have S2 := Lib.hid q2.sl; have HE2 := Lib.hid (HE1.out.trans x1)
  clear q1 q2 x1 k0
  go_wp2_with fail
  refine (whole_q t HT.out _).mono ?_
  rintro e w2 ⟨o3, z3, y3, o4, z4, y4, rfl, q3, q4, x2⟩
  have S3 := Lib.hid q3.sl; have S4 := Lib.hid q4.sl; have HE3 := Lib.hid (HE2.out.trans x2); have HX2 := Lib.hid x2
  clear q3 q4 x2
  go_wp2_with fail
  refine (HCQ.out _ HE3.out _ _ _ _ _ _ _ _ _ _ _ _ ⟨S1.out.old HX2.out, S2.out.old HX2.out⟩ ⟨S3.out, S4.out⟩).mono ?_
  rintro e w3 ⟨o5, z5, y5, o6, z6, y6, rfl, q5, q6, x3⟩
  obtain ⟨V, hV⟩ : ∃ V, w3.alloc (.cells #[.slice o5 z5 y5, .slice o6 z6 y6] 40) = V := ⟨_, rfl⟩
  have EV3 : Ext w3 V := by rw [← hV]; exact (Ext.refl w3).alloc _
  have EV : Ext w V := (HE3.out.trans x3).trans EV3
  have hvr : V.heap[w3.heap.size]? = some (.cells #[.slice o5 z5 y5, .slice o6 z6 y6] 40 (0, 0)) := by rw [← hV]; exact heap_alloc_new w3 _
  have hpart : PartAt q w3.heap.size V := ⟨HTZ.out.old EV, _, _, _, _, _, _, hvr, ⟨q5.sl.old EV3, q6.sl.old EV3⟩⟩
  have CE := each_give (a0 := ()) (pb := w3.heap.size) ⟨HL.out.old EV, hN, EV.cell HP.out, HV.out, by simp, by simp, fun W k a _ o ho => by simp at ho, fun W W' k a hq L => PartAt.lk hq L, hpart, HOK.out⟩ (give_how (H := H) (O := O) HBQ.out hH hO)
  have HCE := Lib.hid CE; have HV2 := Lib.hid hV; have HEV := Lib.hid EV
  clear CE hV EV EV3 hvr hpart q5 q6 x3 HCQ HCD
  go_wp2_with (rw [HV2.out])
  refine HCE.out.mono ?_
  rintro e w4 ⟨rfl, ds, hds, hled, -, -, htn⟩
  have HLF := Lib.hid (hled.all hds); have HG := Lib.hid (grownBy_trans (HEV.out.by_ (some b)) htn.by_)
  clear hds hled htn
  go_wp2_with fail
  go_end0
  exact ⟨rfl, HLF.out, HG.out⟩

set_option maxHeartbeats 8000000 in
set_option maxRecDepth 100000 in
theorem lcut_calls {w : World} {b N H O : Nat} {M : Stakes} (h : Led w b N M) (hN : N ≤ 1000000) {p : Nat} (hp : w.cell? ⟨p, 0, none⟩ = some (.map (some b))) {v : Nat} (hv : v < B64)
    {t u : Nat} (ht : t < B64) (hu : u < B64) (htz : TzTab w) (hH : H ≤ 10000) (hok : ∀ d s, M v d = some s → OkB H O s) :
    Calls Tryz.prog 21 #[.pointer (some ⟨p, 0, none⟩), .int .u64 (v : Int), .int .u64 (t : Int), .int .u64 (u : Int)] w
      (MRet (.tuple #[]) w b N (allM M v (fCut (quoR (u, 1) (t, 1))))) := by
  have hsz3 := sz_whole t ht; have hsz4 := sz_whole u hu
  have hsq := sz_quo (u, 1) (t, 1)
  obtain ⟨q, hq⟩ : ∃ x, quoR (u, 1) (t, 1) = x := ⟨_, rfl⟩
  rw [hq] at hsq ⊢
  have hb1 : sz (u, 1) ≤ 100000 := by omega
  have hb3 : sz (t, 1) ≤ 100000 := by omega
  have hbq : sz q ≤ 10000 := by omega
  have CQ : ∀ W' (F : Ext w W') o1 z1 y1 o2 z2 y2 o3 z3 y3 o4 z4 y4, RA W' o1 z1 y1 o2 z2 y2 (u, 1) → RA W' o3 z3 y3 o4 z4 y4 (t, 1) → Calls Tryz.prog 49 #[RatV o1 z1 y1 o2 z2 y2, RatV o3 z3 y3 o4 z4 y4] W' (NewQ W' q) :=
    fun W' F o1 z1 y1 o2 z2 y2 o3 z3 y3 o4 z4 y4 q1 q2 => by rw [← hq]; exact quo_q q1 q2 hb1 hb3 (htz.old F)
  have HCQ := Lib.hid CQ; have HT := Lib.hid ht; have HU := Lib.hid hu; have HL := Lib.hid h; have HP := Lib.hid hp; have HV := Lib.hid hv; have HTZ := Lib.hid htz; have HOK := Lib.hid hok; have HBQ := Lib.hid hbq
  clear CQ ht hu h hp hv htz hok hsz3 hsz4 hsq hq hb1 hb3 hbq
  go_enter Tryz.func21, Tryz.ntmps21
  go_wp2_with fail
  refine (whole_q u HU.out _).mono ?_
  rintro e w1 ⟨o1, z1, y1, o2, z2, y2, rfl, q1, q2, x1⟩
  have S1 := Lib.hid q1.sl; have S2 := Lib.hid q2.sl; have HE2 := Lib.hid x1
  clear q1 q2 x1
  go_wp2_with fail
  refine (whole_q t HT.out _).mono ?_
  rintro e w2 ⟨o3, z3, y3, o4, z4, y4, rfl, q3, q4, x2⟩
  have S3 := Lib.hid q3.sl; have S4 := Lib.hid q4.sl; have HE3 := Lib.hid (HE2.out.trans x2); have HX2 := Lib.hid x2
  clear q3 q4 x2
  go_wp2_with fail
  refine (HCQ.out _ HE3.out _ _ _ _ _ _ _ _ _ _ _ _ ⟨S1.out.old HX2.out, S2.out.old HX2.out⟩ ⟨S3.out, S4.out⟩).mono ?_
  rintro e w3 ⟨o5, z5, y5, o6, z6, y6, rfl, q5, q6, x3⟩
  obtain ⟨V, hV⟩ : ∃ V, w3.alloc (.cells #[.slice o5 z5 y5, .slice o6 z6 y6] 40) = V := ⟨_, rfl⟩
  have EV3 : Ext w3 V := by rw [← hV]; exact (Ext.refl w3).alloc _
  have EV : Ext w V := (HE3.out.trans x3).trans EV3
  have hvr : V.heap[w3.heap.size]? = some (.cells #[.slice o5 z5 y5, .slice o6 z6 y6] 40 (0, 0)) := by rw [← hV]; exact heap_alloc_new w3 _
  have hpart : PartAt q w3.heap.size V := ⟨HTZ.out.old EV, _, _, _, _, _, _, hvr, ⟨q5.sl.old EV3, q6.sl.old EV3⟩⟩
  have CE := each_cut (a0 := ()) (pb := w3.heap.size) ⟨HL.out.old EV, hN, EV.cell HP.out, HV.out, by simp, by simp, fun W k a _ o ho => by simp at ho, fun W W' k a hq L => PartAt.lk hq L, hpart, HOK.out⟩ (cut_how (H := H) (O := O) HBQ.out hH)
  have HCE := Lib.hid CE; have HV2 := Lib.hid hV; have HEV := Lib.hid EV
  clear CE hV EV EV3 hvr hpart q5 q6 x3 HCQ
  go_wp2_with (rw [HV2.out])
  refine HCE.out.mono ?_
  rintro e w4 ⟨rfl, ds, hds, hled, -, -, htn⟩
  have HLF := Lib.hid (hled.all hds); have HG := Lib.hid (grownBy_trans (HEV.out.by_ (some b)) htn.by_)
  clear hds hled htn
  go_wp2_with fail
  go_end0
  exact ⟨rfl, HLF.out, HG.out⟩

set_option maxHeartbeats 8000000 in
set_option maxRecDepth 100000 in
theorem lstakes_calls {w : World} {b N H : Nat} {M : Stakes} (h : Led w b N M) (hN : N ≤ 1000000) {p : Nat} (hp : w.cell? ⟨p, 0, none⟩ = some (.map (some b))) {v : Nat} (hv : v < B64) (htz : TzTab w) (hH : H ≤ 10000) (hNH : N * (H + 1) ≤ 90000) (hok : ∀ d s, M v d = some s → sz s.h ≤ H) :
    Calls Tryz.prog 27 #[.pointer (some ⟨p, 0, none⟩), .int .u64 (v : Int)] w fun e w' => ∃ ds, Dels M v ds ∧ MQ w b N M (ds.foldl (fun a d => uStakes a (got M v d)) (0, 1)) e w' := by
  obtain ⟨X, hX⟩ : ∃ X, w.alloc (.cells #[.slice none 0 0, .slice none 0 0] 40) = X := ⟨_, rfl⟩
  have E0 : Ext w X := by rw [← hX]; exact (Ext.refl w).alloc _
  have hr0 : X.heap[w.heap.size]? = some (.cells #[.slice none 0 0, .slice none 0 0] 40 (0, 0)) := by rw [← hX]; exact heap_alloc_new w _
  have HX := Lib.hid hX; have HE0 := Lib.hid E0; have HR0 := Lib.hid hr0; have HL := Lib.hid h; have HP := Lib.hid hp; have HV := Lib.hid hv; have HTZ := Lib.hid htz; have HOK := Lib.hid hok; have HNH := Lib.hid hNH
  clear hX E0 hr0 h hp hv htz hok hNH
  go_enter Tryz.func27, Tryz.ntmps27
  go_wp2_with (rw [HX.out])
  refine (rsum0_q _ (HTZ.out.old HE0.out)).mono ?_
  rintro e w1 ⟨o1, z1, y1, o2, z2, y2, rfl, q1, q2, x1⟩
  obtain ⟨V, hV⟩ : ∃ V, w1.alloc (.cells #[.slice o1 z1 y1, .slice o2 z2 y2] 40) = V := ⟨_, rfl⟩
  have EV1 : Ext w1 V := by rw [← hV]; exact (Ext.refl w1).alloc _
  have EXV := x1.trans EV1
  have EV : Ext w V := HE0.out.trans EXV
  have hvr : V.heap[w1.heap.size]? = some (.cells #[.slice o1 z1 y1, .slice o2 z2 y2] 40 (0, 0)) := by rw [← hV]; exact heap_alloc_new w1 _
  have hsum : SumAt H w1.heap.size V 0 (0, 1) := ⟨HTZ.out.old EV, by rw [sz_one]; omega, _, _, _, _, _, _, hvr, ⟨q1.sl.old EV1, q2.sl.old EV1⟩⟩
  have hw1 := (HE0.out.trans x1).size
  have hbl := HL.out.lt
  have hpl := World.block_lt_of_cell? w _ HP.out
  simp only at hpl
  have CE := each_stakes (α := Nat × Nat) (a0 := (0, 1)) (pb := w1.heap.size) (ob := some w1.heap.size) (Pw := SumAt H w1.heap.size) ⟨HL.out.old EV, hN, EV.cell HP.out, HV.out, fun e => by have := Option.some.inj e; omega, fun e => by have := Option.some.inj e; omega, fun W k a hq => SumAt.ob hq, fun W W' k a hq L => SumAt.lk hq L, hsum, HOK.out⟩ (stakes_how (H := H) HNH.out hH)
  have HRX := Lib.hid (rowE EXV HR0.out)
  have HCE := Lib.hid CE; have HV2 := Lib.hid hV; have HEV := Lib.hid EV; have HW1 := Lib.hid (show w.heap.size < w1.heap.size from Nat.lt_of_lt_of_le (show w.heap.size < X.heap.size by rw [← HX.out, alloc_size]; omega) x1.size)
  have HVL := Lib.hid (show w1.heap.size < V.heap.size from (Array.getElem?_eq_some_iff.1 hvr).1)
  clear CE hV EV EV1 EXV hvr hsum q1 q2 x1 hw1 hbl hpl
  go_wp2_with (rw [HV2.out])
  refine HCE.out.mono ?_
  rintro e w2 ⟨rfl, ds, hds, hled, ⟨hz2, hs2, o3, z3, y3, o4, z4, y4, hr3, hra⟩, hp2, htn⟩
  rw [mapM_id] at hled
  have hrx : w2.heap[w.heap.size]? = some (.cells #[.slice none 0 0, .slice none 0 0] 40 (0, 0)) := by
    have := HW1.out; have := HVL.out
    rw [htn.block _ (by omega) (fun e => by have := HL.out.lt; omega) (fun e => by have := Option.some.inj e; omega)]
    exact HRX.out
  obtain ⟨k1, k2, k3, k4⟩ := row2_cells hr3
  obtain ⟨j1, j2, j3, j4⟩ := row2_cells hrx
  have G : w.grownBy w2 (some b) := ⟨htn.os.trans HEV.out.os, htn.tape.trans HEV.out.tape, htn.output.trans HEV.out.output, Nat.le_trans HEV.out.size htn.size, fun k hk hb => by
    rw [htn.block k (Nat.lt_of_lt_of_le hk HEV.out.size) (fun e => hb (by rw [e])) (fun e => by have := Option.some.inj e; have := HW1.out; omega)]
    exact HEV.out.block k hk⟩
  have LN : Ln w2 ((w2.setCell ⟨w.heap.size, 0, none⟩ (.slice o3 z3 y3)).setCell ⟨w.heap.size, 1, none⟩ (.slice o4 z4 y4)) :=
    ((Tn.cell1 (xb := w.heap.size) (i := 0) (Ext.refl w2) (.slice o3 z3 y3) none).cell2 (i := 1) (.slice o4 z4 y4)).ln (noNum2 hrx) (fun o h => by cases h)
  have HLF := Lib.hid (show Led ((w2.setCell ⟨w.heap.size, 0, none⟩ (.slice o3 z3 y3)).setCell ⟨w.heap.size, 1, none⟩ (.slice o4 z4 y4)) b N M from by
    obtain ⟨D, hD⟩ := hled
    exact ⟨D, hD.keptN LN (by
      have g := set2_by w2 w.heap.size (.slice o3 z3 y3) (.slice o4 z4 y4)
      exact g.block b hD.own.lt (fun e => by have := Option.some.inj e; have := HL.out.lt; omega))⟩)
  have HGF := Lib.hid (show w.grownBy ((w2.setCell ⟨w.heap.size, 0, none⟩ (.slice o3 z3 y3)).setCell ⟨w.heap.size, 1, none⟩ (.slice o4 z4 y4)) (some b) from by
    have g := set2_by w2 w.heap.size (.slice o3 z3 y3) (.slice o4 z4 y4)
    exact ⟨g.os.trans G.os, g.tape.trans G.tape, g.output.trans G.output, Nat.le_trans G.size g.size, fun k hk hb => by
      rw [g.block k (Nat.lt_of_lt_of_le hk G.size) (fun e => by have := Option.some.inj e; omega)]
      exact G.block k hk hb⟩)
  have HRA := Lib.hid (hra.ln LN); have HRX2 := Lib.hid hrx; have HDS := Lib.hid hds
  clear hds hled hz2 hs2 hr3 hra hp2 htn hrx G LN
  go_wp2_with fail
  try simp only [Exit.inBlock, Exit.then]
  refine bodyPost_ret (results_box1 rfl _ _ _ _ rfl (load_rat (set2_row HRX2.out _ _))) rfl ?_
  exact ⟨ds, HDS.out, _, _, _, _, _, _, rfl, HRA.out, HLF.out, HGF.out⟩

set_option maxHeartbeats 8000000 in
set_option maxRecDepth 100000 in
theorem lowes_calls {w : World} {b N H : Nat} {M : Stakes} (h : Led w b N M) (hN : N ≤ 1000000) {p : Nat} (hp : w.cell? ⟨p, 0, none⟩ = some (.map (some b))) {v : Nat} (hv : v < B64) (htz : TzTab w) (hH : H ≤ 10000) (hNH : N * (H + 1) ≤ 90000) (hok : ∀ d s, M v d = some s → sz s.o ≤ H) :
    Calls Tryz.prog 29 #[.pointer (some ⟨p, 0, none⟩), .int .u64 (v : Int)] w fun e w' => ∃ ds, Dels M v ds ∧ MQ w b N M (ds.foldl (fun a d => uOwes a (got M v d)) (0, 1)) e w' := by
  obtain ⟨X, hX⟩ : ∃ X, w.alloc (.cells #[.slice none 0 0, .slice none 0 0] 40) = X := ⟨_, rfl⟩
  have E0 : Ext w X := by rw [← hX]; exact (Ext.refl w).alloc _
  have hr0 : X.heap[w.heap.size]? = some (.cells #[.slice none 0 0, .slice none 0 0] 40 (0, 0)) := by rw [← hX]; exact heap_alloc_new w _
  have HX := Lib.hid hX; have HE0 := Lib.hid E0; have HR0 := Lib.hid hr0; have HL := Lib.hid h; have HP := Lib.hid hp; have HV := Lib.hid hv; have HTZ := Lib.hid htz; have HOK := Lib.hid hok; have HNH := Lib.hid hNH
  clear hX E0 hr0 h hp hv htz hok hNH
  go_enter Tryz.func29, Tryz.ntmps29
  go_wp2_with (rw [HX.out])
  refine (rsum0_q _ (HTZ.out.old HE0.out)).mono ?_
  rintro e w1 ⟨o1, z1, y1, o2, z2, y2, rfl, q1, q2, x1⟩
  obtain ⟨V, hV⟩ : ∃ V, w1.alloc (.cells #[.slice o1 z1 y1, .slice o2 z2 y2] 40) = V := ⟨_, rfl⟩
  have EV1 : Ext w1 V := by rw [← hV]; exact (Ext.refl w1).alloc _
  have EXV := x1.trans EV1
  have EV : Ext w V := HE0.out.trans EXV
  have hvr : V.heap[w1.heap.size]? = some (.cells #[.slice o1 z1 y1, .slice o2 z2 y2] 40 (0, 0)) := by rw [← hV]; exact heap_alloc_new w1 _
  have hsum : SumAt H w1.heap.size V 0 (0, 1) := ⟨HTZ.out.old EV, by rw [sz_one]; omega, _, _, _, _, _, _, hvr, ⟨q1.sl.old EV1, q2.sl.old EV1⟩⟩
  have hw1 := (HE0.out.trans x1).size
  have hbl := HL.out.lt
  have hpl := World.block_lt_of_cell? w _ HP.out
  simp only at hpl
  have CE := each_owes (α := Nat × Nat) (a0 := (0, 1)) (pb := w1.heap.size) (ob := some w1.heap.size) (Pw := SumAt H w1.heap.size) ⟨HL.out.old EV, hN, EV.cell HP.out, HV.out, fun e => by have := Option.some.inj e; omega, fun e => by have := Option.some.inj e; omega, fun W k a hq => SumAt.ob hq, fun W W' k a hq L => SumAt.lk hq L, hsum, HOK.out⟩ (owes_how (H := H) HNH.out hH)
  have HRX := Lib.hid (rowE EXV HR0.out)
  have HCE := Lib.hid CE; have HV2 := Lib.hid hV; have HEV := Lib.hid EV; have HW1 := Lib.hid (show w.heap.size < w1.heap.size from Nat.lt_of_lt_of_le (show w.heap.size < X.heap.size by rw [← HX.out, alloc_size]; omega) x1.size)
  have HVL := Lib.hid (show w1.heap.size < V.heap.size from (Array.getElem?_eq_some_iff.1 hvr).1)
  clear CE hV EV EV1 EXV hvr hsum q1 q2 x1 hw1 hbl hpl
  go_wp2_with (rw [HV2.out])
  refine HCE.out.mono ?_
  rintro e w2 ⟨rfl, ds, hds, hled, ⟨hz2, hs2, o3, z3, y3, o4, z4, y4, hr3, hra⟩, hp2, htn⟩
  rw [mapM_id] at hled
  have hrx : w2.heap[w.heap.size]? = some (.cells #[.slice none 0 0, .slice none 0 0] 40 (0, 0)) := by
    have := HW1.out; have := HVL.out
    rw [htn.block _ (by omega) (fun e => by have := HL.out.lt; omega) (fun e => by have := Option.some.inj e; omega)]
    exact HRX.out
  obtain ⟨k1, k2, k3, k4⟩ := row2_cells hr3
  obtain ⟨j1, j2, j3, j4⟩ := row2_cells hrx
  have G : w.grownBy w2 (some b) := ⟨htn.os.trans HEV.out.os, htn.tape.trans HEV.out.tape, htn.output.trans HEV.out.output, Nat.le_trans HEV.out.size htn.size, fun k hk hb => by
    rw [htn.block k (Nat.lt_of_lt_of_le hk HEV.out.size) (fun e => hb (by rw [e])) (fun e => by have := Option.some.inj e; have := HW1.out; omega)]
    exact HEV.out.block k hk⟩
  have LN : Ln w2 ((w2.setCell ⟨w.heap.size, 0, none⟩ (.slice o3 z3 y3)).setCell ⟨w.heap.size, 1, none⟩ (.slice o4 z4 y4)) :=
    ((Tn.cell1 (xb := w.heap.size) (i := 0) (Ext.refl w2) (.slice o3 z3 y3) none).cell2 (i := 1) (.slice o4 z4 y4)).ln (noNum2 hrx) (fun o h => by cases h)
  have HLF := Lib.hid (show Led ((w2.setCell ⟨w.heap.size, 0, none⟩ (.slice o3 z3 y3)).setCell ⟨w.heap.size, 1, none⟩ (.slice o4 z4 y4)) b N M from by
    obtain ⟨D, hD⟩ := hled
    exact ⟨D, hD.keptN LN (by
      have g := set2_by w2 w.heap.size (.slice o3 z3 y3) (.slice o4 z4 y4)
      exact g.block b hD.own.lt (fun e => by have := Option.some.inj e; have := HL.out.lt; omega))⟩)
  have HGF := Lib.hid (show w.grownBy ((w2.setCell ⟨w.heap.size, 0, none⟩ (.slice o3 z3 y3)).setCell ⟨w.heap.size, 1, none⟩ (.slice o4 z4 y4)) (some b) from by
    have g := set2_by w2 w.heap.size (.slice o3 z3 y3) (.slice o4 z4 y4)
    exact ⟨g.os.trans G.os, g.tape.trans G.tape, g.output.trans G.output, Nat.le_trans G.size g.size, fun k hk hb => by
      rw [g.block k (Nat.lt_of_lt_of_le hk G.size) (fun e => by have := Option.some.inj e; omega)]
      exact G.block k hk hb⟩)
  have HRA := Lib.hid (hra.ln LN); have HRX2 := Lib.hid hrx; have HDS := Lib.hid hds
  clear hds hled hz2 hs2 hr3 hra hp2 htn hrx G LN
  go_wp2_with fail
  try simp only [Exit.inBlock, Exit.then]
  refine bodyPost_ret (results_box1 rfl _ _ _ _ rfl (load_rat (set2_row HRX2.out _ _))) rfl ?_
  exact ⟨ds, HDS.out, _, _, _, _, _, _, rfl, HRA.out, HLF.out, HGF.out⟩

end Go.Proofs.YtimcnhlcepemjaaGreatDoor

/- ledger.Settle. -/
namespace Go.Proofs.YtimcnhlcepemjaaGreatDoor
open Go.RowKit

theorem results_box4 {fn : Func} {p u t : Tmp} {ty : TypeId} (h : fn.results = #[.cell p ty, .tmp u, .tmp t]) (tmps : Array Value) {P : Program} (w : World) (g : Nat) (v : Value)
    (hp : tmps.getD p undef = .pointer (some ⟨g, 0, none⟩)) (hl : (loadVar ty ⟨g, 0, none⟩).run P w = .ok v w) :
    (results fn tmps).run P w = .ok (.tuple #[v, tmps.getD u undef, tmps.getD t undef]) w := by
  have hp' : tmps[p]?.getD undef = .pointer (some ⟨g, 0, none⟩) := by simpa using hp
  simp [results, h, hp', asAddr, hl, Result.andThen]
/-- What settling leaves. -/
def settleM (M : Stakes) (v d : Nat) : Stakes := match M v d with
  | none => allM M v fSettle
  | some s => putM (allM M v fSettle) v d ⟨s.h, (0, 0), 0, 0⟩
def settleP (M : Stakes) (v d : Nat) : Int := match M v d with
  | none => 0
  | some s => wrap64 (s.p + 1)
def MS (w : World) (b N : Nat) (M : Stakes) (q : Nat × Nat) (pp kk : Int) (e : Ending) (w' : World) : Prop :=
  ∃ a n c a' m d, e = .returned (.tuple #[RatV a n c a' m d, .int .i64 pp, .int .i64 kk]) ∧ RA w' a n c a' m d q ∧ Led w' b N M ∧ w.grownBy w' (some b)
theorem canQ_nil : canQ (0, 0) = (0, 1) := by decide

set_option maxHeartbeats 8000000 in
set_option maxRecDepth 100000 in
theorem lsettle_calls {w : World} {b N : Nat} {M : Stakes} (h : Led w b N M) (hN : N ≤ 1000000) {p : Nat} (hp : w.cell? ⟨p, 0, none⟩ = some (.map (some b))) {v d : Nat} (hv : v < B64) (hd : d < B64) (hsz : sz (got M v d).o ≤ 90000) (htz : TzTab w) :
    Calls Tryz.prog 14 #[.pointer (some ⟨p, 0, none⟩), .int .u64 (v : Int), .int .u64 (d : Int)] w (MS w b N (settleM M v d) (canQ (got M v d).o) (settleP M v d) (got M v d).k) := by
  obtain ⟨X, hX⟩ : ∃ X, w.alloc (.cells #[.slice none 0 0, .slice none 0 0] 40) = X := ⟨_, rfl⟩
  have E0 : Ext w X := by rw [← hX]; exact (Ext.refl w).alloc _
  have hr0 : X.heap[w.heap.size]? = some (.cells #[.slice none 0 0, .slice none 0 0] 40 (0, 0)) := by rw [← hX]; exact heap_alloc_new w _
  have CE := each_settle (a0 := ()) (Pw := fun _ _ _ => True) (ob := none) ⟨h.old E0, hN, E0.cell hp, hv, by simp, by simp, fun W k a _ o ho => by simp at ho, fun _ _ _ _ _ _ => trivial, trivial, fun _ _ _ => trivial⟩ (settle_how N)
  have HCE := Lib.hid CE; have HX := Lib.hid hX; have HE0 := Lib.hid E0; have HR0 := Lib.hid hr0; have HL := Lib.hid h; have HP := Lib.hid hp; have HV := Lib.hid hv; have HD := Lib.hid hd; have HTZ := Lib.hid htz; have HSZ := Lib.hid hsz
  have HXS := Lib.hid (show X.heap.size = w.heap.size + 1 by rw [← hX, alloc_size])
  clear CE hX E0 hr0 h hp hv hd htz hsz
  go_enter Tryz.func14, Tryz.ntmps14
  go_wp2_with (rw [HX.out])
  refine HCE.out.mono ?_
  rintro e w1 ⟨rfl, ds, hds, hled, -, hp1, htn⟩
  have hled1 := hled.all hds
  have hg1 := htn.by_
  have hrx : w1.heap[w.heap.size]? = some (.cells #[.slice none 0 0, .slice none 0 0] 40 (0, 0)) := by
    have := HXS.out
    rw [hg1.block _ (by omega) (fun e => by have := Option.some.inj e; have := HL.out.lt; omega)]
    exact HR0.out
  have htz1 : TzTab w1 := (HTZ.out.old HE0.out).tn htn ((HL.out.old HE0.out).isMapB.noByte) (fun o h => by cases h)
  have HG1 := Lib.hid (grownBy_trans (HE0.out.by_ (some b)) hg1)
  obtain ⟨a1, m1, c1, b1, n1, d1, a2, m2, c2, b2, n2, d2, h6, -, hlook⟩ := hled1.look HV.out HD.out
  have hl1 := hlook w1 (Ext.refl w1)
  have hgot : (allM M v fSettle) v d = (M v d).map fSettle := by unfold allM; rw [if_pos rfl]
  obtain ⟨sg, hsg⟩ : ∃ x, got (allM M v fSettle) v d = x := ⟨_, rfl⟩
  rw [hsg] at h6 hl1
  obtain ⟨V, hV⟩ : ∃ V, w1.alloc (.cells #[.slice a1 m1 c1, .slice b1 n1 d1, .slice a2 m2 c2, .slice b2 n2 d2, .int .i64 sg.p, .int .i64 sg.k] 78) = V := ⟨_, rfl⟩
  have EV : Ext w1 V := by rw [← hV]; exact (Ext.refl w1).alloc _
  have hvr : V.heap[w1.heap.size]? = some (.cells #[.slice a1 m1 c1, .slice b1 n1 d1, .slice a2 m2 c2, .slice b2 n2 d2, .int .i64 sg.p, .int .i64 sg.k] 78 (0, 0)) := by rw [← hV]; exact heap_alloc_new w1 _
  have HV1 := Lib.hid hV; have HEV := Lib.hid EV; have HVR := Lib.hid hvr; have HRX := Lib.hid hrx; have HL1 := Lib.hid hled1; have H6 := Lib.hid (h6.lk EV.lk); have HP1 := Lib.hid hp1; have HTZ1 := Lib.hid htz1; have HSG := Lib.hid hsg; have HGOT := Lib.hid hgot; have HLL := Lib.hid hl1
  have HW1 := Lib.hid (show w.heap.size < w1.heap.size from (Array.getElem?_eq_some_iff.1 hrx).1)
  clear hV EV hvr hrx hled1 h6 htz1 hsg hgot hled hds htn hg1 hlook hl1
  cases hm : M v d with
  | none =>
    have hl1 := HLL.out
    rw [HGOT.out, hm] at hl1
    have HM := Lib.hid hm
    simp only [Option.map_none, Option.isSome_none] at hl1
    clear hm
    go_wp2_with (rw [HV1.out])
    refine (rnil_q V).mono ?_
    rintro e w2 ⟨o1, z1, y1, o2, z2, y2, rfl, q1, q2, x2⟩
    have HRW := Lib.hid (rowE (HEV.out.trans x2) HRX.out)
    obtain ⟨k1, k2, k3, k4⟩ := row2_cells HRW.out
    have hlt := HW1.out
    have hvs := HEV.out.size
    have S1 := Lib.hid (q1.set2 (.slice o1 z1 y1) (.slice o2 z2 y2) (by omega : w.heap.size < V.heap.size)).sl
    have S2 := Lib.hid (q2.set2 (.slice o1 z1 y1) (.slice o2 z2 y2) (by omega : w.heap.size < V.heap.size)).sl
    have G2 : w.grownBy w2 (some b) := grownBy_trans HG1.out ((HEV.out.trans x2).by_ (some b))
    have LN : Ln w2 ((w2.setCell ⟨w.heap.size, 0, none⟩ (.slice o1 z1 y1)).setCell ⟨w.heap.size, 1, none⟩ (.slice o2 z2 y2)) :=
      ((Tn.cell1 (xb := w.heap.size) (i := 0) (Ext.refl w2) (.slice o1 z1 y1) none).cell2 (i := 1) (.slice o2 z2 y2)).ln (noNum2 HRW.out) (fun o h => by cases h)
    have HLF := Lib.hid (show Led ((w2.setCell ⟨w.heap.size, 0, none⟩ (.slice o1 z1 y1)).setCell ⟨w.heap.size, 1, none⟩ (.slice o2 z2 y2)) b N (allM M v fSettle) from by
      obtain ⟨D, hD⟩ := HL1.out.old (HEV.out.trans x2)
      have g := set2_by w2 w.heap.size (.slice o1 z1 y1) (.slice o2 z2 y2)
      exact ⟨D, hD.keptN LN (g.block b hD.own.lt (fun e => by have := Option.some.inj e; have := HL.out.lt; omega))⟩)
    have HGF := Lib.hid (show w.grownBy ((w2.setCell ⟨w.heap.size, 0, none⟩ (.slice o1 z1 y1)).setCell ⟨w.heap.size, 1, none⟩ (.slice o2 z2 y2)) (some b) from by
      have g := set2_by w2 w.heap.size (.slice o1 z1 y1) (.slice o2 z2 y2)
      exact ⟨g.os.trans G2.os, g.tape.trans G2.tape, g.output.trans G2.output, Nat.le_trans G2.size g.size, fun k hk hb => by
        rw [g.block k (Nat.lt_of_lt_of_le hk G2.size) (fun e => by have := Option.some.inj e; omega)]
        exact G2.block k hk hb⟩)
    clear q1 q2 x2 G2 LN hlt hvs
    go_wp2_with fail
    try simp only [Exit.inBlock, Exit.then]
    refine bodyPost_ret (results_box4 rfl _ _ _ _ rfl (load_rat (set2_row HRW.out _ _))) rfl ?_
    have e1 : got M v d = stk0 := by unfold got; rw [HM.out]; rfl
    rw [show settleM M v d = allM M v fSettle by unfold settleM; rw [HM.out], show settleP M v d = 0 by unfold settleP; rw [HM.out], e1, show canQ stk0.o = (0, 1) from canQ_nil]
    exact ⟨_, _, _, _, _, _, rfl, ⟨S1.out, S2.out⟩, HLF.out, HGF.out⟩
  | some s =>
    have hl1 := HLL.out
    rw [HGOT.out, hm] at hl1
    have HM := Lib.hid hm
    have hsgs : sg = fSettle s := by rw [← HSG.out]; unfold got; rw [HGOT.out, hm]; rfl
    have HSGS := Lib.hid hsgs
    simp only [Option.map_some, Option.isSome_some] at hl1
    have hpV := HEV.out.cell HP1.out
    obtain ⟨f0, f1, f2, f3, f4, f5⟩ := row6_cells HVR.out
    clear hm hsgs
    go_wp2_with (rw [HV1.out])
    go_still_tail 10, (by kernel_rfl)
    change wpList _ _ _ _ _ V.drew
    generalize hw2 : V.drew = w2
    have E2 : Ext V w2 := by rw [← hw2]; exact (Ext.refl V).drew
    obtain ⟨D, hDD⟩ := HL1.out.old (HEV.out.trans E2)
    have HD2 := Lib.hid hDD; have HE2 := Lib.hid E2
    have hown := hDD.own
    have hN7 : N < maxLen := by unfold maxLen; omega
    clear hw2 f0 f1 f2 f3 f4 f5 hDD E2 hl1 hpV
    go_wp2_with (first
      | (at_mapUpdate; refine wpList_mapUpdate_own _ rfl _ _ _ 72 rfl 85 78 lawPair Tryz.underlying72 RV b N D rfl hown hN7 _ _ (kl v d) rfl rfl (keyOf_pair HV.out HD.out) _ [] rfl ?_; intro w3 hown3 hg3)
      | fail)
    have hM1 : allM M v fSettle v d = some (fSettle s) := by rw [HGOT.out, HM.out]; rfl
    have hL3 := HD2.out.put (N' := N) HV.out HD.out (s := ⟨s.h, (0, 0), 0, 0⟩) ⟨_, _, _, _, _, _, _, _, _, _, _, _, rfl, ⟨by have := H6.out.s1; rw [HSGS.out] at this; exact this.old HE2.out, by have := H6.out.s2; rw [HSGS.out] at this; exact this.old HE2.out, Sl.nil _, Sl.nil _⟩⟩ hown3 hg3 (by rw [hM1]; exact Nat.le_refl _)
    have K3 := HE2.out.lk.trans (HD2.out.isMapB.lk hg3)
    have hvr3 := K3.keep _ _ _ _ HVR.out
    have hrx3 := (HEV.out.lk.trans K3).keep _ _ _ _ HRX.out
    have htz3 := HTZ1.out.lk (HEV.out.lk.trans K3)
    have h63 := H6.out.lk K3
    have hg3' : w.grownBy w3 (some b) := grownBy_trans HG1.out (grownBy_trans ((HEV.out.trans HE2.out).by_ (some b)) hg3)
    have hsz3 : sz sg.o ≤ 90000 := by
      have := HSZ.out
      rw [HSGS.out]
      unfold got at this
      rw [HM.out] at this
      exact this
    have HL3 := Lib.hid hL3; have HVR3 := Lib.hid hvr3; have HRX3 := Lib.hid hrx3; have HG3 := Lib.hid hg3'
    have CS : ∀ Ws, Ext w3 Ws → Ws.heap[w3.heap.size]? = some (.cells #[.slice a2 m2 c2, .slice b2 n2 d2] 40 (0, 0)) → Calls Tryz.prog 59 #[.slice (some ⟨w3.heap.size, 0, none⟩) 1 1] Ws (NewQ Ws (canQ sg.o)) :=
      fun Ws E r => rsum1_q (h63.ra2.old E) hsz3 (htz3.old E) w3.heap.size 0 rfl (Nat.le_refl _) (by decide) (row2_cells r).1 (row2_cells r).2.1
    have HCS := Lib.hid CS
    have HBC := Lib.hid (fun w' (F : Ext w3 w') => (show w'.cell? ⟨w1.heap.size, 2, none⟩ = some (.slice a2 m2 c2) ∧ w'.cell? ⟨w1.heap.size, 3, none⟩ = some (.slice b2 n2 d2) ∧ w'.cell? ⟨w1.heap.size, 4, none⟩ = some (.int .i64 sg.p) ∧ w'.cell? ⟨w1.heap.size, 5, none⟩ = some (.int .i64 sg.k) from
      ⟨(row6_cells (rowE F hvr3)).2.2.1, (row6_cells (rowE F hvr3)).2.2.2.1, (row6_cells (rowE F hvr3)).2.2.2.2.1, (row6_cells (rowE F hvr3)).2.2.2.2.2⟩))
    have HB5 := Lib.hid (fun w' (F : Ext w3 w') u1 u2 => (show ((w'.setCell ⟨w.heap.size, 0, none⟩ u1).setCell ⟨w.heap.size, 1, none⟩ u2).cell? ⟨w1.heap.size, 2, none⟩ = some (.slice a2 m2 c2) ∧ ((w'.setCell ⟨w.heap.size, 0, none⟩ u1).setCell ⟨w.heap.size, 1, none⟩ u2).cell? ⟨w1.heap.size, 3, none⟩ = some (.slice b2 n2 d2) ∧ ((w'.setCell ⟨w.heap.size, 0, none⟩ u1).setCell ⟨w.heap.size, 1, none⟩ u2).cell? ⟨w1.heap.size, 4, none⟩ = some (.int .i64 sg.p) ∧ ((w'.setCell ⟨w.heap.size, 0, none⟩ u1).setCell ⟨w.heap.size, 1, none⟩ u2).cell? ⟨w1.heap.size, 5, none⟩ = some (.int .i64 sg.k) from by
      have r := set2_other (rowE F hvr3) (show w1.heap.size ≠ w.heap.size by have := HW1.out; omega) u1 u2
      exact ⟨(row6_cells r).2.2.1, (row6_cells r).2.2.2.1, (row6_cells r).2.2.2.2.1, (row6_cells r).2.2.2.2.2⟩))
    clear hL3 K3 hvr3 hrx3 htz3 h63 hg3' hsz3 CS hown hN7 hown3 hg3 hM1
    go_wp2_with fail
    go_region_held3 (fun w' => w'.cell? ⟨w1.heap.size, 2, none⟩ = some (.slice a2 m2 c2) ∧ w'.cell? ⟨w1.heap.size, 3, none⟩ = some (.slice b2 n2 d2) ∧ w'.cell? ⟨w1.heap.size, 4, none⟩ = some (.int .i64 sg.p) ∧ w'.cell? ⟨w1.heap.size, 5, none⟩ = some (.int .i64 sg.k))
      (first | exact HBC.out _ (Ext.refl _).drew | exact HBC.out _ ((Ext.refl _).drew.alloc _) | exact HBC.out _ ((Ext.refl _).alloc _).drew | exact HBC.out _ (by assumption) | exact HB5.out _ (by assumption) _ _)
      (first
        | (go_at_call 59; refine (HCS.out _ (by first | exact (Ext.refl _).drew.alloc _ | exact ((Ext.refl _).alloc _).drew) (by first | exact heap_alloc_new _ _)).mono ?_; rintro e wS ⟨o1, z1, y1, o2, z2, y2, rfl, q1, q2, xS⟩; have ES : Ext w3 wS := (by first | exact ((Ext.refl _).drew.alloc _).trans xS | exact ((Ext.refl _).alloc _).drew.trans xS); obtain ⟨k1, k2, k3, k4⟩ := row2_cells (rowE ES HRX3.out)))
    all_goals (
      have HRS := Lib.hid (rowE ES HRX3.out)
      have LN : Ln wS ((wS.setCell ⟨w.heap.size, 0, none⟩ (.slice o1 z1 y1)).setCell ⟨w.heap.size, 1, none⟩ (.slice o2 z2 y2)) :=
        ((Tn.cell1 (xb := w.heap.size) (i := 0) (Ext.refl wS) (.slice o1 z1 y1) none).cell2 (i := 1) (.slice o2 z2 y2)).ln (noNum2 HRS.out) (fun o h => by cases h)
      have G2 : w.grownBy wS (some b) := grownBy_trans HG3.out (ES.by_ (some b))
      have HLF := Lib.hid (show Led ((wS.setCell ⟨w.heap.size, 0, none⟩ (.slice o1 z1 y1)).setCell ⟨w.heap.size, 1, none⟩ (.slice o2 z2 y2)) b N (putM (allM M v fSettle) v d ⟨s.h, (0, 0), 0, 0⟩) from by
        have hD := HL3.out.old ES
        have g := set2_by wS w.heap.size (.slice o1 z1 y1) (.slice o2 z2 y2)
        exact ⟨_, hD.keptN LN (g.block b hD.own.lt (fun e => by have := Option.some.inj e; have := HL.out.lt; omega))⟩)
      have HGF := Lib.hid (show w.grownBy ((wS.setCell ⟨w.heap.size, 0, none⟩ (.slice o1 z1 y1)).setCell ⟨w.heap.size, 1, none⟩ (.slice o2 z2 y2)) (some b) from by
        have g := set2_by wS w.heap.size (.slice o1 z1 y1) (.slice o2 z2 y2)
        exact ⟨g.os.trans G2.os, g.tape.trans G2.tape, g.output.trans G2.output, Nat.le_trans G2.size g.size, fun k hk hb => by
          rw [g.block k (Nat.lt_of_lt_of_le hk G2.size) (fun e => by have := Option.some.inj e; omega)]
          exact G2.block k hk hb⟩)
      have HRA := Lib.hid (show RA ((wS.setCell ⟨w.heap.size, 0, none⟩ (.slice o1 z1 y1)).setCell ⟨w.heap.size, 1, none⟩ (.slice o2 z2 y2)) o1 z1 y1 o2 z2 y2 (canQ sg.o) from ⟨q1.sl.ln LN, q2.sl.ln LN⟩)
      clear q1 q2 xS ES G2 LN
      go_wp2_with fail
      try simp only [Exit.inBlock, Exit.then]
      refine bodyPost_ret (results_box4 rfl _ _ _ _ rfl (load_rat (set2_row HRS.out _ _))) rfl ?_
      have e1 : got M v d = s := by unfold got; rw [HM.out]; rfl
      have e2 := HRA.out
      rw [HSGS.out] at e2
      rw [show settleM M v d = putM (allM M v fSettle) v d ⟨s.h, (0, 0), 0, 0⟩ by unfold settleM; rw [HM.out], show settleP M v d = wrap64 (s.p + 1) by unfold settleP; rw [HM.out], e1, HSGS.out]
      exact ⟨_, _, _, _, _, _, rfl, e2, HLF.out, HGF.out⟩)

end Go.Proofs.YtimcnhlcepemjaaGreatDoor
