
/- gleanref24.Hold. -/
import Derived.Test.YtimcnhlcepemjaaGreatDoorRlI
import Derived.Test.YtimcnhlcepemjaaGreatDoorMid
namespace Go.Proofs.YtimcnhlcepemjaaGreatDoor
open Go.RowKit

theorem step_append_run {P : Program} {ops : Array Oper} {o : Oper} {a : Act} {w : World} {K : Act → World → Prop} {Q : Exit → Act → World → Prop} {E : Prop}
    (hg : o.guard = none) (s x : Operand) (t : TypeId) (hop : o.op = Op.call { callee := Callee.builtin Builtin.append, args := #[s, x], argTypes := #[t, t] })
    {v xv v' : Value} {w' : World} (hs : a.eval s = v) (hx : a.eval x = xv) (hrun : (Builtin.append_ #[t, t] o.type #[v, xv]).run P w = .ok v' w') (hK : K (a.put o.dst v') w') :
    if Region.wanted o (yielded ops a.tmps) = true then Oper.wp P o a w K Q else E := by
  have hw : Region.wanted o (yielded ops a.tmps) = true := by simp [Region.wanted, hg]
  rw [if_pos hw]
  unfold Oper.wp
  simp [execOp, hop, resolve, invoke, builtin, hs, hx, hrun, Result.andThen]
  exact hK
theorem Tn.ext2 {w w1 w2 : World} {b : Nat} {ob : Option Nat} (h : Tn w w1 b ob) (E : Ext w1 w2) : Tn w w2 b ob := ⟨E.os.trans h.os, E.tape.trans h.tape, E.output.trans h.output, Nat.le_trans h.size E.size, fun k hk h1 h2 => by rw [E.block k (Nat.lt_of_lt_of_le hk h.size)]; exact h.block k hk h1 h2⟩
theorem NoNum.one {w : World} {B : Nat} {o : Option Addr} {n c : Nat} {T : TypeId} (h : w.heap[B]? = some (.cells #[.slice o n c] T (0, 0))) : NoNum w B := by
  intro i x hx
  rw [cell_of_row _ _ _ _ _ _ h] at hx
  match i, hx with
  | 0, hx => simp at hx
  | i + 1, hx => simp at hx
theorem Sl.tn {w w' : World} {b : Nat} {ob : Option Nat} {a : Option Addr} {n c : Nat} {xs : List Nat} (h : Sl w a n c xs) (t : Tn w w' b ob) (hb : NoNum w b) (ho : n = 0 ∨ ∀ o, ob = some o → blk a ≠ some o) : Sl w' a n c xs := by
  refine ⟨h.len, h.cap, h.big, h.bd, ?_⟩
  rcases h.at_ with h1 | ⟨g, off, rfl, hc⟩
  · exact .inl h1
  refine .inr ⟨g, off, rfl, fun i hi => ?_⟩
  have h0 := hc i hi
  have hlt := World.block_lt_of_cell? w _ h0
  have hne : some g ≠ ob := fun e => by
    rcases ho with h1 | h1
    · omega
    · exact h1 g e.symm rfl
  rw [World.cell?_of_block (t.block g hlt (fun e => hb (off + i) _ (e ▸ h0)) hne)]
  exact h0
theorem Tn.row {w w' : World} {b : Nat} {ob : Option Nat} (t : Tn w w' b ob) {B : Nat} {o : Obj} (h : w.heap[B]? = some o) (hb : B ≠ b) (ho : ∀ g, ob = some g → B ≠ g) : w'.heap[B]? = some o := by
  rw [t.block B (Array.getElem?_eq_some_iff.1 h).1 hb (fun e => ho B e.symm rfl)]; exact h
/-- A ledger's header is written anew. -/
theorem RLed.head {w : World} {lp : Nat} {o : Option Addr} {n c : Nat} {es : List Ent} {o0 : Option Addr} {n0 c0 : Nat} (h0 : w.heap[lp]? = some (.cells #[.slice o0 n0 c0] 30 (0, 0))) (h : RSt w o n c es) :
    Ln w (w.setCell ⟨lp, 0, none⟩ (.slice o n c)) ∧ ∃ gb, RLed (w.setCell ⟨lp, 0, none⟩ (.slice o n c)) lp gb o n c es ∧ gb = blk o := by
  have LN : Ln w (w.setCell ⟨lp, 0, none⟩ (.slice o n c)) := ln_setCell (drow_cell h0) (fun x => by simp)
  have hrow : (w.setCell ⟨lp, 0, none⟩ (.slice o n c)).heap[lp]? = some (.cells #[.slice o n c] 30 (0, 0)) := heap_setCell_same w lp 0 _ _ _ h0
  obtain ⟨h1, h2, h3⟩ := h
  rcases h3 with ⟨rfl, rfl, rfl⟩ | ⟨g, rfl, h4⟩
  · exact ⟨LN, none, ⟨hrow, h1, h2, .inl ⟨rfl, rfl, rfl, rfl⟩⟩, rfl⟩
  · refine ⟨LN, some g, ⟨hrow, h1, h2, .inr ⟨g, rfl, rfl, ?_⟩⟩, rfl⟩
    obtain ⟨cur, r1, r2, r3, r4, r5⟩ := h4.ents
    have hne : g ≠ lp := by
      intro e
      rw [e, h0] at r1
      have := Option.some.inj r1
      injection this with e1 e2 e3
      exact absurd e2 (by decide)
    exact RRow.of (by rw [heap_setCell_other _ _ _ _ (by exact hne)]; exact r1) r2 r3 (r4.limK LN.limK) r5
theorem RLed.sl {w : World} {lp : Nat} {gb : Option Nat} {o : Option Addr} {n c : Nat} {es : List Ent} (h : RLed w lp gb o n c es) : RSt w o n c es ∧ blk o = gb := by
  refine ⟨⟨h.len, h.big, ?_⟩, ?_⟩
  · rcases h.at_ with ⟨-, k1, k2, k3⟩ | ⟨g, -, k2, k3⟩
    · exact .inl ⟨k1, k2, k3⟩
    · exact .inr ⟨g, k2, k3⟩
  · rcases h.at_ with ⟨k0, k1, -, -⟩ | ⟨g, k1, k2, k3⟩
    · rw [k0, k1]; rfl
    · rw [k1, k2]; rfl
theorem RSt.ext {w w' : World} {o : Option Addr} {n c : Nat} {es : List Ent} (h : RSt w o n c es) (E : Ext w w') : RSt w' o n c es := by
  obtain ⟨h1, h2, h3⟩ := h
  refine ⟨h1, h2, ?_⟩
  rcases h3 with k | ⟨g, k1, k2⟩
  · exact .inl k
  · exact .inr ⟨g, k1, k2.lk E.lk⟩
/-- A ledger whose list has grown by what was appended. -/
theorem hold_new {w u wA : World} {lp : Nat} {gb : Option Nat} {o : Option Addr} {n c : Nat} {es : List Ent} (h : RLed w lp gb o n c es) (E : Ext w u) {g' m c' : Nat} {es' : List Ent} (hs : RSt wA (some ⟨g', 0, none⟩) m c' es') (L : LimK u wA)
    (hc : (o = some ⟨g', 0, none⟩ ∧ u.grownBy wA (some g')) ∨ (u.heap.size ≤ g' ∧ Ext u wA)) :
    wA.cell? ⟨lp, 0, none⟩ = some (.slice o n c) ∧ wA.frozen? ⟨lp, 0, none⟩ = false ∧
    RLed (wA.setCell ⟨lp, 0, none⟩ (.slice (some ⟨g', 0, none⟩) m c')) lp (some g') (some ⟨g', 0, none⟩) m c' es' ∧ Tn w (wA.setCell ⟨lp, 0, none⟩ (.slice (some ⟨g', 0, none⟩) m c')) lp gb ∧
    LimK w (wA.setCell ⟨lp, 0, none⟩ (.slice (some ⟨g', 0, none⟩) m c')) ∧ (gb = some g' ∨ w.heap.size ≤ g') := by
  have hu := h.lk E.lk
  have T1 : Tn u wA lp gb ∧ (gb = some g' ∨ w.heap.size ≤ g') := by
    rcases hc with ⟨k1, k2⟩ | ⟨k1, k2⟩
    · have hgb : gb = some g' := by rw [← h.sl.2, k1]; rfl
      exact ⟨⟨k2.os, k2.tape, k2.output, k2.size, fun k hk _ h2 => k2.block k hk (by rw [← hgb]; exact h2)⟩, .inl hgb⟩
    · exact ⟨Tn.ext k2 lp gb, .inr (Nat.le_trans E.size k1)⟩
  have hne : some lp ≠ gb := by
    intro e
    subst e
    obtain ⟨-, k⟩ := hu.sl
    rcases hu.at_ with ⟨k1, -⟩ | ⟨g, k1, k2, k3⟩
    · cases k1
    · cases k1
      obtain ⟨cur, r1, -⟩ := k3.ents
      have r2 := hu.row
      rw [r1] at r2
      have := Option.some.inj r2
      injection this with e1 e2 e3
      exact absurd e2 (by decide)
  have hrow : wA.heap[lp]? = some (.cells #[.slice o n c] 30 (0, 0)) := by
    rcases hc with ⟨k1, k2⟩ | ⟨k1, k2⟩
    · rw [k2.block lp hu.llt (by rw [show (some g' : Option Nat) = gb by rw [← h.sl.2, k1]; rfl]; exact hne)]; exact hu.row
    · exact rowE k2 hu.row
  obtain ⟨LN, gb', hl, hgb'⟩ := RLed.head hrow hs
  have hgb2 : gb' = some g' := hgb'
  subst hgb2
  refine ⟨drow_cell hrow, frozen_of_row _ _ _ _ _ hrow, hl, ?_, (E.lk.ln.limK.trans L).trans LN.limK, T1.2⟩
  exact ⟨T1.1.os.trans E.os, T1.1.tape.trans E.tape, T1.1.output.trans E.output, by simp; exact Nat.le_trans E.size T1.1.size, fun k hk h1 h2 => by
    rw [heap_setCell_other _ _ _ _ (by exact h1), T1.1.block k (Nat.lt_of_lt_of_le hk E.size) h1 h2, E.block k hk]⟩
/-- The cells of a stake just made. -/
theorem ents_new {w : World} {v d : Nat} (hv : v < B64) (hd : d < B64) {o1 : Option Addr} {z1 y1 : Nat} {o2 : Option Addr} {z2 y2 : Nat} (h : RA w o1 z1 y1 o2 z2 y2 (0, 1)) :
    Ents w (fun j => (entCells v d none 0 0 none 0 0 o1 z1 y1 o2 z2 y2 0 0)[j]?) [⟨v, d, ⟨(0, 0), (0, 1), 0, 0⟩⟩] := fun i e he => by
  match i, he with
  | 0, he =>
    cases he
    exact ⟨hv, hd, none, 0, 0, none, 0, 0, o1, z1, y1, o2, z2, y2, fun j hj => by simp, ⟨Sl.nil w, Sl.nil w, h.nu, h.de⟩⟩
  | i + 1, he => simp at he

/-- Ahead of the stake's being set: it is there. -/
def HldMid (w : World) (lp : Nat) (gb : Option Nat) (n : Nat) (es : List Ent) (v d : Nat) (iv : Value) (wx : World) : Prop :=
  ∃ (gb' : Option Nat) (o' : Option Addr) (n' c' : Nat) (es' : List Ent) (i : Nat) (e : Ent), iv = .int .i64 (i : Int) ∧ RLed wx lp gb' o' n' c' es' ∧ es'[i]? = some e ∧ (∀ q, rHold es v d q = es'.set i ⟨v, d, ⟨q, e.s.o, e.s.p, e.s.k⟩⟩) ∧ e.v = v ∧ e.d = d ∧
    (∀ g, gb' = some g → gb = some g ∨ w.heap.size ≤ g) ∧ Tn w wx lp gb ∧ LimK w wx ∧ n' ≤ n + 1
theorem mid_there {w : World} {lp : Nat} {gb : Option Nat} {o : Option Addr} {n c : Nat} {es : List Ent} (h : RLed w lp gb o n c es) {v d i : Nat} (hi : ixOf es v d = some i) : HldMid w lp gb n es v d (.int .i64 (i : Int)) w := by
  obtain ⟨h1, h2, h3⟩ := List.findIdx?_eq_some_iff_getElem.1 hi
  have h4 := isAt_iff.1 h2
  refine ⟨gb, o, n, c, es, i, es[i], rfl, h, List.getElem?_eq_getElem h1, fun q => ?_, h4.1, h4.2, fun g hg => .inl hg, Tn.refl _ _ _, LimK.refl _, by omega⟩
  unfold rHold
  rw [hi]
  simp only [List.getElem?_eq_getElem h1, Option.map_some, Option.getD_some]
theorem mid_new {w wx : World} {lp : Nat} {gb : Option Nat} {n g' c' : Nat} {es : List Ent} {v d : Nat} (hn : es.length = n) (hi : ixOf es v d = none) (h : RLed wx lp (some g') (some ⟨g', 0, none⟩) (n + 1) c' (es ++ [⟨v, d, ⟨(0, 0), (0, 1), 0, 0⟩⟩]))
    (hg : gb = some g' ∨ w.heap.size ≤ g') (t : Tn w wx lp gb) (L : LimK w wx) : HldMid w lp gb n es v d (.int .i64 (n : Int)) wx := by
  refine ⟨some g', _, n + 1, c', _, n, ⟨v, d, ⟨(0, 0), (0, 1), 0, 0⟩⟩, rfl, h, by rw [List.getElem?_append_right (by omega), hn]; simp, fun q => ?_, rfl, rfl, fun g e => by cases e; exact hg, t, L, Nat.le_refl _⟩
  unfold rHold
  rw [hi]
  simp only
  rw [List.set_append_right _ _ (by omega), hn]
  simp
/-- gleanref3.Of, whether or not the divisor is nought. -/
theorem frof_any {S : Nat} (X : Nat) : ∃ (er : Int) (q : Nat × Nat), ((er = 0 ∧ S ≠ 0 ∧ q = (rN X S, rD X S)) ∨ (er = 30 ∧ S = 0)) ∧
    ∀ (w : World) (a b : Option Addr) (m c k f : Nat) (xs ys : List Nat), Sl w a m c xs → Sl w b k f ys → m ≤ 1000000 → k ≤ 1000000 → val xs = X → val ys = S →
      Calls Tryz.prog 63 #[.slice a m c, .slice b k f] w (fun e w' => ∃ o1 z1 y1 o2 z2 y2, e = .returned (.tuple #[RatV o1 z1 y1 o2 z2 y2, .int .i64 er]) ∧ RA w' o1 z1 y1 o2 z2 y2 q ∧ Ext w w') := by
  by_cases hS : S = 0
  · refine ⟨30, (0, 0), .inr ⟨rfl, hS⟩, fun w a b m c k f xs ys hx hy hm hk ex ey => ?_⟩
    refine (frof_zero hy hk (by omega)).mono ?_
    rintro e w' ⟨o1, z1, y1, o2, z2, y2, rfl, h1, h2, h3, -, -⟩
    exact ⟨o1, z1, y1, o2, z2, y2, rfl, ⟨h1.sl, h2.sl⟩, h3⟩
  · refine ⟨0, (rN X S, rD X S), .inl ⟨rfl, hS, rfl⟩, fun w a b m c k f xs ys hx hy hm hk ex ey => ?_⟩
    refine (frof_as hx hy hm hk ex ey hS rfl).mono ?_
    rintro e w' ⟨o1, z1, y1, o2, z2, y2, rfl, h1, h2, h3, -, -⟩
    exact ⟨o1, z1, y1, o2, z2, y2, rfl, ⟨h1.sl, h2.sl⟩, h3⟩
/-- What Hold leaves. -/
def RHld (w : World) (lp : Nat) (gb : Option Nat) (n : Nat) (es' : List Ent) (e : Ending) (w' : World) : Prop :=
  e = .returned (.tuple #[]) ∧ ∃ (gb' : Option Nat) (o' : Option Addr) (n' c' : Nat), RLed w' lp gb' o' n' c' es' ∧ (∀ g, gb' = some g → gb = some g ∨ w.heap.size ≤ g) ∧ Tn w w' lp gb ∧ LimK w w' ∧ n' ≤ n + 1

set_option maxHeartbeats 8000000 in
set_option maxRecDepth 100000 in
theorem rlhold_calls {w : World} {lp : Nat} {gb : Option Nat} {o : Option Addr} {n c : Nat} {es : List Ent} (h : RLed w lp gb o n c es) (hn : n ≤ 1000) {v d t : Nat} (hv : v < B64) (hd : d < B64) (ht : t < B64)
    {a0 : Option Addr} {m0 c0 : Nat} {xs0 : List Nat} (hx : Sl w a0 m0 c0 xs0) (hm : m0 ≤ 1000) (hxg : m0 = 0 ∨ ∀ g, gb = some g → blk a0 ≠ some g) {e0 : Option Addr} {n0 f0 : Nat} {ys0 : List Nat} (hy : Sl w e0 n0 f0 ys0) (hn0 : n0 ≤ 1000) (hyg : n0 = 0 ∨ ∀ g, gb = some g → blk e0 ≠ some g) :
    Calls Tryz.prog 18 #[.pointer (some ⟨lp, 0, none⟩), .int .u64 (v : Int), .int .u64 (d : Int), DecV a0 m0 c0, DecV e0 n0 f0, .int .u64 (t : Int)] w (RHld w lp gb n (rHold es v d (rHoldQ (val xs0) (val ys0) t))) := by
  obtain ⟨X1, hX1⟩ : ∃ X, w.alloc (.cells #[.slice a0 m0 c0] 35) = X := ⟨_, rfl⟩
  obtain ⟨X2, hX2⟩ : ∃ X, X1.alloc (.cells #[.slice e0 n0 f0] 35) = X := ⟨_, rfl⟩
  have hsz1 : X1.heap.size = w.heap.size + 1 := by rw [← hX1, alloc_size]
  have E1 : Ext w X1 := by rw [← hX1]; exact (Ext.refl w).alloc _
  have E2 : Ext X1 X2 := by rw [← hX2]; exact (Ext.refl X1).alloc _
  have R1 : X2.heap[w.heap.size]? = some (.cells #[.slice a0 m0 c0] 35 (0, 0)) := rowE E2 (by rw [← hX1]; exact heap_alloc_new w _)
  have R2 : X2.heap[w.heap.size + 1]? = some (.cells #[.slice e0 n0 f0] 35 (0, 0)) := by rw [← hsz1, ← hX2]; exact heap_alloc_new X1 _
  have hX12 : (w.alloc (.cells #[.slice a0 m0 c0] 35)).alloc (.cells #[.slice e0 n0 f0] 35) = X2 := by rw [hX1]; exact hX2
  have hbig : (n : Int) ≤ 9223372036854775807 := by omega
  have HX := Lib.hid hX12; have HE := Lib.hid (E1.trans E2); have HR1 := Lib.hid R1; have HR2 := Lib.hid R2; have HL := Lib.hid (h.lk (E1.trans E2).lk); have HL0 := Lib.hid h; have HN := Lib.hid hn; have HV := Lib.hid hv; have HD := Lib.hid hd; have HT := Lib.hid ht
  have HSX := Lib.hid (hx.old (E1.trans E2)); have HM := Lib.hid hm; have HXG := Lib.hid hxg; have HSY := Lib.hid (hy.old (E1.trans E2)); have HN0 := Lib.hid hn0; have HYG := Lib.hid hyg
  have HC1 := Lib.hid (rlat_calls (h.lk (E1.trans E2).lk) (v := v) (d := d))
  clear hX1 hX2 hsz1 E1 E2 R1 R2 hX12 h hn hv hd ht hx hm hxg hy hn0 hyg
  go_enter Tryz.func18, Tryz.ntmps18
  go_wp2_with (rw [HX.out])
  refine HC1.out.mono ?_
  rintro e' w' ⟨rfl, rfl⟩
  clear HC1
  go_upto_if 20 with (fail)
  go_cut [12] from 15 to 60 (fun iv wx => HldMid X2 lp gb n es v d iv wx)
  case first =>
    cases hi : ixOf es v d with
    | some i =>
      have hnn : ¬ ((i : Int) < 0) := by omega
      have HF := Lib.hid (mid_there HL.out hi)
      simp only [show ixI (some i) = (i : Int) from rfl]
      clear hi
      go_wp2_with fail
      go_meet
      case rel => exact HF.out
    | none =>
      simp only [show ixI none = -1 from rfl]
      have HI := Lib.hid hi
      have k0 : X2.cell? ⟨lp, 0, none⟩ = some (.slice o n c) := drow_cell HL.out.row
      clear hi
      go_upto_region 4 with (fail)
      obtain ⟨u0, hu0⟩ : ∃ u, X2.drew = u := ⟨_, rfl⟩
      have HE0_ := Lib.hid (show Ext X2 u0 by rw [← hu0]; exact (Ext.refl _).drew)
      refine wp_region_held_drew (S := fun _ => True) (by kernel_rfl) trivial (fun hHeld => ?_)
      rw [hu0]
      clear hu0
      refine takeW (i := 0) (v := ?_) rfl (by kernel_rfl) (by kernel_rfl) (by kernel_rfl) (fun _ _ _ h => h) (Or.inl ⟨by rfl, ?_⟩) (by assumption) ?_
      rotate_left
      · (intro wz hSw; (try dsimp only at hSw); go_simp <;> with_reducible rfl)
      try simp only [Act.put, List.setIfInBounds_toArray, List.set_cons_zero, List.set_cons_succ]
      refine takeW (i := 1) (v := ?_) rfl (by kernel_rfl) (by kernel_rfl) (by kernel_rfl) (fun _ _ _ h => h) (Or.inl ⟨by rfl, ?_⟩) (by assumption) ?_
      rotate_left
      · (intro wz hSw; (try dsimp only at hSw); go_simp <;> with_reducible rfl)
      try simp only [Act.put, List.setIfInBounds_toArray, List.set_cons_zero, List.set_cons_succ]
      refine takeW (i := 2) (v := ?_) rfl (by kernel_rfl) (by kernel_rfl) (by kernel_rfl) (fun _ _ _ h => h) (Or.inl ⟨by rfl, ?_⟩) (by assumption) ?_
      rotate_left
      · (intro wz hSw; (try dsimp only at hSw); go_simp <;> with_reducible rfl)
      try simp only [Act.put, List.setIfInBounds_toArray, List.set_cons_zero, List.set_cons_succ]
      refine takeW (i := 3) (v := ?_) rfl (by kernel_rfl) (by kernel_rfl) (by kernel_rfl) (fun _ _ _ h => h) (Or.inl ⟨by rfl, ?_⟩) (by assumption) ?_
      rotate_left
      · (intro wz hSw; (try dsimp only at hSw); go_simp <;> with_reducible rfl)
      try simp only [Act.put, List.setIfInBounds_toArray, List.set_cons_zero, List.set_cons_succ]
      refine takeW (i := 5) (v := ?_) rfl (by kernel_rfl) (by kernel_rfl) (by kernel_rfl) (fun _ _ _ h => h) (Or.inl ⟨by rfl, ?_⟩) (by assumption) ?_
      rotate_left
      · (intro wz hSw; (try dsimp only at hSw); go_simp <;> with_reducible rfl)
      try simp only [Act.put, List.setIfInBounds_toArray, List.set_cons_zero, List.set_cons_succ]
      refine takeW (i := 6) (v := ?_) rfl (by kernel_rfl) (by kernel_rfl) (by kernel_rfl) (fun _ _ _ h => h) (Or.inl ⟨by rfl, ?_⟩) (by assumption) ?_
      rotate_left
      · (intro wz hSw; (try dsimp only at hSw); go_simp <;> with_reducible rfl)
      try simp only [Act.put, List.setIfInBounds_toArray, List.set_cons_zero, List.set_cons_succ]
      refine wpAnyH_ready (rs := [4, 7]) (by kernel_rfl) (by simp) ?_
      refine consW rfl (fun K hK => ?_) ?_
      · have y0 := HE0_.out.cell k0
        go_simp
        clear y0
        refine hK.out _ _ ?_ (fun hHeld => ?_)
        · trivial
        clear hK K
        try simp only [Act.put, List.setIfInBounds_toArray, List.set_cons_zero, List.set_cons_succ]
        refine wpAnyH_ready (rs := [7]) (by kernel_rfl) (by simp) ?_
        refine consW rfl (fun K hK => ?_) AllReadyH.nil
        go_simp
        go_at_call 61
        refine (rnothing_q u0).mono ?_
        rintro e' u1 ⟨o1, z1, y1, o2, z2, y2, rfl, p1, p2, hx⟩
        have HQ := Lib.hid (show RA u1 o1 z1 y1 o2 z2 y2 (0, 1) from ⟨p1.sl, p2.sl⟩); have HE1_ := Lib.hid (HE0_.out.trans hx)
        clear p1 p2 hx
        try go_wp2_with fail
        refine hK.out _ _ ?_ (fun hHeld => ?_)
        · trivial
        clear hK K
        try simp only [Act.put, List.setIfInBounds_toArray, List.set_cons_zero, List.set_cons_succ]
        refine takeW (i := 8) (v := ?_) rfl (by kernel_rfl) (by kernel_rfl) (by kernel_rfl) (fun _ _ _ h => h) (Or.inl ⟨by rfl, ?_⟩) (by assumption) ?_
        rotate_left
        · (intro wz hSw; (try dsimp only at hSw); go_simp <;> with_reducible rfl)
        try simp only [Act.put, List.setIfInBounds_toArray, List.set_cons_zero, List.set_cons_succ]
        refine wpAnyH_ready (rs := [9]) (by kernel_rfl) (by simp) ?_
        refine consW rfl (fun K hK => ?_) AllReadyH.nil
        obtain ⟨u2, hu⟩ : ∃ u, u1.alloc (.cells #[.int .u64 (v : Int), .int .u64 (d : Int), .slice none 0 0, .slice none 0 0, .slice o1 z1 y1, .slice o2 z2 y2, .int .i64 0, .int .i64 0] 81) = u := ⟨_, rfl⟩
        have HE2_ := Lib.hid (HE1_.out.trans (show Ext u1 u2 by rw [← hu]; exact (Ext.refl _).alloc _))
        have HQN := Lib.hid (HQ.out.old (show Ext u1 u2 by rw [← hu]; exact (Ext.refl _).alloc _))
        have HB := Lib.hid (show u2.heap[u1.heap.size]? = some (.cells #[.int .u64 (v : Int), .int .u64 (d : Int), .slice none 0 0, .slice none 0 0, .slice o1 z1 y1, .slice o2 z2 y2, .int .i64 0, .int .i64 0] 81 (0, 0)) by rw [← hu]; exact heap_alloc_new u1 _)
        have HU := Lib.hid hu; clear hu
        go_simp
        rw [HU.out]
        clear HU
        refine hK.out _ _ ?_ (fun hHeld => ?_)
        · trivial
        clear hK K
        try simp only [Act.put, List.setIfInBounds_toArray, List.set_cons_zero, List.set_cons_succ]
        refine wpAnyH_ready (rs := [10]) (by kernel_rfl) (by simp) ?_
        refine consW rfl (fun K hK => ?_) AllReadyH.nil
        obtain ⟨g', c', wA, hrun, hrsl, hlim, hglt, hcase⟩ := app_run (HL.out.sl.1.ext HE2_.out) (ad := ⟨u1.heap.size, 0, none⟩) (m := 1) (c2 := 1) (news := entCells v d none 0 0 none 0 0 o1 z1 y1 o2 z2 y2 0 0) (xs := [⟨v, d, ⟨(0, 0), (0, 1), 0, 0⟩⟩]) rfl rfl (World.news_of_block HB.out) (ents_new HV.out HD.out HQN.out) (by decide) (by have := HN.out; omega) 28
        have HNW := Lib.hid (hold_new HL.out HE2_.out hrsl hlim hcase)
        have HRUN := Lib.hid hrun; clear hrun hrsl hlim hglt hcase
        refine step_append_run rfl _ _ _ rfl (by rfl) (by rfl) HRUN.out ?_
        refine hK.out _ _ ?_ (fun hHeld => ?_)
        · trivial
        clear hK K
        try simp only [Act.put, List.setIfInBounds_toArray, List.set_cons_zero, List.set_cons_succ]
        refine takeW (i := 11) (v := ?_) rfl (by kernel_rfl) (by kernel_rfl) (by kernel_rfl) (fun _ _ _ h => h) (Or.inl ⟨by rfl, ?_⟩) (by assumption) ?_
        rotate_left
        · (intro wz hSw; (try dsimp only at hSw); go_simp <;> with_reducible rfl)
        try simp only [Act.put, List.setIfInBounds_toArray, List.set_cons_zero, List.set_cons_succ]
        refine takeW (i := 12) (v := ?_) rfl (by kernel_rfl) (by kernel_rfl) (by kernel_rfl) (fun _ _ _ h => h) (Or.inl ⟨by rfl, ?_⟩) (by assumption) ?_
        rotate_left
        · (intro wz hSw; (try dsimp only at hSw); go_simp <;> with_reducible rfl)
        try simp only [Act.put, List.setIfInBounds_toArray, List.set_cons_zero, List.set_cons_succ]
        refine wpAnyH_ready (rs := [13]) (by kernel_rfl) (by simp) ?_
        refine consW rfl (fun K hK => ?_) AllReadyH.nil
        obtain ⟨y0, y1, -⟩ := HNW.out
        go_simp
        clear y0 y1
        refine hK.out _ _ ?_ (fun hHeld => ?_)
        · trivial
        clear hK K
        try simp only [Act.put, List.setIfInBounds_toArray, List.set_cons_zero, List.set_cons_succ]
        refine wpAnyH_done (by kernel_rfl) ?_ _
        go_wp2_with fail
        go_meet
        case rel => obtain ⟨-, -, z1, z2, z3, z4⟩ := HNW.out; exact mid_new HL.out.len HI.out z1 z4 z2 z3
      refine consW rfl (fun K hK => ?_) AllReadyH.nil
      go_simp
      go_at_call 61
      refine (rnothing_q u0).mono ?_
      rintro e' u1 ⟨o1, z1, y1, o2, z2, y2, rfl, p1, p2, hx⟩
      have HQ := Lib.hid (show RA u1 o1 z1 y1 o2 z2 y2 (0, 1) from ⟨p1.sl, p2.sl⟩); have HE1_ := Lib.hid (HE0_.out.trans hx)
      clear p1 p2 hx
      try go_wp2_with fail
      refine hK.out _ _ ?_ (fun hHeld => ?_)
      · trivial
      clear hK K
      try simp only [Act.put, List.setIfInBounds_toArray, List.set_cons_zero, List.set_cons_succ]
      refine takeW (i := 8) (v := ?_) rfl (by kernel_rfl) (by kernel_rfl) (by kernel_rfl) (fun _ _ _ h => h) (Or.inl ⟨by rfl, ?_⟩) (by assumption) ?_
      rotate_left
      · (intro wz hSw; (try dsimp only at hSw); go_simp <;> with_reducible rfl)
      try simp only [Act.put, List.setIfInBounds_toArray, List.set_cons_zero, List.set_cons_succ]
      refine wpAnyH_ready (rs := [4, 9]) (by kernel_rfl) (by simp) ?_
      refine consW rfl (fun K hK => ?_) ?_
      · have y0 := HE1_.out.cell k0
        go_simp
        clear y0
        refine hK.out _ _ ?_ (fun hHeld => ?_)
        · trivial
        clear hK K
        try simp only [Act.put, List.setIfInBounds_toArray, List.set_cons_zero, List.set_cons_succ]
        refine wpAnyH_ready (rs := [9]) (by kernel_rfl) (by simp) ?_
        refine consW rfl (fun K hK => ?_) AllReadyH.nil
        obtain ⟨u2, hu⟩ : ∃ u, u1.alloc (.cells #[.int .u64 (v : Int), .int .u64 (d : Int), .slice none 0 0, .slice none 0 0, .slice o1 z1 y1, .slice o2 z2 y2, .int .i64 0, .int .i64 0] 81) = u := ⟨_, rfl⟩
        have HE2_ := Lib.hid (HE1_.out.trans (show Ext u1 u2 by rw [← hu]; exact (Ext.refl _).alloc _))
        have HQN := Lib.hid (HQ.out.old (show Ext u1 u2 by rw [← hu]; exact (Ext.refl _).alloc _))
        have HB := Lib.hid (show u2.heap[u1.heap.size]? = some (.cells #[.int .u64 (v : Int), .int .u64 (d : Int), .slice none 0 0, .slice none 0 0, .slice o1 z1 y1, .slice o2 z2 y2, .int .i64 0, .int .i64 0] 81 (0, 0)) by rw [← hu]; exact heap_alloc_new u1 _)
        have HU := Lib.hid hu; clear hu
        go_simp
        rw [HU.out]
        clear HU
        refine hK.out _ _ ?_ (fun hHeld => ?_)
        · trivial
        clear hK K
        try simp only [Act.put, List.setIfInBounds_toArray, List.set_cons_zero, List.set_cons_succ]
        refine wpAnyH_ready (rs := [10]) (by kernel_rfl) (by simp) ?_
        refine consW rfl (fun K hK => ?_) AllReadyH.nil
        obtain ⟨g', c', wA, hrun, hrsl, hlim, hglt, hcase⟩ := app_run (HL.out.sl.1.ext HE2_.out) (ad := ⟨u1.heap.size, 0, none⟩) (m := 1) (c2 := 1) (news := entCells v d none 0 0 none 0 0 o1 z1 y1 o2 z2 y2 0 0) (xs := [⟨v, d, ⟨(0, 0), (0, 1), 0, 0⟩⟩]) rfl rfl (World.news_of_block HB.out) (ents_new HV.out HD.out HQN.out) (by decide) (by have := HN.out; omega) 28
        have HNW := Lib.hid (hold_new HL.out HE2_.out hrsl hlim hcase)
        have HRUN := Lib.hid hrun; clear hrun hrsl hlim hglt hcase
        refine step_append_run rfl _ _ _ rfl (by rfl) (by rfl) HRUN.out ?_
        refine hK.out _ _ ?_ (fun hHeld => ?_)
        · trivial
        clear hK K
        try simp only [Act.put, List.setIfInBounds_toArray, List.set_cons_zero, List.set_cons_succ]
        refine takeW (i := 11) (v := ?_) rfl (by kernel_rfl) (by kernel_rfl) (by kernel_rfl) (fun _ _ _ h => h) (Or.inl ⟨by rfl, ?_⟩) (by assumption) ?_
        rotate_left
        · (intro wz hSw; (try dsimp only at hSw); go_simp <;> with_reducible rfl)
        try simp only [Act.put, List.setIfInBounds_toArray, List.set_cons_zero, List.set_cons_succ]
        refine takeW (i := 12) (v := ?_) rfl (by kernel_rfl) (by kernel_rfl) (by kernel_rfl) (fun _ _ _ h => h) (Or.inl ⟨by rfl, ?_⟩) (by assumption) ?_
        rotate_left
        · (intro wz hSw; (try dsimp only at hSw); go_simp <;> with_reducible rfl)
        try simp only [Act.put, List.setIfInBounds_toArray, List.set_cons_zero, List.set_cons_succ]
        refine wpAnyH_ready (rs := [13]) (by kernel_rfl) (by simp) ?_
        refine consW rfl (fun K hK => ?_) AllReadyH.nil
        obtain ⟨y0, y1, -⟩ := HNW.out
        go_simp
        clear y0 y1
        refine hK.out _ _ ?_ (fun hHeld => ?_)
        · trivial
        clear hK K
        try simp only [Act.put, List.setIfInBounds_toArray, List.set_cons_zero, List.set_cons_succ]
        refine wpAnyH_done (by kernel_rfl) ?_ _
        go_wp2_with fail
        go_meet
        case rel => obtain ⟨-, -, z1, z2, z3, z4⟩ := HNW.out; exact mid_new HL.out.len HI.out z1 z4 z2 z3
      refine consW rfl (fun K hK => ?_) AllReadyH.nil
      obtain ⟨u2, hu⟩ : ∃ u, u1.alloc (.cells #[.int .u64 (v : Int), .int .u64 (d : Int), .slice none 0 0, .slice none 0 0, .slice o1 z1 y1, .slice o2 z2 y2, .int .i64 0, .int .i64 0] 81) = u := ⟨_, rfl⟩
      have HE2_ := Lib.hid (HE1_.out.trans (show Ext u1 u2 by rw [← hu]; exact (Ext.refl _).alloc _))
      have HQN := Lib.hid (HQ.out.old (show Ext u1 u2 by rw [← hu]; exact (Ext.refl _).alloc _))
      have HB := Lib.hid (show u2.heap[u1.heap.size]? = some (.cells #[.int .u64 (v : Int), .int .u64 (d : Int), .slice none 0 0, .slice none 0 0, .slice o1 z1 y1, .slice o2 z2 y2, .int .i64 0, .int .i64 0] 81 (0, 0)) by rw [← hu]; exact heap_alloc_new u1 _)
      have HU := Lib.hid hu; clear hu
      go_simp
      rw [HU.out]
      clear HU
      refine hK.out _ _ ?_ (fun hHeld => ?_)
      · trivial
      clear hK K
      try simp only [Act.put, List.setIfInBounds_toArray, List.set_cons_zero, List.set_cons_succ]
      refine wpAnyH_ready (rs := [4]) (by kernel_rfl) (by simp) ?_
      refine consW rfl (fun K hK => ?_) AllReadyH.nil
      have y0 := HE2_.out.cell k0
      go_simp
      clear y0
      refine hK.out _ _ ?_ (fun hHeld => ?_)
      · trivial
      clear hK K
      try simp only [Act.put, List.setIfInBounds_toArray, List.set_cons_zero, List.set_cons_succ]
      refine wpAnyH_ready (rs := [10]) (by kernel_rfl) (by simp) ?_
      refine consW rfl (fun K hK => ?_) AllReadyH.nil
      obtain ⟨g', c', wA, hrun, hrsl, hlim, hglt, hcase⟩ := app_run (HL.out.sl.1.ext HE2_.out) (ad := ⟨u1.heap.size, 0, none⟩) (m := 1) (c2 := 1) (news := entCells v d none 0 0 none 0 0 o1 z1 y1 o2 z2 y2 0 0) (xs := [⟨v, d, ⟨(0, 0), (0, 1), 0, 0⟩⟩]) rfl rfl (World.news_of_block HB.out) (ents_new HV.out HD.out HQN.out) (by decide) (by have := HN.out; omega) 28
      have HNW := Lib.hid (hold_new HL.out HE2_.out hrsl hlim hcase)
      have HRUN := Lib.hid hrun; clear hrun hrsl hlim hglt hcase
      refine step_append_run rfl _ _ _ rfl (by rfl) (by rfl) HRUN.out ?_
      refine hK.out _ _ ?_ (fun hHeld => ?_)
      · trivial
      clear hK K
      try simp only [Act.put, List.setIfInBounds_toArray, List.set_cons_zero, List.set_cons_succ]
      refine takeW (i := 11) (v := ?_) rfl (by kernel_rfl) (by kernel_rfl) (by kernel_rfl) (fun _ _ _ h => h) (Or.inl ⟨by rfl, ?_⟩) (by assumption) ?_
      rotate_left
      · (intro wz hSw; (try dsimp only at hSw); go_simp <;> with_reducible rfl)
      try simp only [Act.put, List.setIfInBounds_toArray, List.set_cons_zero, List.set_cons_succ]
      refine takeW (i := 12) (v := ?_) rfl (by kernel_rfl) (by kernel_rfl) (by kernel_rfl) (fun _ _ _ h => h) (Or.inl ⟨by rfl, ?_⟩) (by assumption) ?_
      rotate_left
      · (intro wz hSw; (try dsimp only at hSw); go_simp <;> with_reducible rfl)
      try simp only [Act.put, List.setIfInBounds_toArray, List.set_cons_zero, List.set_cons_succ]
      refine wpAnyH_ready (rs := [13]) (by kernel_rfl) (by simp) ?_
      refine consW rfl (fun K hK => ?_) AllReadyH.nil
      obtain ⟨y0, y1, -⟩ := HNW.out
      go_simp
      clear y0 y1
      refine hK.out _ _ ?_ (fun hHeld => ?_)
      · trivial
      clear hK K
      try simp only [Act.put, List.setIfInBounds_toArray, List.set_cons_zero, List.set_cons_succ]
      refine wpAnyH_done (by kernel_rfl) ?_ _
      go_wp2_with fail
      go_meet
      case rel => obtain ⟨-, -, z1, z2, z3, z4⟩ := HNW.out; exact mid_new HL.out.len HI.out z1 z4 z2 z3
  case rest =>
    revert wc; intro wb hcut
    obtain ⟨gb', o', n', c', es', i, e, rfl, hled, hie, hhold, hev, hed, hgb, htn, hlim, hnn⟩ := hcut
    have hne2 : ∀ g, gb = some g → g < w.heap.size := HL0.out.glt'
    have hlpw := HL0.out.llt
    have HB1 := Lib.hid (htn.row HR1.out (by omega) (fun g hg => by have := hne2 g hg; omega))
    have HB2 := Lib.hid (htn.row HR2.out (by omega) (fun g hg => by have := hne2 g hg; omega))
    have HXC := Lib.hid (HSX.out.tn htn (NoNum.one HL.out.row) HXG.out); have HYC := Lib.hid (HSY.out.tn htn (NoNum.one HL.out.row) HYG.out)
    have HLD := Lib.hid hled; have HIE := Lib.hid hie; have HH := Lib.hid hhold; have HEV := Lib.hid (And.intro hev hed); have HGB := Lib.hid hgb; have HTN := Lib.hid htn; have HLM := Lib.hid hlim; have HNN := Lib.hid hnn; have HWC := Lib.hid (Nat.le_trans HE.out.size htn.size)
    have HB1S := Lib.hid (show w.heap.size + 1 < X2.heap.size from (Array.getElem?_eq_some_iff.1 HR2.out).1)
    obtain ⟨er, q, hcase, hC⟩ := frof_any (S := val ys0) (val xs0 * t)
    have HCS := Lib.hid hcase; have HCC := Lib.hid hC
    have HS := Lib.hid (fun w' (F : Ext wb w') => (show w'.cell? ⟨w.heap.size, 0, none⟩ = some (.slice a0 m0 c0) ∧ w'.cell? ⟨w.heap.size + 1, 0, none⟩ = some (.slice e0 n0 f0) from ⟨F.cell (drow_cell HB1.out), F.cell (drow_cell HB2.out)⟩))
    clear hled hie hhold hev hed hgb htn hlim hnn hcase hC hne2 hlpw
    go_upto_region 5 with (fail)
    go_cut [13, 14] from 39 to 49 (fun v13 v14 wx => ∃ (B : Nat) (o1 : Option Addr) (z1 y1 : Nat) (o2 : Option Addr) (z2 y2 : Nat), v13 = .pointer (some ⟨B, 0, none⟩) ∧ v14 = .int .i64 er ∧ wx.heap[B]? = some (.cells #[.slice o1 z1 y1, .slice o2 z2 y2] 40 (0, 0)) ∧ RA wx o1 z1 y1 o2 z2 y2 q ∧ Ext wb wx ∧ wb.heap.size ≤ B)
    case first =>
      obtain ⟨u0, hu0⟩ : ∃ u, wb.drew = u := ⟨_, rfl⟩
      have HE0_ := Lib.hid (show Ext wb u0 by rw [← hu0]; exact (Ext.refl _).drew)
      refine wp_region_held_drew (S := fun w' => w'.cell? ⟨w.heap.size, 0, none⟩ = some (.slice a0 m0 c0) ∧ w'.cell? ⟨w.heap.size + 1, 0, none⟩ = some (.slice e0 n0 f0)) (by kernel_rfl) (HS.out _ (Ext.refl _).drew) (fun hHeld => ?_)
      rw [hu0] at hHeld ⊢
      clear hu0
      refine takeW (i := 0) (v := ?_) rfl (by kernel_rfl) (by kernel_rfl) (by kernel_rfl) (fun _ _ _ h => h) (Or.inl ⟨by rfl, ?_⟩) (by assumption) ?_
      rotate_left
      · (intro wz hSw; (try dsimp only at hSw); go_simp <;> with_reducible rfl)
      try simp only [Act.put, List.setIfInBounds_toArray, List.set_cons_zero, List.set_cons_succ]
      refine takeW (i := 1) (v := ?_) rfl (by kernel_rfl) (by kernel_rfl) (by kernel_rfl) (fun _ _ _ h => h) (Or.inl ⟨by rfl, ?_⟩) (by assumption) ?_
      rotate_left
      · (intro wz hSw; (try dsimp only at hSw); go_simp <;> with_reducible rfl)
      try simp only [Act.put, List.setIfInBounds_toArray, List.set_cons_zero, List.set_cons_succ]
      refine takeW (i := 2) (v := ?_) rfl (by kernel_rfl) (by kernel_rfl) (by kernel_rfl) (fun _ _ _ h => h) (Or.inl ⟨by rfl, ?_⟩) (by assumption) ?_
      rotate_left
      · (intro wz hSw; (try dsimp only at hSw); go_simp <;> with_reducible rfl)
      try simp only [Act.put, List.setIfInBounds_toArray, List.set_cons_zero, List.set_cons_succ]
      refine takeW (i := 5) (v := ?_) rfl (by kernel_rfl) (by kernel_rfl) (by kernel_rfl) (fun _ _ _ h => h) (Or.inl ⟨by rfl, ?_⟩) (by assumption) ?_
      rotate_left
      · (intro wz hSw; (try dsimp only at hSw); go_simp <;> with_reducible rfl)
      try simp only [Act.put, List.setIfInBounds_toArray, List.set_cons_zero, List.set_cons_succ]
      refine takeW (i := 6) (v := ?_) rfl (by kernel_rfl) (by kernel_rfl) (by kernel_rfl) (fun _ _ _ h => h) (Or.inl ⟨by rfl, ?_⟩) (by assumption) ?_
      rotate_left
      · (intro wz hSw; (try dsimp only at hSw); go_simp <;> with_reducible rfl)
      try simp only [Act.put, List.setIfInBounds_toArray, List.set_cons_zero, List.set_cons_succ]
      refine wpAnyH_ready (rs := [3, 11]) (by kernel_rfl) (by simp) ?_
      refine consW rfl (fun K hK => ?_) ?_
      · go_simp
        go_at_call 65
        refine (fof_calls t HT.out u0).mono ?_
        rintro e' u1 ⟨p1, r1, s1, rfl, h1, hx, l1⟩
        have HX1_ := Lib.hid hx; have HE1_ := Lib.hid (HE0_.out.trans hx); have HO1 := Lib.hid h1.sl; have HN1 := Lib.hid l1; clear h1 hx l1
        try go_wp2_with fail
        refine hK.out _ _ ?_ (fun hHeld => ?_)
        · (try dsimp only); exact (HS.out _ HE1_.out)
        clear hK K
        try simp only [Act.put, List.setIfInBounds_toArray, List.set_cons_zero, List.set_cons_succ]
        refine wpAnyH_ready (rs := [4, 11]) (by kernel_rfl) (by simp) ?_
        refine consW rfl (fun K hK => ?_) ?_
        · go_simp
          go_at_call 64
          refine (fmul_calls (HXC.out.old HE1_.out) (HO1.out.old (Ext.refl _)) (by have := HM.out; omega) (by have := HN1.out; omega)).mono ?_
          rintro e' u2 ⟨p2, r2, s2, rfl, h2, hx, l2⟩
          have HX2_ := Lib.hid hx; have HE2_ := Lib.hid (HE1_.out.trans hx); have HO2 := Lib.hid h2.sl; have HN2 := Lib.hid l2; clear h2 hx l2
          try go_wp2_with fail
          refine hK.out _ _ ?_ (fun hHeld => ?_)
          · (try dsimp only); exact (HS.out _ HE2_.out)
          clear hK K
          try simp only [Act.put, List.setIfInBounds_toArray, List.set_cons_zero, List.set_cons_succ]
          refine wpAnyH_ready (rs := [7, 11]) (by kernel_rfl) (by simp) ?_
          refine consW rfl (fun K hK => ?_) ?_
          · go_simp
            go_at_call 63
            refine (HCC.out _ _ _ _ _ _ _ _ _ (HO2.out.old (Ext.refl _)) (HYC.out.old HE2_.out) (by have := HN2.out; have := HN1.out; have := HM.out; omega) (by have := HN0.out; omega) (by rw [val_lim, val_lim]) rfl).mono ?_
            rintro e' u3 ⟨o1, z1, y1, o2, z2, y2, rfl, h3, hx⟩
            have HX3_ := Lib.hid hx; have HE3_ := Lib.hid (HE2_.out.trans hx); have HQ := Lib.hid h3; clear h3 hx
            try go_wp2_with fail
            refine hK.out _ _ ?_ (fun hHeld => ?_)
            · (try dsimp only); exact (HS.out _ HE3_.out)
            clear hK K
            try simp only [Act.put, List.setIfInBounds_toArray, List.set_cons_zero, List.set_cons_succ]
            refine takeW (i := 8) (v := ?_) rfl (by kernel_rfl) (by kernel_rfl) (by kernel_rfl) (fun _ _ _ h => h) (Or.inl ⟨by rfl, ?_⟩) (by assumption) ?_
            rotate_left
            · (intro wz hSw; (try dsimp only at hSw); go_simp <;> with_reducible rfl)
            try simp only [Act.put, List.setIfInBounds_toArray, List.set_cons_zero, List.set_cons_succ]
            refine takeW (i := 9) (v := ?_) rfl (by kernel_rfl) (by kernel_rfl) (by kernel_rfl) (fun _ _ _ h => h) (Or.inl ⟨by rfl, ?_⟩) (by assumption) ?_
            rotate_left
            · (intro wz hSw; (try dsimp only at hSw); go_simp <;> with_reducible rfl)
            try simp only [Act.put, List.setIfInBounds_toArray, List.set_cons_zero, List.set_cons_succ]
            refine takeW (i := 10) (v := ?_) rfl (by kernel_rfl) (by kernel_rfl) (by kernel_rfl) (fun _ _ _ h => h) (Or.inl ⟨by rfl, ?_⟩) (by assumption) ?_
            rotate_left
            · (intro wz hSw; (try dsimp only at hSw); go_simp <;> with_reducible rfl)
            try simp only [Act.put, List.setIfInBounds_toArray, List.set_cons_zero, List.set_cons_succ]
            refine wpAnyH_ready (rs := [11]) (by kernel_rfl) (by simp) ?_
            refine consW rfl (fun K hK => ?_) AllReadyH.nil
            obtain ⟨u4, hu⟩ : ∃ u, u3.alloc (.cells #[.slice none 0 0, .slice none 0 0] 40) = u := ⟨_, rfl⟩
            have HX4_ := Lib.hid (show Ext u3 u4 by rw [← hu]; exact (Ext.refl _).alloc _); have HE4_ := Lib.hid (HE3_.out.trans HX4_.out)
            have HB := Lib.hid (show u4.heap[u3.heap.size]? = some (.cells #[.slice none 0 0, .slice none 0 0] 40 (0, 0)) by rw [← hu]; exact heap_alloc_new u3 _)
            have HU := Lib.hid hu; clear hu
            go_simp
            rw [HU.out]
            clear HU
            refine hK.out _ _ ?_ (fun hHeld => ?_)
            · (try dsimp only); exact (HS.out _ HE4_.out)
            clear hK K
            try simp only [Act.put, List.setIfInBounds_toArray, List.set_cons_zero, List.set_cons_succ]
            refine wpAnyH_ready (rs := [12]) (by kernel_rfl) (by simp) ?_
            refine consW rfl (fun K hK => ?_) AllReadyH.nil
            have HBR := Lib.hid (rowE (Ext.refl _) HB.out)
            obtain ⟨g1, g2, g3, g4⟩ := row2_cells HBR.out
            have HBS := Lib.hid (show wb.heap.size ≤ u3.heap.size from HE3_.out.size)
            go_simp
            clear g1 g2 g3 g4
            refine hK.out _ _ ?_ (fun hHeld => ?_)
            · (try dsimp only); exact (HS.out _ (set2_ext HE4_.out HBS.out (.slice o1 z1 y1) (.slice o2 z2 y2)))
            clear hK K
            try simp only [Act.put, List.setIfInBounds_toArray, List.set_cons_zero, List.set_cons_succ]
            refine takeW (i := 13) (v := ?_) rfl (by kernel_rfl) (by kernel_rfl) (by kernel_rfl) (fun _ _ _ h => h) (Or.inl ⟨by rfl, ?_⟩) (by assumption) ?_
            rotate_left
            · (intro wz hSw; (try dsimp only at hSw); go_simp <;> with_reducible rfl)
            try simp only [Act.put, List.setIfInBounds_toArray, List.set_cons_zero, List.set_cons_succ]
            refine wpAnyH_done (by kernel_rfl) ?_ _
            go_wp2_with fail
            go_meet
            case rel => exact ⟨u3.heap.size, o1, z1, y1, o2, z2, y2, rfl, rfl, set2_row HBR.out _ _, (HQ.out.old HX4_.out).ln (((Tn.cell1 (xb := u3.heap.size) (i := 0) (Ext.refl _) (.slice o1 z1 y1) none).cell2 (i := 1) (.slice o2 z2 y2)).ln (noNum2 HBR.out) (fun o h => by cases h)), set2_ext HE4_.out HBS.out (.slice o1 z1 y1) (.slice o2 z2 y2), HBS.out⟩
          refine consW rfl (fun K hK => ?_) AllReadyH.nil
          obtain ⟨u3, hu⟩ : ∃ u, u2.alloc (.cells #[.slice none 0 0, .slice none 0 0] 40) = u := ⟨_, rfl⟩
          have HX3_ := Lib.hid (show Ext u2 u3 by rw [← hu]; exact (Ext.refl _).alloc _); have HE3_ := Lib.hid (HE2_.out.trans HX3_.out)
          have HB := Lib.hid (show u3.heap[u2.heap.size]? = some (.cells #[.slice none 0 0, .slice none 0 0] 40 (0, 0)) by rw [← hu]; exact heap_alloc_new u2 _)
          have HU := Lib.hid hu; clear hu
          go_simp
          rw [HU.out]
          clear HU
          refine hK.out _ _ ?_ (fun hHeld => ?_)
          · (try dsimp only); exact (HS.out _ HE3_.out)
          clear hK K
          try simp only [Act.put, List.setIfInBounds_toArray, List.set_cons_zero, List.set_cons_succ]
          refine wpAnyH_ready (rs := [7]) (by kernel_rfl) (by simp) ?_
          refine consW rfl (fun K hK => ?_) AllReadyH.nil
          go_simp
          go_at_call 63
          refine (HCC.out _ _ _ _ _ _ _ _ _ (HO2.out.old HX3_.out) (HYC.out.old HE3_.out) (by have := HN2.out; have := HN1.out; have := HM.out; omega) (by have := HN0.out; omega) (by rw [val_lim, val_lim]) rfl).mono ?_
          rintro e' u4 ⟨o1, z1, y1, o2, z2, y2, rfl, h3, hx⟩
          have HX4_ := Lib.hid hx; have HE4_ := Lib.hid (HE3_.out.trans hx); have HQ := Lib.hid h3; clear h3 hx
          try go_wp2_with fail
          refine hK.out _ _ ?_ (fun hHeld => ?_)
          · (try dsimp only); exact (HS.out _ HE4_.out)
          clear hK K
          try simp only [Act.put, List.setIfInBounds_toArray, List.set_cons_zero, List.set_cons_succ]
          refine takeW (i := 8) (v := ?_) rfl (by kernel_rfl) (by kernel_rfl) (by kernel_rfl) (fun _ _ _ h => h) (Or.inl ⟨by rfl, ?_⟩) (by assumption) ?_
          rotate_left
          · (intro wz hSw; (try dsimp only at hSw); go_simp <;> with_reducible rfl)
          try simp only [Act.put, List.setIfInBounds_toArray, List.set_cons_zero, List.set_cons_succ]
          refine takeW (i := 9) (v := ?_) rfl (by kernel_rfl) (by kernel_rfl) (by kernel_rfl) (fun _ _ _ h => h) (Or.inl ⟨by rfl, ?_⟩) (by assumption) ?_
          rotate_left
          · (intro wz hSw; (try dsimp only at hSw); go_simp <;> with_reducible rfl)
          try simp only [Act.put, List.setIfInBounds_toArray, List.set_cons_zero, List.set_cons_succ]
          refine takeW (i := 10) (v := ?_) rfl (by kernel_rfl) (by kernel_rfl) (by kernel_rfl) (fun _ _ _ h => h) (Or.inl ⟨by rfl, ?_⟩) (by assumption) ?_
          rotate_left
          · (intro wz hSw; (try dsimp only at hSw); go_simp <;> with_reducible rfl)
          try simp only [Act.put, List.setIfInBounds_toArray, List.set_cons_zero, List.set_cons_succ]
          refine wpAnyH_ready (rs := [12]) (by kernel_rfl) (by simp) ?_
          refine consW rfl (fun K hK => ?_) AllReadyH.nil
          have HBR := Lib.hid (rowE HX4_.out HB.out)
          obtain ⟨g1, g2, g3, g4⟩ := row2_cells HBR.out
          have HBS := Lib.hid (show wb.heap.size ≤ u2.heap.size from HE2_.out.size)
          go_simp
          clear g1 g2 g3 g4
          refine hK.out _ _ ?_ (fun hHeld => ?_)
          · (try dsimp only); exact (HS.out _ (set2_ext HE4_.out HBS.out (.slice o1 z1 y1) (.slice o2 z2 y2)))
          clear hK K
          try simp only [Act.put, List.setIfInBounds_toArray, List.set_cons_zero, List.set_cons_succ]
          refine takeW (i := 13) (v := ?_) rfl (by kernel_rfl) (by kernel_rfl) (by kernel_rfl) (fun _ _ _ h => h) (Or.inl ⟨by rfl, ?_⟩) (by assumption) ?_
          rotate_left
          · (intro wz hSw; (try dsimp only at hSw); go_simp <;> with_reducible rfl)
          try simp only [Act.put, List.setIfInBounds_toArray, List.set_cons_zero, List.set_cons_succ]
          refine wpAnyH_done (by kernel_rfl) ?_ _
          go_wp2_with fail
          go_meet
          case rel => exact ⟨u2.heap.size, o1, z1, y1, o2, z2, y2, rfl, rfl, set2_row HBR.out _ _, (HQ.out.old (Ext.refl _)).ln (((Tn.cell1 (xb := u2.heap.size) (i := 0) (Ext.refl _) (.slice o1 z1 y1) none).cell2 (i := 1) (.slice o2 z2 y2)).ln (noNum2 HBR.out) (fun o h => by cases h)), set2_ext HE4_.out HBS.out (.slice o1 z1 y1) (.slice o2 z2 y2), HBS.out⟩
        refine consW rfl (fun K hK => ?_) AllReadyH.nil
        obtain ⟨u2, hu⟩ : ∃ u, u1.alloc (.cells #[.slice none 0 0, .slice none 0 0] 40) = u := ⟨_, rfl⟩
        have HX2_ := Lib.hid (show Ext u1 u2 by rw [← hu]; exact (Ext.refl _).alloc _); have HE2_ := Lib.hid (HE1_.out.trans HX2_.out)
        have HB := Lib.hid (show u2.heap[u1.heap.size]? = some (.cells #[.slice none 0 0, .slice none 0 0] 40 (0, 0)) by rw [← hu]; exact heap_alloc_new u1 _)
        have HU := Lib.hid hu; clear hu
        go_simp
        rw [HU.out]
        clear HU
        refine hK.out _ _ ?_ (fun hHeld => ?_)
        · (try dsimp only); exact (HS.out _ HE2_.out)
        clear hK K
        try simp only [Act.put, List.setIfInBounds_toArray, List.set_cons_zero, List.set_cons_succ]
        refine wpAnyH_ready (rs := [4]) (by kernel_rfl) (by simp) ?_
        refine consW rfl (fun K hK => ?_) AllReadyH.nil
        go_simp
        go_at_call 64
        refine (fmul_calls (HXC.out.old HE2_.out) (HO1.out.old HX2_.out) (by have := HM.out; omega) (by have := HN1.out; omega)).mono ?_
        rintro e' u3 ⟨p2, r2, s2, rfl, h2, hx, l2⟩
        have HX3_ := Lib.hid hx; have HE3_ := Lib.hid (HE2_.out.trans hx); have HO2 := Lib.hid h2.sl; have HN2 := Lib.hid l2; clear h2 hx l2
        try go_wp2_with fail
        refine hK.out _ _ ?_ (fun hHeld => ?_)
        · (try dsimp only); exact (HS.out _ HE3_.out)
        clear hK K
        try simp only [Act.put, List.setIfInBounds_toArray, List.set_cons_zero, List.set_cons_succ]
        refine wpAnyH_ready (rs := [7]) (by kernel_rfl) (by simp) ?_
        refine consW rfl (fun K hK => ?_) AllReadyH.nil
        go_simp
        go_at_call 63
        refine (HCC.out _ _ _ _ _ _ _ _ _ (HO2.out.old (Ext.refl _)) (HYC.out.old HE3_.out) (by have := HN2.out; have := HN1.out; have := HM.out; omega) (by have := HN0.out; omega) (by rw [val_lim, val_lim]) rfl).mono ?_
        rintro e' u4 ⟨o1, z1, y1, o2, z2, y2, rfl, h3, hx⟩
        have HX4_ := Lib.hid hx; have HE4_ := Lib.hid (HE3_.out.trans hx); have HQ := Lib.hid h3; clear h3 hx
        try go_wp2_with fail
        refine hK.out _ _ ?_ (fun hHeld => ?_)
        · (try dsimp only); exact (HS.out _ HE4_.out)
        clear hK K
        try simp only [Act.put, List.setIfInBounds_toArray, List.set_cons_zero, List.set_cons_succ]
        refine takeW (i := 8) (v := ?_) rfl (by kernel_rfl) (by kernel_rfl) (by kernel_rfl) (fun _ _ _ h => h) (Or.inl ⟨by rfl, ?_⟩) (by assumption) ?_
        rotate_left
        · (intro wz hSw; (try dsimp only at hSw); go_simp <;> with_reducible rfl)
        try simp only [Act.put, List.setIfInBounds_toArray, List.set_cons_zero, List.set_cons_succ]
        refine takeW (i := 9) (v := ?_) rfl (by kernel_rfl) (by kernel_rfl) (by kernel_rfl) (fun _ _ _ h => h) (Or.inl ⟨by rfl, ?_⟩) (by assumption) ?_
        rotate_left
        · (intro wz hSw; (try dsimp only at hSw); go_simp <;> with_reducible rfl)
        try simp only [Act.put, List.setIfInBounds_toArray, List.set_cons_zero, List.set_cons_succ]
        refine takeW (i := 10) (v := ?_) rfl (by kernel_rfl) (by kernel_rfl) (by kernel_rfl) (fun _ _ _ h => h) (Or.inl ⟨by rfl, ?_⟩) (by assumption) ?_
        rotate_left
        · (intro wz hSw; (try dsimp only at hSw); go_simp <;> with_reducible rfl)
        try simp only [Act.put, List.setIfInBounds_toArray, List.set_cons_zero, List.set_cons_succ]
        refine wpAnyH_ready (rs := [12]) (by kernel_rfl) (by simp) ?_
        refine consW rfl (fun K hK => ?_) AllReadyH.nil
        have HBR := Lib.hid (rowE (Ext.trans HX3_.out HX4_.out) HB.out)
        obtain ⟨g1, g2, g3, g4⟩ := row2_cells HBR.out
        have HBS := Lib.hid (show wb.heap.size ≤ u1.heap.size from HE1_.out.size)
        go_simp
        clear g1 g2 g3 g4
        refine hK.out _ _ ?_ (fun hHeld => ?_)
        · (try dsimp only); exact (HS.out _ (set2_ext HE4_.out HBS.out (.slice o1 z1 y1) (.slice o2 z2 y2)))
        clear hK K
        try simp only [Act.put, List.setIfInBounds_toArray, List.set_cons_zero, List.set_cons_succ]
        refine takeW (i := 13) (v := ?_) rfl (by kernel_rfl) (by kernel_rfl) (by kernel_rfl) (fun _ _ _ h => h) (Or.inl ⟨by rfl, ?_⟩) (by assumption) ?_
        rotate_left
        · (intro wz hSw; (try dsimp only at hSw); go_simp <;> with_reducible rfl)
        try simp only [Act.put, List.setIfInBounds_toArray, List.set_cons_zero, List.set_cons_succ]
        refine wpAnyH_done (by kernel_rfl) ?_ _
        go_wp2_with fail
        go_meet
        case rel => exact ⟨u1.heap.size, o1, z1, y1, o2, z2, y2, rfl, rfl, set2_row HBR.out _ _, (HQ.out.old (Ext.refl _)).ln (((Tn.cell1 (xb := u1.heap.size) (i := 0) (Ext.refl _) (.slice o1 z1 y1) none).cell2 (i := 1) (.slice o2 z2 y2)).ln (noNum2 HBR.out) (fun o h => by cases h)), set2_ext HE4_.out HBS.out (.slice o1 z1 y1) (.slice o2 z2 y2), HBS.out⟩
      refine consW rfl (fun K hK => ?_) AllReadyH.nil
      obtain ⟨u1, hu⟩ : ∃ u, u0.alloc (.cells #[.slice none 0 0, .slice none 0 0] 40) = u := ⟨_, rfl⟩
      have HX1_ := Lib.hid (show Ext u0 u1 by rw [← hu]; exact (Ext.refl _).alloc _); have HE1_ := Lib.hid (HE0_.out.trans HX1_.out)
      have HB := Lib.hid (show u1.heap[u0.heap.size]? = some (.cells #[.slice none 0 0, .slice none 0 0] 40 (0, 0)) by rw [← hu]; exact heap_alloc_new u0 _)
      have HU := Lib.hid hu; clear hu
      go_simp
      rw [HU.out]
      clear HU
      refine hK.out _ _ ?_ (fun hHeld => ?_)
      · (try dsimp only); exact (HS.out _ HE1_.out)
      clear hK K
      try simp only [Act.put, List.setIfInBounds_toArray, List.set_cons_zero, List.set_cons_succ]
      refine wpAnyH_ready (rs := [3]) (by kernel_rfl) (by simp) ?_
      refine consW rfl (fun K hK => ?_) AllReadyH.nil
      go_simp
      go_at_call 65
      refine (fof_calls t HT.out u1).mono ?_
      rintro e' u2 ⟨p1, r1, s1, rfl, h1, hx, l1⟩
      have HX2_ := Lib.hid hx; have HE2_ := Lib.hid (HE1_.out.trans hx); have HO1 := Lib.hid h1.sl; have HN1 := Lib.hid l1; clear h1 hx l1
      try go_wp2_with fail
      refine hK.out _ _ ?_ (fun hHeld => ?_)
      · (try dsimp only); exact (HS.out _ HE2_.out)
      clear hK K
      try simp only [Act.put, List.setIfInBounds_toArray, List.set_cons_zero, List.set_cons_succ]
      refine wpAnyH_ready (rs := [4]) (by kernel_rfl) (by simp) ?_
      refine consW rfl (fun K hK => ?_) AllReadyH.nil
      go_simp
      go_at_call 64
      refine (fmul_calls (HXC.out.old HE2_.out) (HO1.out.old (Ext.refl _)) (by have := HM.out; omega) (by have := HN1.out; omega)).mono ?_
      rintro e' u3 ⟨p2, r2, s2, rfl, h2, hx, l2⟩
      have HX3_ := Lib.hid hx; have HE3_ := Lib.hid (HE2_.out.trans hx); have HO2 := Lib.hid h2.sl; have HN2 := Lib.hid l2; clear h2 hx l2
      try go_wp2_with fail
      refine hK.out _ _ ?_ (fun hHeld => ?_)
      · (try dsimp only); exact (HS.out _ HE3_.out)
      clear hK K
      try simp only [Act.put, List.setIfInBounds_toArray, List.set_cons_zero, List.set_cons_succ]
      refine wpAnyH_ready (rs := [7]) (by kernel_rfl) (by simp) ?_
      refine consW rfl (fun K hK => ?_) AllReadyH.nil
      go_simp
      go_at_call 63
      refine (HCC.out _ _ _ _ _ _ _ _ _ (HO2.out.old (Ext.refl _)) (HYC.out.old HE3_.out) (by have := HN2.out; have := HN1.out; have := HM.out; omega) (by have := HN0.out; omega) (by rw [val_lim, val_lim]) rfl).mono ?_
      rintro e' u4 ⟨o1, z1, y1, o2, z2, y2, rfl, h3, hx⟩
      have HX4_ := Lib.hid hx; have HE4_ := Lib.hid (HE3_.out.trans hx); have HQ := Lib.hid h3; clear h3 hx
      try go_wp2_with fail
      refine hK.out _ _ ?_ (fun hHeld => ?_)
      · (try dsimp only); exact (HS.out _ HE4_.out)
      clear hK K
      try simp only [Act.put, List.setIfInBounds_toArray, List.set_cons_zero, List.set_cons_succ]
      refine takeW (i := 8) (v := ?_) rfl (by kernel_rfl) (by kernel_rfl) (by kernel_rfl) (fun _ _ _ h => h) (Or.inl ⟨by rfl, ?_⟩) (by assumption) ?_
      rotate_left
      · (intro wz hSw; (try dsimp only at hSw); go_simp <;> with_reducible rfl)
      try simp only [Act.put, List.setIfInBounds_toArray, List.set_cons_zero, List.set_cons_succ]
      refine takeW (i := 9) (v := ?_) rfl (by kernel_rfl) (by kernel_rfl) (by kernel_rfl) (fun _ _ _ h => h) (Or.inl ⟨by rfl, ?_⟩) (by assumption) ?_
      rotate_left
      · (intro wz hSw; (try dsimp only at hSw); go_simp <;> with_reducible rfl)
      try simp only [Act.put, List.setIfInBounds_toArray, List.set_cons_zero, List.set_cons_succ]
      refine takeW (i := 10) (v := ?_) rfl (by kernel_rfl) (by kernel_rfl) (by kernel_rfl) (fun _ _ _ h => h) (Or.inl ⟨by rfl, ?_⟩) (by assumption) ?_
      rotate_left
      · (intro wz hSw; (try dsimp only at hSw); go_simp <;> with_reducible rfl)
      try simp only [Act.put, List.setIfInBounds_toArray, List.set_cons_zero, List.set_cons_succ]
      refine wpAnyH_ready (rs := [12]) (by kernel_rfl) (by simp) ?_
      refine consW rfl (fun K hK => ?_) AllReadyH.nil
      have HBR := Lib.hid (rowE (Ext.trans HX2_.out (Ext.trans HX3_.out HX4_.out)) HB.out)
      obtain ⟨g1, g2, g3, g4⟩ := row2_cells HBR.out
      have HBS := Lib.hid (show wb.heap.size ≤ u0.heap.size from HE0_.out.size)
      go_simp
      clear g1 g2 g3 g4
      refine hK.out _ _ ?_ (fun hHeld => ?_)
      · (try dsimp only); exact (HS.out _ (set2_ext HE4_.out HBS.out (.slice o1 z1 y1) (.slice o2 z2 y2)))
      clear hK K
      try simp only [Act.put, List.setIfInBounds_toArray, List.set_cons_zero, List.set_cons_succ]
      refine takeW (i := 13) (v := ?_) rfl (by kernel_rfl) (by kernel_rfl) (by kernel_rfl) (fun _ _ _ h => h) (Or.inl ⟨by rfl, ?_⟩) (by assumption) ?_
      rotate_left
      · (intro wz hSw; (try dsimp only at hSw); go_simp <;> with_reducible rfl)
      try simp only [Act.put, List.setIfInBounds_toArray, List.set_cons_zero, List.set_cons_succ]
      refine wpAnyH_done (by kernel_rfl) ?_ _
      go_wp2_with fail
      go_meet
      case rel => exact ⟨u0.heap.size, o1, z1, y1, o2, z2, y2, rfl, rfl, set2_row HBR.out _ _, (HQ.out.old (Ext.refl _)).ln (((Tn.cell1 (xb := u0.heap.size) (i := 0) (Ext.refl _) (.slice o1 z1 y1) none).cell2 (i := 1) (.slice o2 z2 y2)).ln (noNum2 HBR.out) (fun o h => by cases h)), set2_ext HE4_.out HBS.out (.slice o1 z1 y1) (.slice o2 z2 y2), HBS.out⟩
    case rest =>
      obtain ⟨B, o1, z1, y1, o2, z2, y2, rfl, rfl, hbr, hra, hext, hB⟩ := hcut
      have HBR := Lib.hid hbr; have HRA := Lib.hid hra; have HEC := Lib.hid hext; have HBS := Lib.hid hB
      have HFIN := Lib.hid (fun (wd : World) (p1 : Option Addr) (r1 s1 : Nat) (p2 : Option Addr) (r2 s2 : Nat) (q2 : Nat × Nat) (F : Ext wb wd) (hq : RA wd p1 r1 s1 p2 r2 s2 q2) (hqq : q2 = rHoldQ (val xs0) (val ys0) t) => (show ∃ g, RLed wd lp (some g) o' n' c' es' ∧ wd.cell? ⟨lp, 0, none⟩ = some (.slice o' n' c') ∧ (∀ W, (Instr.indexAt 28 (.slice o' n' c') (.int .i64 (i : Int))).run Tryz.prog W = .ok (.pointer (some ⟨g, 8 * i, none⟩)) W) ∧
          (∃ x y, wd.cell? ⟨g, 8 * i + 2, none⟩ = some x ∧ wd.cell? ⟨g, 8 * i + 3, none⟩ = some y) ∧ wd.frozen? ⟨g, 8 * i + 2, none⟩ = false ∧ wd.frozen? ⟨g, 8 * i + 3, none⟩ = false ∧
          RHld w lp gb n (rHold es v d (rHoldQ (val xs0) (val ys0) t)) (.returned (.tuple #[])) ((wd.setCell ⟨g, 8 * i + 2, none⟩ (.slice p1 r1 s1)).setCell ⟨g, 8 * i + 3, none⟩ (.slice p2 r2 s2)) from by
        have hL := HLD.out.lk F.lk
        have hin : i < n' := by rw [← hL.len]; exact (List.getElem?_eq_some_iff.1 HIE.out).1
        obtain ⟨g, e2, hg, ho, he2, hrow, hix⟩ := hL.ix hin
        rw [HIE.out] at he2
        cases he2
        subst hg
        obtain ⟨-, -, a1, m1, c1, b1, n1, d1, a2, m2, c2, b2, n2, d2, -, -, -, x2, x3, -⟩ := hrow.look HIE.out
        obtain ⟨l1, g1, r1_⟩ := hrow.setQ HIE.out false (off := 2) rfl hq
        have hF := hL.turn g1 r1_ (List.length_set ..)
        refine ⟨g, hL, drow_cell hL.row, hix, ⟨_, _, x2, x3⟩, hrow.free _, hrow.free _, rfl, some g, o', n', c', ?_, fun g2 h2 => ?_, ?_, ?_, HNN.out⟩
        · rw [HH.out, ← hqq, ← HEV.out.1, ← HEV.out.2]
          exact hF
        · cases h2
          rcases HGB.out g rfl with h3 | h3
          · exact .inl h3
          · exact .inr (Nat.le_trans HE.out.size h3)
        · have t1 : Tn w wb lp gb := (Tn.ext HE.out lp gb).trans HTN.out (.inl rfl)
          have t2 : Tn w wd lp gb := t1.ext2 F
          refine ⟨g1.os.trans t2.os, g1.tape.trans t2.tape, g1.output.trans t2.output, Nat.le_trans t2.size g1.size, fun k hk h1 h2 => ?_⟩
          rw [g1.block k (Nat.lt_of_lt_of_le hk t2.size) (fun e => ?_), t2.block k hk h1 h2]
          rcases HGB.out g rfl with h3 | h3
          · exact h2 (by rw [h3]; exact e)
          · have := Option.some.inj e; have := HE.out.size; omega
        · exact ((HE.out.lk.ln.limK.trans HLM.out).trans F.lk.ln.limK).trans l1.limK))
      clear hbr hra hext hB
      rcases HCS.out with ⟨rfl, hS, hq⟩ | ⟨rfl, hS⟩
      · have hqq : q = rHoldQ (val xs0) (val ys0) t := by unfold rHoldQ; rw [if_neg hS]; exact hq
        obtain ⟨g, hL, k0, hix, ⟨x, y, x2, x3⟩, f2, f3, hfin⟩ := HFIN.out wc.drew _ _ _ _ _ _ q HEC.out.drew (HRA.out.old (Ext.refl _).drew) hqq
        have HFI := Lib.hid hfin
        obtain ⟨j0, j1, -, -⟩ := row2_cells (show wc.drew.heap[B]? = _ from HBR.out)
        have i0 := hix wc.drew
        clear hL hfin hqq hq hS
        go_wp2_with fail
        go_still_tail 8, (by kernel_rfl)
        change wpList _ _ _ _ _ wc.drew
        generalize wc.drew = w2 at *
        go_wp2_with fail
        go_end0
        exact HFI.out
      · have HQQ := Lib.hid (show (0, 1) = rHoldQ (val xs0) (val ys0) t by unfold rHoldQ; rw [if_pos hS])
        have CN := Lib.hid (rnothing_q wc)
        clear hS
        go_wp2_with fail
        refine CN.out.mono ?_
        rintro e' wd ⟨p1, r1, s1, p2, r2, s2, rfl, h1, h2, hxd⟩
        have HBD := Lib.hid (rowE hxd HBR.out)
        obtain ⟨g1, g2, g3, g4⟩ := row2_cells HBD.out
        have HRD := Lib.hid (show RA wd p1 r1 s1 p2 r2 s2 (0, 1) from ⟨h1.sl, h2.sl⟩); have HXD := Lib.hid (HEC.out.trans hxd)
        clear h1 h2 hxd CN
        obtain ⟨wS, hwS⟩ : ∃ x, (wd.setCell ⟨B, 0, none⟩ (.slice p1 r1 s1)).setCell ⟨B, 1, none⟩ (.slice p2 r2 s2) = x := ⟨_, rfl⟩
        have hES : Ext wb wS := by rw [← hwS]; exact set2_ext HXD.out HBS.out (.slice p1 r1 s1) (.slice p2 r2 s2)
        have hRS : RA wS p1 r1 s1 p2 r2 s2 (0, 1) := by rw [← hwS]; exact HRD.out.ln (((Tn.cell1 (xb := B) (i := 0) (Ext.refl _) (.slice p1 r1 s1) none).cell2 (i := 1) (.slice p2 r2 s2)).ln (noNum2 HBD.out) (fun o h => by cases h))
        have hBS : wS.heap[B]? = some (.cells #[.slice p1 r1 s1, .slice p2 r2 s2] 40 (0, 0)) := by rw [← hwS]; exact set2_row HBD.out _ _
        obtain ⟨g, hL, k0, hix, ⟨x, y, x2, x3⟩, f2, f3, hfin⟩ := HFIN.out wS.drew _ _ _ _ _ _ (0, 1) hES.drew (hRS.old (Ext.refl _).drew) HQQ.out
        have HFI := Lib.hid hfin
        have HWS := Lib.hid hwS
        obtain ⟨j0, j1, -, -⟩ := row2_cells (show wS.drew.heap[B]? = _ from hBS)
        have i0 := hix wS.drew
        clear hL hfin hwS hES hRS hBS
        go_wp2_with (rw [HWS.out])
        go_still_tail 8, (by kernel_rfl)
        change wpList _ _ _ _ _ wS.drew
        generalize wS.drew = w2 at *
        go_wp2_with fail
        go_end0
        exact HFI.out

end Go.Proofs.YtimcnhlcepemjaaGreatDoor
