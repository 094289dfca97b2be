/- Slices of 64-bit limbs as the walk meets them: what is read, what is owned, what a call leaves as it was. -/
import Derived.Test.YtifoflicflodcaaGreatDoorMath2
import Derived.WalkKit
import Derived.WalkLawsBesides
import Derived.WalkSpells
import Derived.Lib.Hide
import Derived.BigQuiet
import Derived.Deep.QuietTactic
import Derived.Deep.LoopGhost
import Derived.Deep.RegionHeld3
namespace Go.Proofs.YtifoflicflodcaaGreatDoor
open Go.RowKit

/-- The base of the limbs. -/
def B64 : Nat := 18446744073709551616
theorem B64_eq : B64 = 18446744073709551616 := rfl
theorem B64_two : 2 ≤ B64 := by decide
theorem B64_pos : 0 < B64 := by decide
def val (xs : List Nat) : Nat := nv B64 xs
def lim (n : Nat) : List Nat := digs B64 n
theorem val_lim (n : Nat) : val (lim n) = n := nv_digs B64_two n
theorem bd_lim (n : Nat) : Bd B64 (lim n) := bd_digs B64_two n
theorem trimL_lim {xs : List Nat} (h : Bd B64 xs) : trimL xs = lim (val xs) := trimL_digs B64_two h
theorem lim_trim (n : Nat) : trimL (lim n) = lim n := trimL_of_nrm (nrm_digs B64_two n)

/-- The call returns v, and the world is as it was. -/
def Ret (v : Value) (w : World) (e : Ending) (w' : World) : Prop := e = .returned v ∧ w = w'

/-- The call returns v; at most draws were made. -/
def RetD (v : Value) (w : World) (e : Ending) (w' : World) : Prop := e = .returned v ∧ ∃ m, w' = w.drewN m
theorem Ret.quiet {P : Program} {f : FuncId} {args : Array Value} {w : World} {n : Nat} {v : Value} (h : Calls P f args (w.drewN n) (Ret v (w.drewN n))) :
    Calls P f args (w.drewN n) fun e w'' => e = .returned v ∧ ∃ m, w'' = w.drewN m := h.mono fun _ _ ⟨he, hm⟩ => ⟨he, n, hm.symm⟩
theorem RetD.quiet {P : Program} {f : FuncId} {args : Array Value} {w : World} {n : Nat} {v : Value} (h : Calls P f args (w.drewN n) (RetD v (w.drewN n))) :
    Calls P f args (w.drewN n) fun e w'' => e = .returned v ∧ ∃ m, w'' = w.drewN m := Calls.quiet_of h

/-- Of what was there nothing has turned. -/
def Ext (w w' : World) : Prop := Below w.heap.size w w'
theorem Ext.refl (w : World) : Ext w w := Below.refl _ _
theorem Ext.trans {a b c : World} (h : Ext a b) (k : Ext b c) : Ext a c := Below.trans h (Below.mono k h.size)
theorem Ext.alloc {a b : World} (h : Ext a b) (o : Obj) : Ext a (b.alloc o) := Below.alloc h h.size o
theorem Ext.drew {a b : World} (h : Ext a b) : Ext a b.drew := Below.drew h
theorem Ext.drewN {a b : World} (h : Ext a b) (n : Nat) : Ext a (b.drewN n) := Below.trans h ⟨rfl, rfl, rfl, Nat.le_refl _, fun _ _ => rfl⟩
theorem Ext.size {a b : World} (h : Ext a b) : a.heap.size ≤ b.heap.size := Below.size h
theorem Ext.grown {a b : World} {row : Option Nat} (h : a.grownBy b row) (hr : ∀ k, row = some k → a.heap.size ≤ k) : Ext a b :=
  Below.grown (Below.refl _ _) h (Nat.le_refl _) hr
theorem Ext.by_ {a b : World} (h : Ext a b) (row : Option Nat) : a.grownBy b row := ⟨h.os, h.tape, h.output, h.size, fun k hk _ => h.block k hk⟩
theorem Ext.cell {a b : World} (h : Ext a b) {p : Addr} {v : Value} (hc : a.cell? p = some v) : b.cell? p = some v := by
  rw [Below.cell h (World.block_lt_of_cell? a p hc)]; exact hc

/-- The slice (a, n, c) of 64-bit numbers reads as xs. -/
structure Sl (w : World) (a : Option Addr) (n c : Nat) (xs : List Nat) : Prop where
  len : xs.length = n
  cap : n ≤ c
  big : c ≤ 9223372036854775807
  bd : Bd B64 xs
  at_ : (n = 0 ∧ c = 0) ∨ ∃ b off, a = some ⟨b, off, none⟩ ∧ ∀ i, i < n → w.cell? ⟨b, off + i, none⟩ = some (.int .u64 (xs.getD i 0))

/-- It lies in a block from B on, which may be written. -/
structure Own (B : Nat) (w : World) (a : Option Addr) (n c : Nat) (xs : List Nat) : Prop where
  sl : Sl w a n c xs
  row : a = none ∨ ∃ b off cur e, a = some ⟨b, off, none⟩ ∧ B ≤ b ∧ w.heap[b]? = some (.cells cur e (0, 0))

/-- The block of a slice. -/
def blk (a : Option Addr) : Option Nat := a.map (·.block)

theorem Sl.nil (w : World) : Sl w none 0 0 [] := ⟨rfl, Nat.le_refl _, by decide, Bd.nil _, .inl ⟨rfl, rfl⟩⟩
theorem Own.nil (B : Nat) (w : World) : Own B w none 0 0 [] := ⟨Sl.nil w, .inl rfl⟩
theorem Sl.none_len {w : World} {n c : Nat} {xs : List Nat} (h : Sl w none n c xs) : n = 0 := by
  rcases h.at_ with ⟨h, _⟩ | ⟨b, off, h, _⟩
  · exact h
  · cases h

theorem Sl.grown {w w' : World} {a : Option Addr} {n c : Nat} {xs : List Nat} {row : Option Nat} (h : Sl w a n c xs) (hg : w.grownBy w' row) (hne : n = 0 ∨ row = none ∨ blk a ≠ row) : Sl w' a n c xs := by
  refine ⟨h.len, h.cap, h.big, h.bd, ?_⟩
  rcases h.at_ with hn | ⟨b, off, rfl, hc⟩
  · exact .inl hn
  · refine .inr ⟨b, off, rfl, fun i hi => hg.cell (hc i hi) ?_⟩
    rcases hne with h0 | h0 | h0
    · omega
    · rw [h0]; simp
    · exact h0
theorem Sl.old {w w' : World} {a : Option Addr} {n c : Nat} {xs : List Nat} (h : Sl w a n c xs) (hg : Ext w w') : Sl w' a n c xs :=
  h.grown (hg.by_ none) (.inr (.inl rfl))
theorem Own.grown {B : Nat} {w w' : World} {a : Option Addr} {n c : Nat} {xs : List Nat} {row : Option Nat} (h : Own B w a n c xs) (hg : w.grownBy w' row) (hne : row = none ∨ blk a ≠ row) : Own B w' a n c xs := by
  refine ⟨h.sl.grown hg (.inr hne), ?_⟩
  rcases h.row with hn | ⟨b, off, cur, e, rfl, hB, hh⟩
  · exact .inl hn
  · refine .inr ⟨b, off, cur, e, rfl, hB, ?_⟩
    rw [hg.block b (Array.getElem?_eq_some_iff.1 hh).1 ?_]
    · exact hh
    · rcases hne with h0 | h0
      · rw [h0]; simp
      · exact h0
theorem Own.old {B : Nat} {w w' : World} {a : Option Addr} {n c : Nat} {xs : List Nat} (h : Own B w a n c xs) (hg : Ext w w') : Own B w' a n c xs :=
  h.grown (hg.by_ none) (.inl rfl)
theorem Own.mono {B B' : Nat} {w : World} {a : Option Addr} {n c : Nat} {xs : List Nat} (h : Own B w a n c xs) (hb : B' ≤ B) : Own B' w a n c xs := by
  refine ⟨h.sl, ?_⟩
  rcases h.row with hn | ⟨b, off, cur, e, ha, hB, hh⟩
  · exact .inl hn
  · exact .inr ⟨b, off, cur, e, ha, Nat.le_trans hb hB, hh⟩
theorem Own.ge {B : Nat} {w : World} {a : Option Addr} {n c : Nat} {xs : List Nat} (h : Own B w a n c xs) : ∀ k, blk a = some k → B ≤ k ∧ k < w.heap.size := by
  intro k hk
  rcases h.row with rfl | ⟨b, off, cur, e, rfl, hB, hh⟩
  · cases hk
  · simp only [blk, Option.map_some, Option.some.injEq] at hk
    subst hk
    exact ⟨hB, (Array.getElem?_eq_some_iff.1 hh).1⟩
/-- The block of what is read lies among those that are there. -/
theorem Sl.lt {w : World} {a : Option Addr} {n c : Nat} {xs : List Nat} (h : Sl w a n c xs) : n = 0 ∨ ∃ k, blk a = some k ∧ k < w.heap.size := by
  rcases h.at_ with ⟨h0, _⟩ | ⟨b, off, rfl, hc⟩
  · exact .inl h0
  · by_cases h0 : n = 0
    · exact .inl h0
    · exact .inr ⟨b, rfl, World.block_lt_of_cell? w _ (hc 0 (by omega))⟩
/-- What was there ahead lies apart from what was made behind it. -/
theorem Sl.apart {B : Nat} {w w' : World} {a b : Option Addr} {n c m d : Nat} {xs ys : List Nat} (h : Sl w a n c xs) (k : Own B w' b m d ys) (hB : w.heap.size ≤ B) : n = 0 ∨ blk b = none ∨ blk a ≠ blk b := by
  rcases h.lt with h0 | ⟨j, hj, hlt⟩
  · exact .inl h0
  · cases e : blk b with
    | none => exact .inr (.inl rfl)
    | some i =>
      have := (k.ge i e).1
      refine .inr (.inr ?_)
      rw [hj]; intro he; cases he; omega

/-- Cut at its head. -/
theorem Sl.head {w : World} {a : Option Addr} {n c : Nat} {xs : List Nat} (h : Sl w a n c xs) (k d : Nat) (hk : k ≤ n) (hkd : k ≤ d) (hd : d ≤ c) : Sl w a k d (xs.take k) := by
  refine ⟨by rw [List.length_take, h.len]; omega, hkd, Nat.le_trans hd h.big, h.bd.take k, ?_⟩
  rcases h.at_ with ⟨h2, h3⟩ | ⟨b, off, h1, hc⟩
  · exact .inl ⟨by omega, by omega⟩
  · refine .inr ⟨b, off, h1, fun i hi => ?_⟩
    rw [hc i (by omega), List.getD_eq_getElem?_getD, List.getD_eq_getElem?_getD, List.getElem?_take, if_pos hi]
theorem trimL_eq_take (xs : List Nat) : trimL xs = xs.take (trimL xs).length := by
  induction xs with
  | nil => rfl
  | cons x xs ih =>
    by_cases e : trimL xs = []
    · rw [trimL_cons_nil e]; split <;> simp
    · rw [trimL_cons_ne e, List.length_cons, List.take_succ_cons, ← ih]
theorem Sl.trim {w : World} {a : Option Addr} {n c : Nat} {xs : List Nat} (h : Sl w a n c xs) : Sl w a (trimL xs).length (trimL xs).length (trimL xs) := by
  have hl := trimL_len xs
  have := h.head (trimL xs).length (trimL xs).length (by rw [← h.len]; exact hl) (Nat.le_refl _) (by have := h.cap; rw [← h.len] at this; omega)
  rw [← trimL_eq_take] at this
  exact this
theorem Sl.trimmed {w : World} {a : Option Addr} {n c : Nat} {xs : List Nat} (h : Sl w a n c xs) : Sl w a (lim (val xs)).length (lim (val xs)).length (lim (val xs)) := by
  have := h.trim
  rwa [trimL_lim h.bd] at this
theorem Own.trimmed {B : Nat} {w : World} {a : Option Addr} {n c : Nat} {xs : List Nat} (h : Own B w a n c xs) : Own B w a (lim (val xs)).length (lim (val xs)).length (lim (val xs)) :=
  ⟨h.sl.trimmed, h.row⟩
theorem Own.head {B : Nat} {w : World} {a : Option Addr} {n c : Nat} {xs : List Nat} (h : Own B w a n c xs) (k d : Nat) (hk : k ≤ n) (hkd : k ≤ d) (hd : d ≤ c) : Own B w a k d (xs.take k) :=
  ⟨h.sl.head k d hk hkd hd, h.row⟩
theorem Sl.trimmed_len {w : World} {a : Option Addr} {n c : Nat} {xs : List Nat} (h : Sl w a n c xs) : (lim (val xs)).length ≤ n := by
  rw [← h.len, ← trimL_lim h.bd]; exact trimL_len xs

theorem run_sizeOf {P : Program} {E : TypeId} {i : TypeInfo} (hi : P.info? E = some i) (w : World) : (sizeOf E).run P w = .ok i.size w := by
  simp [sizeOf, typeInfo, hi]

/-- What the walk wants of a slice that it indexes: where its places lie, and what they hold. -/
theorem Sl.ix {w : World} {a : Option Addr} {n c : Nat} {xs : List Nat} (h : Sl w a n c xs) {P : Program} {T E : TypeId} {i : TypeInfo}
    (hT : P.underlying T = some (.slice E)) (hi : P.info? E = some i) (hs : i.size = 1) :
    ∃ b off, (∀ k, k < n → ∀ w' : World, (Instr.indexAt T (.slice a n c) (.int .i64 (k : Int))).run P w' = .ok (.pointer (some ⟨b, off + k, none⟩)) w') ∧
      (∀ k, k < n → w.cell? ⟨b, off + k, none⟩ = some (.int .u64 (xs.getD k 0))) ∧ (0 < n → a = some ⟨b, off, none⟩) := by
  rcases h.at_ with ⟨rfl, rfl⟩ | ⟨b, off, rfl, hc⟩
  · exact ⟨0, 0, fun k hk => absurd hk (by omega), fun k hk => absurd hk (by omega), fun h => absurd h (by omega)⟩
  · refine ⟨b, off, fun k hk w' => ?_, hc, fun _ => rfl⟩
    have hr := run_sizeOf hi w'
    rw [hs] at hr
    simp only [Instr.indexAt, Sem.run_bind, run_underlying hT, Result.andThen_ok, asIntOf, Sem.run_pure]
    have h1 : (0 : Int) ≤ (k : Int) ∧ (k : Int) < (n : Int) := ⟨by omega, by omega⟩
    simp [hk, hr, Addr.add]
theorem Own.free {B : Nat} {w : World} {a : Option Addr} {n c : Nat} {xs : List Nat} (h : Own B w a n c xs) {b off : Nat} (ha : a = some ⟨b, off, none⟩) (k : Nat) : w.frozen? ⟨b, k, none⟩ = false := by
  rcases h.row with rfl | ⟨b', off', cur, e, rfl, hB, hh⟩
  · cases ha
  · cases ha
    exact frozen_of_row w b k cur e hh

/-- A store into it. -/
theorem Own.store {B : Nat} {w : World} {a : Option Addr} {n c : Nat} {xs : List Nat} (h : Own B w a n c xs) {b off : Nat} (ha : a = some ⟨b, off, none⟩) (k x : Nat) (hk : k < n) (hx : x < B64) :
    Own B (w.setCell ⟨b, off + k, none⟩ (.int .u64 (x : Int))) a n c (xs.set k x) ∧ w.grownBy (w.setCell ⟨b, off + k, none⟩ (.int .u64 (x : Int))) (blk a) := by
  subst ha
  have hc0 : ∀ i, i < n → w.cell? ⟨b, off + i, none⟩ = some (.int .u64 (xs.getD i 0)) := by
    rcases h.sl.at_ with ⟨h0, _⟩ | ⟨b', off', h0, hc⟩
    · omega
    · cases h0; exact hc
  refine ⟨⟨⟨by rw [List.length_set]; exact h.sl.len, h.sl.cap, h.sl.big, h.sl.bd.set k hx, .inr ⟨b, off, rfl, fun i hi => ?_⟩⟩, ?_⟩,
    ⟨rfl, rfl, rfl, by simp, fun j _ hj => heap_setCell_other w _ j _ (fun e => hj (by simp [blk, e]))⟩⟩
  · by_cases e : i = k
    · subst e
      rw [World.cell?_setCell_same w _ _ (hc0 i hi), List.getD_eq_getElem?_getD, List.getElem?_set_self (by rw [h.sl.len]; exact hi)]; rfl
    · rw [World.cell?_setCell_other w _ _ _ (fun e' => e (by injection e' with e1 e2 e3; omega)), hc0 i hi, List.getD_eq_getElem?_getD, List.getD_eq_getElem?_getD, List.getElem?_set_ne (fun e' => e e'.symm)]
  · rcases h.row with h0 | ⟨b', off', cur, e, h0, hB, hh⟩
    · cases h0
    · cases h0
      exact .inr ⟨b, off, _, e, rfl, hB, heap_setCell_same w b (off + k) cur e _ hh⟩

/-- 'a[:k:k]'. -/
theorem opt_add_zero (a : Option Addr) : a.map (·.add 0) = a := by cases a <;> rfl
theorem slice_head {P : Program} {T E : TypeId} {i : TypeInfo} (hT : P.underlying T = some (.slice E)) (hi : P.info? E = some i) (a : Option Addr) (n c k : Nat) (hk : k ≤ c) (w : World) :
    (Instr.slice T (.slice a n c) none (some (.int .i64 (k : Int))) (some (.int .i64 (k : Int)))).run P w = .ok (.slice a k k) w := by
  have hr := run_sizeOf hi w
  have h1 : (0 : Int) ≤ (k : Int) ∧ (k : Int) ≤ (c : Int) := ⟨by omega, by omega⟩
  simp [Instr.slice, run_underlying hT, Instr.sliceBounds, Instr.sliceBound, asIntOf, hk, hr, opt_add_zero]
theorem sliceAt_head {P : Program} {T E : TypeId} {i : TypeInfo} (hT : P.underlying T = some (.slice E)) (hi : P.info? E = some i) (a : Option Addr) (n c k : Nat) (hk : k ≤ c) (w : World) :
    (Instr.sliceAt T (.slice a n c) none (some (.int .i64 (k : Int))) (some (.int .i64 (k : Int)))).run P w = .ok (.slice a k k) w := by
  have := slice_head (P := P) hT hi a n c k hk w
  simp [Instr.sliceAt, run_underlying hT, this]

theorem oneCell_u64 (ys : List Nat) : ∀ u ∈ ys.map (fun x : Nat => Value.int .u64 (x : Int)), u.oneCell' = true := by
  intro u hu
  obtain ⟨x, _, rfl⟩ := List.mem_map.1 hu
  rfl

/-- A row that the call owns in the library's words, in ours. -/
theorem Own.of_row {B : Nat} {w : World} {e : TypeId} {v : Value} {n : Nat} {xs : List Nat} (h : w.ownsRow B e 1 v n (xs.map fun x : Nat => Value.int .u64 (x : Int))) (hbd : Bd B64 xs) :
    ∃ a c, v = .slice a n c ∧ Own B w a n c xs := by
  have hl : xs.length = n := by have := h.1; simpa using this
  rcases h.2 with ⟨rfl, rfl⟩ | ⟨g, cap, cur, rfl, hb, hg, hnc, hcm, hcs, htake⟩
  · have : xs = [] := List.eq_nil_of_length_eq_zero hl
    subst this
    exact ⟨none, 0, rfl, Own.nil B w⟩
  · refine ⟨some ⟨g, 0, none⟩, cap, rfl, ⟨hl, hnc, by unfold maxLen at hcm; omega, hbd, .inr ⟨g, 0, rfl, fun i hi => ?_⟩⟩, .inr ⟨g, 0, cur, e, rfl, hb, hg⟩⟩
    rw [cell_of_row w g (0 + i) cur e (0, 0) hg, Nat.zero_add]
    have e1 : cur.toList[i]? = (cur.toList.take (n * 1))[i]? := by rw [List.getElem?_take, if_pos (by omega)]
    rw [← Array.getElem?_toList, e1, htake, List.getElem?_map, List.getElem?_eq_getElem (by omega), getD_of_lt (by omega)]
    rfl

/-- 'make([]uint64, n)'. -/
theorem make_sl {P : Program} (w : World) {ops : Array Oper} {rest : List Oper} {o : Oper} {act : Act} {Q : Exit → Act → World → Prop}
    (hg : o.guard = none) (l c : Operand) (t : TypeId) (hop : o.op = Op.makeSlice t l c) (e : TypeId) (i : TypeInfo) (h1 : P.underlying t = some (.slice e)) (h2 : P.info? e = some i)
    (h3 : i.zero = some (.int .u64 0)) (h4 : i.size = 1) (h5 : i.bytes = 8) (L C : Int) (hl : act.eval l = .int .i64 L) (hc : act.eval c = .int .i64 C) (n : Nat) (hL : L = (n : Int)) (hC : C = (n : Int)) (hn : n ≤ 1099511627776)
    (hK : ∀ a w', Own w.heap.size w' a n n (List.replicate n 0) → Ext w w' → wpList P ops Q rest (act.put o.dst (.slice a n n)) w') :
    wpList P ops Q (o :: rest) act w := by
  refine wpList_make_full w hg l c t hop w.heap.size e i (.int .u64 0) 1 h1 h2 h3 h4 .i64 .i64 L C n hl hc hL hC (by rw [h5]; omega) (by unfold maxLen; omega) (Nat.le_refl _) ?_
  intro w' hown hgrow
  have e1 : (madeCells (Value.int .u64 0).cells (n * 1)).toList = (List.replicate n 0).map (fun x : Nat => Value.int .u64 (x : Int)) := by
    show (madeCells #[Value.int .u64 0] (n * 1)).toList = _
    rw [toList_madeCells_one]; simp
  rw [e1] at hown
  obtain ⟨a, c', hv, ho⟩ := Own.of_row hown (Bd.replicate B64_pos n)
  have hv' := hv
  injection hv' with h1 h2 h3
  subst h1 h3
  exact hK _ _ ho (Ext.grown hgrow (fun k h => by cases h))

/-- 'append([]uint64(nil), x...)'. -/
theorem append_nil_sl {P : Program} (w : World) {ops : Array Oper} {rest : List Oper} {o : Oper} {act : Act} {Q : Exit → Act → World → Prop} (hgd : o.guard = none) (s x : Operand) (t : TypeId)
    (ho : o.op = .call { callee := .builtin .append, args := #[s, x], argTypes := #[t, t] }) (e : TypeId) (i : TypeInfo) (h1 : P.underlying t = some (.slice e)) (h2 : P.info? e = some i)
    (h3 : i.zero = some (.int .u64 0)) (h4 : i.size = 1) (h5 : i.bytes = 8) (hs : act.eval s = .slice none 0 0) (a : Option Addr) (n c : Nat) (xs : List Nat) (hx : act.eval x = .slice a n c) (hsl : Sl w a n c xs) (hn : n ≤ 1099511627776)
    (hK : ∀ a' c' w', Own w.heap.size w' a' n c' xs → Ext w w' → wpList P ops Q rest (act.put o.dst (.slice a' n c')) w') :
    wpList P ops Q (o :: rest) act w := by
  cases a with
  | none =>
    obtain rfl : n = 0 := hsl.none_len
    obtain rfl : xs = [] := List.eq_nil_of_length_eq_zero hsl.len
    have hc : c = 0 := by
      rcases hsl.at_ with ⟨_, h⟩ | ⟨b, off, h, _⟩
      · exact h
      · cases h
    subst hc
    refine wpList_plain hgd fun K hK' => ?_
    have hr := run_append_owned_none (P := P) w w.heap.size t o.type e i 1 h1 h2 (.slice none 0 0) 0 [] (World.ownsRow_nil w _ e 1)
    unfold Oper.wp execOp
    simp only [ho, resolve, invoke, builtin, Sem.run_bind, Sem.run_pure, Result.andThen_ok, List.map_toArray, List.map_cons, List.map_nil, hs, hx, hr]
    exact hK' _ _ (hK none 0 w (Own.nil _ w) (Ext.refl w))
  | some ad =>
    have hcells : ∀ (j : Nat) u, (xs.map fun x : Nat => Value.int .u64 (x : Int))[j]? = some u → w.cell? (ad.add j) = some u := by
      intro j u hu
      rw [List.getElem?_map] at hu
      have hj : j < xs.length := by
        rcases Nat.lt_or_ge j xs.length with h | h
        · exact h
        · rw [List.getElem?_eq_none h] at hu; cases hu
      rw [List.getElem?_eq_getElem hj] at hu
      simp only [Option.map_some, Option.some.injEq] at hu
      subst hu
      rcases hsl.at_ with ⟨h, _⟩ | ⟨b, off, h, hc⟩
      · have := hsl.len; omega
      · cases h
        have hadd : (⟨b, off, none⟩ : Addr).add j = ⟨b, off + j, none⟩ := by unfold Addr.add; split <;> simp_all
        rw [hadd, hc j (by rw [← hsl.len]; exact hj), getD_of_lt hj]
    refine wpList_append_own w hgd s x t ho w.heap.size e i (.int .u64 0) 1 8 h1 h2 h3 h4 h5 rfl (by omega) (.slice none 0 0) 0 [] hs (World.ownsRow_nil w _ e 1) ad n c (xs.map fun x : Nat => Value.int .u64 (x : Int)) hx (by simp [hsl.len]) hcells (oneCell_u64 xs) (by unfold maxLen; omega) (by omega) (Nat.le_refl _) ?_
    · intro v' w' hown hgrow _
      simp only [Nat.zero_add, List.nil_append] at hown
      obtain ⟨a', c', rfl, ho'⟩ := Own.of_row hown hsl.bd
      exact hK a' c' w' ho' (Ext.grown hgrow (fun k h => by cases h))

end Go.Proofs.YtifoflicflodcaaGreatDoor
