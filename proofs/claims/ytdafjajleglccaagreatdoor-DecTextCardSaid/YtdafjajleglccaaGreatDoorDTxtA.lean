import Derived.Test.YtdafjajleglccaaGreatDoorPlaces
import Derived.Test.YtdafjajleglccaaGreatDoorRefN2
import Derived.Test.YtdafjajleglccaaGreatDoorParse
import Derived.Laws.OwnMore
import Derived.Test.YtdafjajleglccaaGreatDoorRefU
import Derived.Test.YtdafjajleglccaaGreatDoorDTPar
import Derived.Test.YtdafjajleglccaaGreatDoorDPar
import Derived.Test.YtdafjajleglccaaGreatDoorDAt
import Derived.Test.YtdafjajleglccaaGreatDoorKnown2
import Derived.Test.YtdafjajleglccaaGreatDoorHelp2
import Derived.Test.YtdafjajleglccaaGreatDoorHDec
/- Slices of bytes as the walk meets them. -/
namespace Go.Proofs.YtdafjajleglccaaGreatDoor
open Go.RowKit

/-- The slice (a, n, c) of bytes reads as xs. -/
structure SlB (w : World) (a : Option Addr) (n c : Nat) (xs : List Nat) : Prop where
  len : xs.length = n
  cap : n ≤ c
  big : c ≤ 9223372036854775807
  bd : Bd 256 xs
  at_ : (n = 0 ∧ c = 0) ∨ ∃ b off, a = some ⟨b, off, none⟩ ∧ ∀ i, i < n → w.cell? ⟨b, off + i, none⟩ = some (.int .u8 (xs.getD i 0))

/-- It lies in a block from B on, which may be written. -/
structure OwnB (B : Nat) (w : World) (a : Option Addr) (n c : Nat) (xs : List Nat) : Prop where
  sl : SlB w a n c xs
  row : a = none ∨ ∃ b off cur e, a = some ⟨b, off, none⟩ ∧ B ≤ b ∧ w.heap[b]? = some (.cells cur e (0, 0))

theorem SlB.nil (w : World) : SlB w none 0 0 [] := ⟨rfl, Nat.le_refl _, by decide, Bd.nil _, .inl ⟨rfl, rfl⟩⟩
theorem OwnB.nil (B : Nat) (w : World) : OwnB B w none 0 0 [] := ⟨SlB.nil w, .inl rfl⟩
theorem SlB.none_len {w : World} {n c : Nat} {xs : List Nat} (h : SlB w none n c xs) : n = 0 := by
  rcases h.at_ with ⟨h, _⟩ | ⟨b, off, h, _⟩
  · exact h
  · cases h

theorem SlB.grown {w w' : World} {a : Option Addr} {n c : Nat} {xs : List Nat} {row : Option Nat} (h : SlB w a n c xs) (hg : w.grownBy w' row) (hne : n = 0 ∨ row = none ∨ blk a ≠ row) : SlB w' a n c xs := by
  refine ⟨h.len, h.cap, h.big, h.bd, ?_⟩
  rcases h.at_ with hn | ⟨b, off, rfl, hc⟩
  · exact .inl hn
  · refine .inr ⟨b, off, rfl, fun i hi => hg.cell (hc i hi) ?_⟩
    rcases hne with h0 | h0 | h0
    · omega
    · rw [h0]; simp
    · exact h0
theorem SlB.old {w w' : World} {a : Option Addr} {n c : Nat} {xs : List Nat} (h : SlB w a n c xs) (hg : Ext w w') : SlB w' a n c xs :=
  h.grown (hg.by_ none) (.inr (.inl rfl))
theorem OwnB.grown {B : Nat} {w w' : World} {a : Option Addr} {n c : Nat} {xs : List Nat} {row : Option Nat} (h : OwnB B w a n c xs) (hg : w.grownBy w' row) (hne : row = none ∨ blk a ≠ row) : OwnB B w' a n c xs := by
  refine ⟨h.sl.grown hg (.inr hne), ?_⟩
  rcases h.row with hn | ⟨b, off, cur, e, rfl, hB, hh⟩
  · exact .inl hn
  · refine .inr ⟨b, off, cur, e, rfl, hB, ?_⟩
    rw [hg.block b (Array.getElem?_eq_some_iff.1 hh).1 ?_]
    · exact hh
    · rcases hne with h0 | h0
      · rw [h0]; simp
      · exact h0
theorem OwnB.old {B : Nat} {w w' : World} {a : Option Addr} {n c : Nat} {xs : List Nat} (h : OwnB B w a n c xs) (hg : Ext w w') : OwnB B w' a n c xs :=
  h.grown (hg.by_ none) (.inl rfl)
theorem OwnB.mono {B B' : Nat} {w : World} {a : Option Addr} {n c : Nat} {xs : List Nat} (h : OwnB B w a n c xs) (hb : B' ≤ B) : OwnB B' w a n c xs := by
  refine ⟨h.sl, ?_⟩
  rcases h.row with hn | ⟨b, off, cur, e, ha, hB, hh⟩
  · exact .inl hn
  · exact .inr ⟨b, off, cur, e, ha, Nat.le_trans hb hB, hh⟩
theorem OwnB.ge {B : Nat} {w : World} {a : Option Addr} {n c : Nat} {xs : List Nat} (h : OwnB B w a n c xs) : ∀ k, blk a = some k → B ≤ k ∧ k < w.heap.size := by
  intro k hk
  rcases h.row with rfl | ⟨b, off, cur, e, rfl, hB, hh⟩
  · cases hk
  · simp only [blk, Option.map_some, Option.some.injEq] at hk
    subst hk
    exact ⟨hB, (Array.getElem?_eq_some_iff.1 hh).1⟩
/-- The block of what is read lies among those that are there. -/
theorem SlB.lt {w : World} {a : Option Addr} {n c : Nat} {xs : List Nat} (h : SlB w a n c xs) : n = 0 ∨ ∃ k, blk a = some k ∧ k < w.heap.size := by
  rcases h.at_ with ⟨h0, _⟩ | ⟨b, off, rfl, hc⟩
  · exact .inl h0
  · by_cases h0 : n = 0
    · exact .inl h0
    · exact .inr ⟨b, rfl, World.block_lt_of_cell? w _ (hc 0 (by omega))⟩
/-- What was there ahead lies apart from what was made behind it. -/
theorem SlB.apart {B : Nat} {w w' : World} {a b : Option Addr} {n c m d : Nat} {xs ys : List Nat} (h : SlB w a n c xs) (k : OwnB B w' b m d ys) (hB : w.heap.size ≤ B) : n = 0 ∨ blk b = none ∨ blk a ≠ blk b := by
  rcases h.lt with h0 | ⟨j, hj, hlt⟩
  · exact .inl h0
  · cases e : blk b with
    | none => exact .inr (.inl rfl)
    | some i =>
      have := (k.ge i e).1
      refine .inr (.inr ?_)
      rw [hj]; intro he; cases he; omega

/-- Cut at its head. -/
theorem SlB.head {w : World} {a : Option Addr} {n c : Nat} {xs : List Nat} (h : SlB w a n c xs) (k d : Nat) (hk : k ≤ n) (hkd : k ≤ d) (hd : d ≤ c) : SlB w a k d (xs.take k) := by
  refine ⟨by rw [List.length_take, h.len]; omega, hkd, Nat.le_trans hd h.big, h.bd.take k, ?_⟩
  rcases h.at_ with ⟨h2, h3⟩ | ⟨b, off, h1, hc⟩
  · exact .inl ⟨by omega, by omega⟩
  · refine .inr ⟨b, off, h1, fun i hi => ?_⟩
    rw [hc i (by omega), List.getD_eq_getElem?_getD, List.getD_eq_getElem?_getD, List.getElem?_take, if_pos hi]
/-- What the walk wants of a slice that it indexes: where its places lie, and what they hold. -/
theorem SlB.ix {w : World} {a : Option Addr} {n c : Nat} {xs : List Nat} (h : SlB w a n c xs) {P : Program} {T E : TypeId} {i : TypeInfo}
    (hT : P.underlying T = some (.slice E)) (hi : P.info? E = some i) (hs : i.size = 1) :
    ∃ b off, (∀ k, k < n → ∀ w' : World, (Instr.indexAt T (.slice a n c) (.int .i64 (k : Int))).run P w' = .ok (.pointer (some ⟨b, off + k, none⟩)) w') ∧
      (∀ k, k < n → w.cell? ⟨b, off + k, none⟩ = some (.int .u8 (xs.getD k 0))) ∧ (0 < n → a = some ⟨b, off, none⟩) := by
  rcases h.at_ with ⟨rfl, rfl⟩ | ⟨b, off, rfl, hc⟩
  · exact ⟨0, 0, fun k hk => absurd hk (by omega), fun k hk => absurd hk (by omega), fun h => absurd h (by omega)⟩
  · refine ⟨b, off, fun k hk w' => ?_, hc, fun _ => rfl⟩
    have hr := run_sizeOf hi w'
    rw [hs] at hr
    simp only [Instr.indexAt, Sem.run_bind, run_underlying hT, Result.andThen_ok, asIntOf, Sem.run_pure]
    have h1 : (0 : Int) ≤ (k : Int) ∧ (k : Int) < (n : Int) := ⟨by omega, by omega⟩
    simp [hk, hr, Addr.add]
theorem OwnB.free {B : Nat} {w : World} {a : Option Addr} {n c : Nat} {xs : List Nat} (h : OwnB B w a n c xs) {b off : Nat} (ha : a = some ⟨b, off, none⟩) (k : Nat) : w.frozen? ⟨b, k, none⟩ = false := by
  rcases h.row with rfl | ⟨b', off', cur, e, rfl, hB, hh⟩
  · cases ha
  · cases ha
    exact frozen_of_row w b k cur e hh

/-- A store into it. -/
theorem OwnB.store {B : Nat} {w : World} {a : Option Addr} {n c : Nat} {xs : List Nat} (h : OwnB B w a n c xs) {b off : Nat} (ha : a = some ⟨b, off, none⟩) (k x : Nat) (hk : k < n) (hx : x < 256) :
    OwnB B (w.setCell ⟨b, off + k, none⟩ (.int .u8 (x : Int))) a n c (xs.set k x) ∧ w.grownBy (w.setCell ⟨b, off + k, none⟩ (.int .u8 (x : Int))) (blk a) := by
  subst ha
  have hc0 : ∀ i, i < n → w.cell? ⟨b, off + i, none⟩ = some (.int .u8 (xs.getD i 0)) := by
    rcases h.sl.at_ with ⟨h0, _⟩ | ⟨b', off', h0, hc⟩
    · omega
    · cases h0; exact hc
  refine ⟨⟨⟨by rw [List.length_set]; exact h.sl.len, h.sl.cap, h.sl.big, h.sl.bd.set k hx, .inr ⟨b, off, rfl, fun i hi => ?_⟩⟩, ?_⟩,
    ⟨rfl, rfl, rfl, by simp, fun j _ hj => heap_setCell_other w _ j _ (fun e => hj (by simp [blk, e]))⟩⟩
  · by_cases e : i = k
    · subst e
      rw [World.cell?_setCell_same w _ _ (hc0 i hi), List.getD_eq_getElem?_getD, List.getElem?_set_self (by rw [h.sl.len]; exact hi)]; rfl
    · rw [World.cell?_setCell_other w _ _ _ (fun e' => e (by injection e' with e1 e2 e3; omega)), hc0 i hi, List.getD_eq_getElem?_getD, List.getD_eq_getElem?_getD, List.getElem?_set_ne (fun e' => e e'.symm)]
  · rcases h.row with h0 | ⟨b', off', cur, e, h0, hB, hh⟩
    · cases h0
    · cases h0
      exact .inr ⟨b, off, _, e, rfl, hB, heap_setCell_same w b (off + k) cur e _ hh⟩

theorem oneCell_u8 (ys : List Nat) : ∀ u ∈ ys.map (fun x : Nat => Value.int .u8 (x : Int)), u.oneCell' = true := by
  intro u hu
  obtain ⟨x, _, rfl⟩ := List.mem_map.1 hu
  rfl

/-- A row that the call owns in the library's words, in ours. -/
theorem OwnB.of_row {B : Nat} {w : World} {e : TypeId} {v : Value} {n : Nat} {xs : List Nat} (h : w.ownsRow B e 1 v n (xs.map fun x : Nat => Value.int .u8 (x : Int))) (hbd : Bd 256 xs) :
    ∃ a c, v = .slice a n c ∧ OwnB B w a n c xs := by
  have hl : xs.length = n := by have := h.1; simpa using this
  rcases h.2 with ⟨rfl, rfl⟩ | ⟨g, cap, cur, rfl, hb, hg, hnc, hcm, hcs, htake⟩
  · have : xs = [] := List.eq_nil_of_length_eq_zero hl
    subst this
    exact ⟨none, 0, rfl, OwnB.nil B w⟩
  · refine ⟨some ⟨g, 0, none⟩, cap, rfl, ⟨hl, hnc, by unfold maxLen at hcm; omega, hbd, .inr ⟨g, 0, rfl, fun i hi => ?_⟩⟩, .inr ⟨g, 0, cur, e, rfl, hb, hg⟩⟩
    rw [cell_of_row w g (0 + i) cur e (0, 0) hg, Nat.zero_add]
    have e1 : cur.toList[i]? = (cur.toList.take (n * 1))[i]? := by rw [List.getElem?_take, if_pos (by omega)]
    rw [← Array.getElem?_toList, e1, htake, List.getElem?_map, List.getElem?_eq_getElem (by omega), getD_of_lt (by omega)]
    rfl

/-- 'make([]byte, n)'. -/
theorem make_slB {P : Program} (w : World) {ops : Array Oper} {rest : List Oper} {o : Oper} {act : Act} {Q : Exit → Act → World → Prop}
    (hg : o.guard = none) (l c : Operand) (t : TypeId) (hop : o.op = Op.makeSlice t l c) (e : TypeId) (i : TypeInfo) (h1 : P.underlying t = some (.slice e)) (h2 : P.info? e = some i)
    (h3 : i.zero = some (.int .u8 0)) (h4 : i.size = 1) (h5 : i.bytes = 1) (L C : Int) (hl : act.eval l = .int .i64 L) (hc : act.eval c = .int .i64 C) (n : Nat) (hL : L = (n : Int)) (hC : C = (n : Int)) (hn : n ≤ 1099511627776)
    (hK : ∀ a w', OwnB w.heap.size w' a n n (List.replicate n 0) → Ext w w' → wpList P ops Q rest (act.put o.dst (.slice a n n)) w') :
    wpList P ops Q (o :: rest) act w := by
  refine wpList_make_full w hg l c t hop w.heap.size e i (.int .u8 0) 1 h1 h2 h3 h4 .i64 .i64 L C n hl hc hL hC (by rw [h5]; omega) (by unfold maxLen; omega) (Nat.le_refl _) ?_
  intro w' hown hgrow
  have e1 : (madeCells (Value.int .u8 0).cells (n * 1)).toList = (List.replicate n 0).map (fun x : Nat => Value.int .u8 (x : Int)) := by
    show (madeCells #[Value.int .u8 0] (n * 1)).toList = _
    rw [toList_madeCells_one]; simp
  rw [e1] at hown
  obtain ⟨a, c', hv, ho⟩ := OwnB.of_row hown (Bd.replicate (by decide : 0 < 256) n)
  have hv' := hv
  injection hv' with h1 h2 h3
  subst h1 h3
  exact hK _ _ ho (Ext.grown hgrow (fun k h => by cases h))

/-- 'append([]byte(nil), x...)'. -/
theorem append_nil_slB {P : Program} (w : World) {ops : Array Oper} {rest : List Oper} {o : Oper} {act : Act} {Q : Exit → Act → World → Prop} (hgd : o.guard = none) (s x : Operand) (t : TypeId)
    (ho : o.op = .call { callee := .builtin .append, args := #[s, x], argTypes := #[t, t] }) (e : TypeId) (i : TypeInfo) (h1 : P.underlying t = some (.slice e)) (h2 : P.info? e = some i)
    (h3 : i.zero = some (.int .u8 0)) (h4 : i.size = 1) (h5 : i.bytes = 1) (hs : act.eval s = .slice none 0 0) (a : Option Addr) (n c : Nat) (xs : List Nat) (hx : act.eval x = .slice a n c) (hsl : SlB w a n c xs) (hn : n ≤ 1099511627776)
    (hK : ∀ a' c' w', OwnB w.heap.size w' a' n c' xs → Ext w w' → wpList P ops Q rest (act.put o.dst (.slice a' n c')) w') :
    wpList P ops Q (o :: rest) act w := by
  cases a with
  | none =>
    obtain rfl : n = 0 := hsl.none_len
    obtain rfl : xs = [] := List.eq_nil_of_length_eq_zero hsl.len
    have hc : c = 0 := by
      rcases hsl.at_ with ⟨_, h⟩ | ⟨b, off, h, _⟩
      · exact h
      · cases h
    subst hc
    refine wpList_plain hgd fun K hK' => ?_
    have hr := run_append_owned_none (P := P) w w.heap.size t o.type e i 1 h1 h2 (.slice none 0 0) 0 [] (World.ownsRow_nil w _ e 1)
    unfold Oper.wp execOp
    simp only [ho, resolve, invoke, builtin, Sem.run_bind, Sem.run_pure, Result.andThen_ok, List.map_toArray, List.map_cons, List.map_nil, hs, hx, hr]
    exact hK' _ _ (hK none 0 w (OwnB.nil _ w) (Ext.refl w))
  | some ad =>
    have hcells : ∀ (j : Nat) u, (xs.map fun x : Nat => Value.int .u8 (x : Int))[j]? = some u → w.cell? (ad.add j) = some u := by
      intro j u hu
      rw [List.getElem?_map] at hu
      have hj : j < xs.length := by
        rcases Nat.lt_or_ge j xs.length with h | h
        · exact h
        · rw [List.getElem?_eq_none h] at hu; cases hu
      rw [List.getElem?_eq_getElem hj] at hu
      simp only [Option.map_some, Option.some.injEq] at hu
      subst hu
      rcases hsl.at_ with ⟨h, _⟩ | ⟨b, off, h, hc⟩
      · have := hsl.len; omega
      · cases h
        have hadd : (⟨b, off, none⟩ : Addr).add j = ⟨b, off + j, none⟩ := by unfold Addr.add; split <;> simp_all
        rw [hadd, hc j (by rw [← hsl.len]; exact hj), getD_of_lt hj]
    refine wpList_append_own w hgd s x t ho w.heap.size e i (.int .u8 0) 1 1 h1 h2 h3 h4 h5 rfl (by omega) (.slice none 0 0) 0 [] hs (World.ownsRow_nil w _ e 1) ad n c (xs.map fun x : Nat => Value.int .u8 (x : Int)) hx (by simp [hsl.len]) hcells (oneCell_u8 xs) (by unfold maxLen; omega) (by omega) (Nat.le_refl _) ?_
    · intro v' w' hown hgrow _
      simp only [Nat.zero_add, List.nil_append] at hown
      obtain ⟨a', c', rfl, ho'⟩ := OwnB.of_row hown hsl.bd
      exact hK a' c' w' ho' (Ext.grown hgrow (fun k h => by cases h))

theorem Ext.grownB {B : Nat} {w wr w1 : World} {a : Option Addr} {n c : Nat} {xs : List Nat} (h : Ext w wr) (hown : OwnB B wr a n c xs) (hB : w.heap.size ≤ B) (hg : wr.grownBy w1 (blk a)) : Ext w w1 :=
  Below.grown h hg h.size (fun k hk => Nat.le_trans hB (hown.ge k hk).1)
theorem infoU8b : (Tryz.prog.info? 5).map (fun i => (i.zero, i.size, i.bytes)) = some (some (.int .u8 0), 1, 1) := by kernel_rfl

/-- The call returns a new slice of these bytes. -/
def NewB (w : World) (L : Nat) (xs : List Nat) (e : Ending) (w' : World) : Prop :=
  ∃ a n c, e = .returned (.slice a n c) ∧ OwnB w.heap.size w' a n c xs ∧ Ext w w' ∧ n ≤ L

end Go.Proofs.YtdafjajleglccaaGreatDoor

/- gleanref1.Parse. -/
namespace Go.Proofs.YtdafjajleglccaaGreatDoor
open Go.RowKit Go.Lib

theorem append_row_sl' {P : Program} (w : World) {ops : Array Oper} {rest : List Oper} {o : Oper} {act : Act} {Q : Exit → Act → World → Prop} (hgd : o.guard = none) (s x : Operand) (t : TypeId)
    (ho : o.op = .call { callee := .builtin .append, args := #[s, x], argTypes := #[t, t] }) (e : TypeId) (i : TypeInfo) (h1 : P.underlying t = some (.slice e)) (h2 : P.info? e = some i)
    (h3 : i.zero = some (.int .u64 0)) (h4 : i.size = 1) (h5 : i.bytes = 8) (B : Nat) (v : Value) (k : Nat) (zs : List Nat) (hs : act.eval s = v) (hrow : w.ownsRow B e 1 v k (cells64 zs)) (hB : B ≤ w.heap.size)
    (a : Option Addr) (n c : Nat) (xs : List Nat) (hx : act.eval x = .slice a n c) (hsl : Sl w a n c xs) (hn : k + n ≤ 1099511627776) (_hbz : Bd B64 zs)
    (hK : ∀ v' w', w'.ownsRow B e 1 v' (k + n) (cells64 (zs ++ xs)) → w.grownBy w' v.ownBlock → wpList P ops Q rest (act.put o.dst v') w') :
    wpList P ops Q (o :: rest) act w := by
  cases a with
  | none =>
    obtain rfl : n = 0 := hsl.none_len
    obtain rfl : xs = [] := List.eq_nil_of_length_eq_zero hsl.len
    have hc : c = 0 := by
      rcases hsl.at_ with hh | ⟨b, off, h, _⟩
      · first | exact hh.2.2 | exact hh.2
      · cases h
    subst hc
    refine wpList_plain hgd fun K hK' => ?_
    have hr := run_append_owned_none (P := P) w B t o.type e i 1 h1 h2 v k (cells64 zs) hrow
    unfold Oper.wp execOp
    simp only [ho, resolve, invoke, builtin, Sem.run_bind, Sem.run_pure, Result.andThen_ok, List.map_toArray, List.map_cons, List.map_nil, hs, hx, hr]
    exact hK' _ _ (hK v w (by simpa using hrow) (grownBy_refl _ _))
  | some ad =>
    have hcells : ∀ (j : Nat) u, (cells64 xs)[j]? = some u → w.cell? (ad.add j) = some u := by
      intro j u hu
      unfold cells64 at hu
      rw [List.getElem?_map] at hu
      have hj : j < xs.length := by
        rcases Nat.lt_or_ge j xs.length with h | h
        · exact h
        · rw [List.getElem?_eq_none h] at hu; cases hu
      rw [List.getElem?_eq_getElem hj] at hu
      simp only [Option.map_some, Option.some.injEq] at hu
      subst hu
      rcases hsl.at_ with hh | ⟨b, off, h, hc⟩
      · have := hsl.len
        have h0 : n = 0 := by first | exact hh.1 | exact hh.2.1
        omega
      · cases h
        have hadd : (⟨b, off, none⟩ : Addr).add j = ⟨b, off + j, none⟩ := by unfold Addr.add; split <;> simp_all
        rw [hadd, hc j (by rw [← hsl.len]; exact hj), getD_of_lt hj]
    refine wpList_append_own w hgd s x t ho B e i (.int .u64 0) 1 8 h1 h2 h3 h4 h5 rfl (by omega) v k (cells64 zs) hs hrow ad n c (cells64 xs) hx (by simp [cells64, hsl.len]) hcells (oneCell_u64 xs) (by unfold maxLen; omega) (by omega) hB ?_
    intro v' w' hown hgrow _
    exact hK v' w' (by simpa [cells64] using hown) hgrow

/-- What every text is read as. -/
def prL (l : List UInt8) : List Nat := if decForm l = true then lim (dnum l) else []
def prE (l : List UInt8) : Int := if decForm l = true then 0 else 13
theorem parse_any (l : List UInt8) (hl : l.length ≤ 1000000) (w : World) : Calls Tryz.prog 72 #[.string ⟨l.toArray⟩] w (New2 w l.length (prL l) (prE l)) := by
  unfold prL prE
  by_cases h : decForm l = true
  · rw [if_pos h, if_pos h]; exact parse_form l hl h w
  · rw [if_neg h, if_neg h]
    exact (parse_bad l hl (Bool.eq_false_iff.2 h) w).mono fun e w' ⟨a, n, c, h1, h2, h3, h4⟩ => ⟨a, n, c, h1, h2, h3, by omega⟩

/-- A row of one's own as the walk meets it: what lies where, and a store. -/
theorem row_at {P : Program} {w : World} {B : Nat} {v : Value} {n : Nat} {ds : List Nat} {T E : TypeId} {i : TypeInfo} (h : w.ownsRow B E 1 v n (cells64 ds)) (hT : P.underlying T = some (.slice E)) (hi : P.info? E = some i) (hs : i.size = 1)
    (j : Nat) (hj : j < n) : ∃ g, (∀ w' : World, (Instr.indexAt T v (.int .i64 (j : Int))).run P w' = .ok (.pointer (some ⟨g, j, none⟩)) w') ∧ w.cell? ⟨g, j, none⟩ = some (.int .u64 ((ds.getD j 0 : Nat) : Int)) ∧ w.frozen? ⟨g, j, none⟩ = false ∧ B ≤ g ∧
      ∀ x : Nat, (w.setCell ⟨g, j, none⟩ (.int .u64 (x : Int))).ownsRow B E 1 v n (cells64 (ds.set j x)) ∧ w.grownBy (w.setCell ⟨g, j, none⟩ (.int .u64 (x : Int))) (some g) := by
  have hl : ds.length = n := by have := h.1; simpa [cells64] using this
  obtain ⟨g, cap, rfl, hB, -⟩ := h.form (by omega)
  refine ⟨g, fun w' => ?_, ?_, h.frozenAt j, hB, fun x => ?_⟩
  · have hr := run_sizeOf hi w'
    rw [hs] at hr
    simp only [Instr.indexAt, Sem.run_bind, run_underlying hT, Result.andThen_ok, asIntOf, Sem.run_pure]
    have h1 : (0 : Int) ≤ (j : Int) ∧ (j : Int) < (n : Int) := ⟨by omega, by omega⟩
    simp [hj, hr, Addr.add]
    try omega
  · rw [h.cellAt j (by omega)]
    unfold cells64
    rw [List.getElem?_map, List.getElem?_eq_getElem (by omega), getD_of_lt (by omega)]
    rfl
  · obtain ⟨s1, s2⟩ := h.stored j (.int .u64 (x : Int))
    refine ⟨?_, s2⟩
    have e : cells64 (ds.set j x) = (cells64 ds).set j (.int .u64 (x : Int)) := by unfold cells64; rw [List.map_set]
    rw [e]; exact s1

def RPRel (w : World) (l : List UInt8) (xv iv : Value) (wr : World) : Prop :=
  ∃ (i D : Nat) (ds : List Nat), i ≤ l.length ∧ iv = .int .i64 (i : Int) ∧ Bd B32 ds ∧ D = ds.length ∧ D ≤ i ∧ rval ds = dnum (l.take i) ∧ (l.take i).all isDig = true ∧ wr.ownsRow w.heap.size 26 1 xv D (cells64 ds) ∧ Ext w wr
def RPRel2 (w : World) (xv : Value) (D : Nat) (ds : List Nat) (c0 : Nat) (cv jv : Value) (wr : World) : Prop :=
  ∃ (j cr : Nat) (es : List Nat), j ≤ D ∧ jv = .int .i64 (j : Int) ∧ cv = .int .u64 (cr : Int) ∧ cr ≤ 9 ∧ es.length = D ∧ Bd B32 es ∧ es.drop j = ds.drop j ∧ nv B32 (es.take j) + B32 ^ j * cr = nv B32 (ds.take j) * 10 + c0 ∧
    wr.ownsRow w.heap.size 26 1 xv D (cells64 es) ∧ Ext w wr
theorem rp_round {b p r q cr u s c' c0 : Nat} (h : r + p * cr = q * 10 + c0) (hv : s + b * c' = u * 10 + cr) : r + p * s + p * b * c' = (q + p * u) * 10 + c0 := by
  have h1 : p * s + p * b * c' = p * u * 10 + p * cr := by
    rw [Nat.mul_assoc p b c', ← Nat.mul_add, hv, Nat.mul_add, Nat.mul_assoc]
  rw [Nat.add_mul]
  omega
theorem dnum_take_succ {l : List UInt8} {i : Nat} (h : i < l.length) : dnum (l.take (i + 1)) = dnum (l.take i) * 10 + ((l[i]'h).toNat - 48) := by
  rw [List.take_succ_eq_append_getElem h, dnum_append, dnum_one]; simp
theorem all_take_succ {l : List UInt8} {i : Nat} (h : i < l.length) : (l.take (i + 1)).all isDig = ((l.take i).all isDig && isDig (l[i]'h)) := by
  rw [List.take_succ_eq_append_getElem h, List.all_append]; simp

set_option maxHeartbeats 8000000 in
set_option maxRecDepth 100000 in
theorem rparse_calls (l : List UInt8) (hl : l.length ≤ 1000000) (w : World) :
    Calls Tryz.prog 76 #[.string ⟨l.toArray⟩] w (New2 w l.length (prL l) (prE l)) := by
  obtain ⟨i0, hi, hz0, hs, hby⟩ := info_parts info64
  have H1 := Lib.hid hi; have H2 := Lib.hid hz0; have H3 := Lib.hid hs; have H4 := Lib.hid hby
  clear hi hz0 hs hby
  have HNO := Lib.hid (fun (h : decForm l = false) => show prL l = [] ∧ prE l = 13 by unfold prL prE; rw [h]; exact ⟨rfl, rfl⟩)
  have HYES := Lib.hid (fun (h : decForm l = true) => show prL l = lim (dnum l) ∧ prE l = 0 by unfold prL prE; rw [h]; exact ⟨rfl, rfl⟩)
  by_cases hnil : l = []
  · subst hnil
    obtain ⟨h1, h2⟩ := HNO.out rfl
    rw [h1, h2]
    clear HNO HYES h1 h2
    go_enter Tryz.func76, Tryz.ntmps76
    go_wp2_with fail
    go_ret2
    exact ⟨none, 0, 0, rfl, Own.nil _ _, Ext.refl _, Nat.le_refl _⟩
  have hpos : 0 < l.length := List.length_pos_iff.2 hnil
  obtain ⟨c1, hc1⟩ : ∃ c, l[0]'hpos = c := ⟨_, rfl⟩
  have hsz := str_size l
  have HGET := Lib.hid (fun (i : Nat) (h : i < l.length) => show ∀ hz : i < (⟨l.toArray⟩ : ByteArray).size, (⟨l.toArray⟩ : ByteArray)[i]'hz = l[i]'h from fun _ => rfl)
  have hget0 : ∀ hz : 0 < (⟨l.toArray⟩ : ByteArray).size, (⟨l.toArray⟩ : ByteArray)[0]'hz = c1 := fun _ => hc1
  have hhead : l.head? = some c1 := by rw [List.head?_eq_getElem?, List.getElem?_eq_getElem hpos, hc1]
  generalize hS : (⟨l.toArray⟩ : ByteArray) = S at hsz HGET hget0 ⊢
  obtain ⟨N, hN⟩ : ∃ N, l.length = N := ⟨_, rfl⟩
  rw [hN] at hsz hl hpos ⊢
  have HN := Lib.hid hN
  have g0 : ((N : Int) == 0) = false := by rw [beq_eq_false_iff_ne]; omega
  have hc1b : c1.toNat < 256 := c1.toNat_lt
  clear hc1 hS
  have HF := Lib.hid (show decForm l = (!(decide (c1.toNat = 48) && decide (1 < N)) && l.all isDig) by
    have e48 : decide (l.head? = some 48) = decide (c1.toNat = 48) := by
      rw [hhead, Bool.eq_iff_iff, decide_eq_true_iff, decide_eq_true_iff]
      constructor
      · intro h; have := Option.some.inj h; rw [this]; rfl
      · intro h; have : c1 = 48 := UInt8.toNat_inj.1 h; rw [this]
    unfold decForm
    rw [decide_eq_true hnil, e48, hN, Bool.true_and])
  clear hhead hnil hN
  by_cases hbad : c1.toNat = 48 ∧ 1 < N
  · obtain ⟨hb1, hb2⟩ := hbad
    have hd : decForm l = false := by rw [HF.out, decide_eq_true hb1, decide_eq_true hb2]; rfl
    obtain ⟨h1, h2⟩ := HNO.out hd
    rw [h1, h2]
    have hI : (c1.toNat : Int) = 48 := by omega
    have hI2 : (1 : Int) < (N : Int) := by omega
    clear HNO HYES h1 h2 hd
    go_enter Tryz.func76, Tryz.ntmps76
    go_wp2_with fail
    go_ret2
    exact ⟨none, 0, 0, rfl, Own.nil _ _, Ext.refl _, by omega⟩
  have HF2 := Lib.hid (show decForm l = l.all isDig by
    rw [HF.out]
    by_cases h1 : c1.toNat = 48
    · rw [decide_eq_false (fun h => hbad ⟨h1, h⟩)]; simp
    · rw [decide_eq_false h1]; simp)
  obtain ⟨LL, hLL⟩ : ∃ L, prL l = L := ⟨_, rfl⟩
  obtain ⟨EE, hEE⟩ : ∃ E, prE l = E := ⟨_, rfl⟩
  rw [hLL, hEE]
  rw [hLL, hEE] at HNO HYES
  have HYES2 := Lib.hid (fun (h : l.all isDig = true) => HYES.out (by rw [HF2.out]; exact h))
  have HNO2 := Lib.hid (fun (h : l.all isDig = false) => HNO.out (by rw [HF2.out]; exact h))
  clear HF HF2 HYES HNO hLL hEE
  by_cases h48 : c1.toNat = 48
  · have hN1 : ¬ ((1 : Int) < (N : Int)) := by
      have : ¬ 1 < N := fun h => hbad ⟨h48, h⟩
      omega
    clear hbad h48
    go_enter Tryz.func76, Tryz.ntmps76
    go_wp2_with fail
    go_loopw [4, 5] (fun xv iv wr => RPRel w l xv iv wr) (fun _ iv _ => N - (RowKit.intOf iv).toNat)
    case atStart => exact ⟨0, 0, [], by omega, rfl, Bd.nil _, rfl, by omega, by rw [List.take_zero, dnum_nil]; rfl, rfl, World.ownsRow_nil _ _ _ _, Ext.refl _⟩
    case round =>
      obtain ⟨i, D, ds, hiN, rfl, hbd, hD, hDi, hval, hall, hrow, hex⟩ := hrel
      rw [HN.out] at hiN
      have HBD := Lib.hid hbd; have HVAL := Lib.hid hval; have HALL := Lib.hid hall; have HROW := Lib.hid hrow; have HEX := Lib.hid hex; have HD := Lib.hid hD
      obtain ⟨xa, xc, hxv⟩ := row_slice' hrow
      subst hxv
      clear hbd hval hall hrow hex hD
      by_cases hin : i = N
      · have hall2 : l.all isDig = true := by
          have := HALL.out
          rwa [List.take_of_length_le (by rw [HN.out]; omega)] at this
        have hval2 : rval ds = dnum l := by
          have := HVAL.out
          rwa [List.take_of_length_le (by rw [HN.out]; omega)] at this
        obtain ⟨h1, h2⟩ := HYES2.out hall2
        obtain ⟨a2, c2, hv2, ho2⟩ := Own.of_row HROW.out HBD.out.wide
        injection hv2 with q1 q2 q3
        subst q1 q3 h2
        have CN := number_calls ho2.sl HBD.out (by omega)
        rw [hval2, ← h1] at CN
        have HCN := Lib.hid CN
        clear CN ho2 hall2 hval2 h1
        have hge : ¬ ((i : Int) < (N : Int)) := by omega
        clear hin
        go_wp2_with fail
        refine HCN.out.mono ?_
        rintro e w3 ⟨a3, n3, c3, rfl, hown3, hext3, hn3⟩
        go_wp2_with fail
        go_ret2
        exact ⟨a3, n3, c3, rfl, hown3.mono HEX.out.size, HEX.out.trans hext3, by omega⟩
      · have hlt : (i : Int) < (N : Int) := by omega
        have hil : i < l.length := by rw [HN.out]; omega
        obtain ⟨c, hc⟩ : ∃ c, l[i]'hil = c := ⟨_, rfl⟩
        have hget : ∀ hz : i < S.size, S[i]'hz = c := fun hz => (HGET.out i hil hz).trans hc
        have hall3 := all_take_succ hil
        have hval3 := dnum_take_succ hil
        rw [hc] at hall3 hval3
        rw [HALL.out, Bool.true_and] at hall3
        rw [← HVAL.out] at hval3
        have hcb : c.toNat < 256 := c.toNat_lt
        have HA3 := Lib.hid hall3; have HV3 := Lib.hid hval3
        have HFAIL := Lib.hid (fun (h : isDig c = false) => show l.all isDig = false by
          rw [Bool.eq_false_iff]
          intro h2
          have := List.all_eq_true.1 h2 (l[i]'hil) (List.getElem_mem hil)
          rw [hc, h] at this
          exact absurd this (by decide))
        clear hall3 hval3 hc hin
        by_cases hlo : c.toNat < 48
        · obtain ⟨h1, h2⟩ := HNO2.out (HFAIL.out (by simp [isDig]; omega))
          subst h1 h2
          have hloI : (c.toNat : Int) < 48 := by omega
          go_wp2_with fail
          go_ret2
          exact ⟨none, 0, 0, rfl, Own.nil _ _, HEX.out, by omega⟩
        by_cases hhi : 57 < c.toNat
        · obtain ⟨h1, h2⟩ := HNO2.out (HFAIL.out (by simp [isDig]; omega))
          subst h1 h2
          have hloI : ¬ ((c.toNat : Int) < 48) := by omega
          have hhiI : (57 : Int) < (c.toNat : Int) := by omega
          go_wp2_with fail
          go_ret2
          exact ⟨none, 0, 0, rfl, Own.nil _ _, HEX.out, by omega⟩
        have hdig : isDig c = true := by rw [isDig_iff]; omega
        have HDIG := Lib.hid (HA3.out.trans hdig)
        obtain ⟨d, hd⟩ : ∃ d, c.toNat - 48 = d := ⟨_, rfl⟩
        have hd9 : d ≤ 9 := by omega
        have hdI : (c.toNat : Int) - 48 = (d : Int) := by omega
        rw [hd] at HV3
        have hloI : ¬ ((c.toNat : Int) < 48) := by omega
        have hhiI : ¬ ((57 : Int) < (c.toNat : Int)) := by omega
        have HST := Lib.hid (show RPRel2 w (.slice xa D xc) D ds d (.int .u64 (d : Int)) (.int .i64 0) wr from ⟨0, d, ds, by omega, rfl, rfl, hd9, HD.out.symm, HBD.out, rfl, by simp, HROW.out, HEX.out⟩)
        clear hd hdig HFAIL HA3 hlo hhi
        go_wp2_with fail
        go_loopw [6, 7] (fun cv jv wr => RPRel2 w (.slice xa D xc) D ds d cv jv wr) (fun _ jv _ => D - (RowKit.intOf jv).toNat)
        case atStart => exact HST.out
        case round =>
          obtain ⟨j, cr, es, hj, rfl, rfl, hcr, hes, hbe, hdrop, hnv, hrow2, hex2⟩ := hrel
          have HES := Lib.hid hes; have HBE := Lib.hid hbe; have HDROP := Lib.hid hdrop; have HNV := Lib.hid hnv; have HROW2 := Lib.hid hrow2; have HEX2 := Lib.hid hex2
          clear hes hbe hdrop hnv hrow2 hex2
          by_cases hjD : j = D
          · have hvv : rval es + B32 ^ D * cr = rval ds * 10 + d := by
              have := HNV.out
              rw [hjD, List.take_of_length_le (by rw [HES.out]; exact Nat.le_refl _), List.take_of_length_le (by rw [← HD.out]; exact Nat.le_refl _)] at this
              exact this
            rw [← HV3.out] at hvv
            have HVV := Lib.hid hvv
            have hge : ¬ ((j : Int) < (D : Int)) := by omega
            clear hvv hjD
            by_cases hcr0 : cr = 0
            · subst hcr0
              have HV0 := Lib.hid (show rval es = dnum (l.take (i + 1)) by have := HVV.out; rw [Nat.mul_zero, Nat.add_zero] at this; exact this)
              go_wp2_with fail
              go_roundw
              case rel => 
                have HREL : RPRel w l (.slice xa D xc) (.int .i64 ((i : Int) + 1)) wr := ⟨i + 1, D, es, by rw [HN.out]; omega, by go_num, HBE.out, HES.out.symm, by omega, HV0.out, HDIG.out, HROW2.out, HEX2.out⟩
                first | exact HREL | exact ⟨_, _, _, _, HREL, rfl, rfl, rfl, rfl⟩
              case measure => simp only [RowKit.intOf]; omega
            · have hcrp : (0 : Int) < (cr : Int) := by omega
              have hcrB : cr < B64 := by rw [B64_eq]; omega
              obtain ⟨Z, hZ⟩ : ∃ Z, wr.alloc (.cells #[.int .u64 (cr : Int)] 26) = Z := ⟨_, rfl⟩
              have SZ := Lib.hid (show Sl Z (some ⟨wr.heap.size, 0, none⟩) 1 1 [cr] by rw [← hZ]; exact (own_lit wr.heap.size wr cr hcrB (Nat.le_refl _)).sl)
              have EZ := Lib.hid (show Ext w Z by rw [← hZ]; exact HEX2.out.alloc _)
              have RZ := Lib.hid (show Z.ownsRow w.heap.size 26 1 (.slice xa D xc) D (cells64 es) by rw [← hZ]; exact World.ownsRow.alloc HROW2.out _)
              have HZ := Lib.hid hZ
              have HCB := Lib.hid hcrB
              clear hZ hcrB
              go_wp2_with (first | (at_builtin; refine append_row_sl' _ rfl _ _ _ rfl _ _ Tryz.underlying22 H1.out H2.out H3.out H4.out w.heap.size _ _ _ rfl RZ.out EZ.out.size _ _ _ _ rfl SZ.out (by omega) HBE.out.wide ?_) | rw [HZ.out])
              intro v5 w5 o5 g5
              have E5 := Lib.hid (Below.grown EZ.out g5 EZ.out.size (fun k h => (World.ownsRow.lt HROW2.out k h).1))
              have O5 := Lib.hid o5
              obtain ⟨rg, rh, hvr⟩ := row_slice' o5
              subst hvr
              clear o5 g5
              have HV0 := Lib.hid (show rval (es ++ [cr]) = dnum (l.take (i + 1)) by
                have := HVV.out
                unfold rval at this ⊢
                rw [nv_append, HES.out]
                simpa [nv] using this)
              go_wp2_with fail
              go_roundw
              case rel => 
                have HREL : RPRel w l (.slice rg (D + 1) rh) (.int .i64 ((i : Int) + 1)) w5 := ⟨i + 1, D + 1, es ++ [cr], by rw [HN.out]; omega, by go_num, HBE.out.append (Bd.cons (by rw [B32_eq]; omega) (Bd.nil _)), by rw [List.length_append, HES.out]; rfl, by omega, HV0.out, HDIG.out, O5.out, E5.out⟩
                first | exact HREL | exact ⟨_, _, _, _, HREL, rfl, rfl, rfl, rfl⟩
              case measure => simp only [RowKit.intOf]; omega
          · omega
  · have hne : ((c1.toNat : Int) == 48) = false := by rw [beq_eq_false_iff_ne]; omega
    clear hbad h48
    by_cases hN1 : (1 : Int) < (N : Int)
    · skip
      go_enter Tryz.func76, Tryz.ntmps76
      go_wp2_with fail
      go_loopw [4, 5] (fun xv iv wr => RPRel w l xv iv wr) (fun _ iv _ => N - (RowKit.intOf iv).toNat)
      case atStart => exact ⟨0, 0, [], by omega, rfl, Bd.nil _, rfl, by omega, by rw [List.take_zero, dnum_nil]; rfl, rfl, World.ownsRow_nil _ _ _ _, Ext.refl _⟩
      case round =>
        obtain ⟨i, D, ds, hiN, rfl, hbd, hD, hDi, hval, hall, hrow, hex⟩ := hrel
        rw [HN.out] at hiN
        have HBD := Lib.hid hbd; have HVAL := Lib.hid hval; have HALL := Lib.hid hall; have HROW := Lib.hid hrow; have HEX := Lib.hid hex; have HD := Lib.hid hD
        obtain ⟨xa, xc, hxv⟩ := row_slice' hrow
        subst hxv
        clear hbd hval hall hrow hex hD
        by_cases hin : i = N
        · have hall2 : l.all isDig = true := by
            have := HALL.out
            rwa [List.take_of_length_le (by rw [HN.out]; omega)] at this
          have hval2 : rval ds = dnum l := by
            have := HVAL.out
            rwa [List.take_of_length_le (by rw [HN.out]; omega)] at this
          obtain ⟨h1, h2⟩ := HYES2.out hall2
          obtain ⟨a2, c2, hv2, ho2⟩ := Own.of_row HROW.out HBD.out.wide
          injection hv2 with q1 q2 q3
          subst q1 q3 h2
          have CN := number_calls ho2.sl HBD.out (by omega)
          rw [hval2, ← h1] at CN
          have HCN := Lib.hid CN
          clear CN ho2 hall2 hval2 h1
          have hge : ¬ ((i : Int) < (N : Int)) := by omega
          clear hin
          go_wp2_with fail
          refine HCN.out.mono ?_
          rintro e w3 ⟨a3, n3, c3, rfl, hown3, hext3, hn3⟩
          go_wp2_with fail
          go_ret2
          exact ⟨a3, n3, c3, rfl, hown3.mono HEX.out.size, HEX.out.trans hext3, by omega⟩
        · have hlt : (i : Int) < (N : Int) := by omega
          have hil : i < l.length := by rw [HN.out]; omega
          obtain ⟨c, hc⟩ : ∃ c, l[i]'hil = c := ⟨_, rfl⟩
          have hget : ∀ hz : i < S.size, S[i]'hz = c := fun hz => (HGET.out i hil hz).trans hc
          have hall3 := all_take_succ hil
          have hval3 := dnum_take_succ hil
          rw [hc] at hall3 hval3
          rw [HALL.out, Bool.true_and] at hall3
          rw [← HVAL.out] at hval3
          have hcb : c.toNat < 256 := c.toNat_lt
          have HA3 := Lib.hid hall3; have HV3 := Lib.hid hval3
          have HFAIL := Lib.hid (fun (h : isDig c = false) => show l.all isDig = false by
            rw [Bool.eq_false_iff]
            intro h2
            have := List.all_eq_true.1 h2 (l[i]'hil) (List.getElem_mem hil)
            rw [hc, h] at this
            exact absurd this (by decide))
          clear hall3 hval3 hc hin
          by_cases hlo : c.toNat < 48
          · obtain ⟨h1, h2⟩ := HNO2.out (HFAIL.out (by simp [isDig]; omega))
            subst h1 h2
            have hloI : (c.toNat : Int) < 48 := by omega
            go_wp2_with fail
            go_ret2
            exact ⟨none, 0, 0, rfl, Own.nil _ _, HEX.out, by omega⟩
          by_cases hhi : 57 < c.toNat
          · obtain ⟨h1, h2⟩ := HNO2.out (HFAIL.out (by simp [isDig]; omega))
            subst h1 h2
            have hloI : ¬ ((c.toNat : Int) < 48) := by omega
            have hhiI : (57 : Int) < (c.toNat : Int) := by omega
            go_wp2_with fail
            go_ret2
            exact ⟨none, 0, 0, rfl, Own.nil _ _, HEX.out, by omega⟩
          have hdig : isDig c = true := by rw [isDig_iff]; omega
          have HDIG := Lib.hid (HA3.out.trans hdig)
          obtain ⟨d, hd⟩ : ∃ d, c.toNat - 48 = d := ⟨_, rfl⟩
          have hd9 : d ≤ 9 := by omega
          have hdI : (c.toNat : Int) - 48 = (d : Int) := by omega
          rw [hd] at HV3
          have hloI : ¬ ((c.toNat : Int) < 48) := by omega
          have hhiI : ¬ ((57 : Int) < (c.toNat : Int)) := by omega
          have HST := Lib.hid (show RPRel2 w (.slice xa D xc) D ds d (.int .u64 (d : Int)) (.int .i64 0) wr from ⟨0, d, ds, by omega, rfl, rfl, hd9, HD.out.symm, HBD.out, rfl, by simp, HROW.out, HEX.out⟩)
          clear hd hdig HFAIL HA3 hlo hhi
          go_wp2_with fail
          go_loopw [6, 7] (fun cv jv wr => RPRel2 w (.slice xa D xc) D ds d cv jv wr) (fun _ jv _ => D - (RowKit.intOf jv).toNat)
          case atStart => exact HST.out
          case round =>
            obtain ⟨j, cr, es, hj, rfl, rfl, hcr, hes, hbe, hdrop, hnv, hrow2, hex2⟩ := hrel
            have HES := Lib.hid hes; have HBE := Lib.hid hbe; have HDROP := Lib.hid hdrop; have HNV := Lib.hid hnv; have HROW2 := Lib.hid hrow2; have HEX2 := Lib.hid hex2
            clear hes hbe hdrop hnv hrow2 hex2
            by_cases hjD : j = D
            · have hvv : rval es + B32 ^ D * cr = rval ds * 10 + d := by
                have := HNV.out
                rw [hjD, List.take_of_length_le (by rw [HES.out]; exact Nat.le_refl _), List.take_of_length_le (by rw [← HD.out]; exact Nat.le_refl _)] at this
                exact this
              rw [← HV3.out] at hvv
              have HVV := Lib.hid hvv
              have hge : ¬ ((j : Int) < (D : Int)) := by omega
              clear hvv hjD
              by_cases hcr0 : cr = 0
              · subst hcr0
                have HV0 := Lib.hid (show rval es = dnum (l.take (i + 1)) by have := HVV.out; rw [Nat.mul_zero, Nat.add_zero] at this; exact this)
                go_wp2_with fail
                go_roundw
                case rel => 
                  have HREL : RPRel w l (.slice xa D xc) (.int .i64 ((i : Int) + 1)) wr := ⟨i + 1, D, es, by rw [HN.out]; omega, by go_num, HBE.out, HES.out.symm, by omega, HV0.out, HDIG.out, HROW2.out, HEX2.out⟩
                  first | exact HREL | exact ⟨_, _, _, _, HREL, rfl, rfl, rfl, rfl⟩
                case measure => simp only [RowKit.intOf]; omega
              · have hcrp : (0 : Int) < (cr : Int) := by omega
                have hcrB : cr < B64 := by rw [B64_eq]; omega
                obtain ⟨Z, hZ⟩ : ∃ Z, wr.alloc (.cells #[.int .u64 (cr : Int)] 26) = Z := ⟨_, rfl⟩
                have SZ := Lib.hid (show Sl Z (some ⟨wr.heap.size, 0, none⟩) 1 1 [cr] by rw [← hZ]; exact (own_lit wr.heap.size wr cr hcrB (Nat.le_refl _)).sl)
                have EZ := Lib.hid (show Ext w Z by rw [← hZ]; exact HEX2.out.alloc _)
                have RZ := Lib.hid (show Z.ownsRow w.heap.size 26 1 (.slice xa D xc) D (cells64 es) by rw [← hZ]; exact World.ownsRow.alloc HROW2.out _)
                have HZ := Lib.hid hZ
                have HCB := Lib.hid hcrB
                clear hZ hcrB
                go_wp2_with (first | (at_builtin; refine append_row_sl' _ rfl _ _ _ rfl _ _ Tryz.underlying22 H1.out H2.out H3.out H4.out w.heap.size _ _ _ rfl RZ.out EZ.out.size _ _ _ _ rfl SZ.out (by omega) HBE.out.wide ?_) | rw [HZ.out])
                intro v5 w5 o5 g5
                have E5 := Lib.hid (Below.grown EZ.out g5 EZ.out.size (fun k h => (World.ownsRow.lt HROW2.out k h).1))
                have O5 := Lib.hid o5
                obtain ⟨rg, rh, hvr⟩ := row_slice' o5
                subst hvr
                clear o5 g5
                have HV0 := Lib.hid (show rval (es ++ [cr]) = dnum (l.take (i + 1)) by
                  have := HVV.out
                  unfold rval at this ⊢
                  rw [nv_append, HES.out]
                  simpa [nv] using this)
                go_wp2_with fail
                go_roundw
                case rel => 
                  have HREL : RPRel w l (.slice rg (D + 1) rh) (.int .i64 ((i : Int) + 1)) w5 := ⟨i + 1, D + 1, es ++ [cr], by rw [HN.out]; omega, by go_num, HBE.out.append (Bd.cons (by rw [B32_eq]; omega) (Bd.nil _)), by rw [List.length_append, HES.out]; rfl, by omega, HV0.out, HDIG.out, O5.out, E5.out⟩
                  first | exact HREL | exact ⟨_, _, _, _, HREL, rfl, rfl, rfl, rfl⟩
                case measure => simp only [RowKit.intOf]; omega
            · have hltj : (j : Int) < (D : Int) := by omega
              obtain ⟨g, x1, x2, x3, hg, hst⟩ := row_at (P := Tryz.prog) HROW2.out Tryz.underlying22 H1.out H3.out j (by omega)
              have HG := Lib.hid hg; have HSTO := Lib.hid hst
              have hu := HBE.out.getD B32_pos j
              have HUD := Lib.hid (getD_of_drop HDROP.out)
              have HT1 := Lib.hid (nv_take_succ' B32 ds j)
              rw [← HUD.out] at HT1
              clear hg hst
              generalize es.getD j 0 = u at *
              rw [B32_eq] at hu
              obtain ⟨v, hv⟩ : ∃ v, u * 10 + cr = v := ⟨_, rfl⟩
              have hvB : v < 42949672960 := by omega
              have hvI : (u : Int) * 10 + (cr : Int) = (v : Int) := by omega
              have hand := rand_half v (by rw [B64_eq]; omega)
              have hshr := rshr_half v
              obtain ⟨s, hs⟩ : ∃ s, v % B32 = s := ⟨_, rfl⟩
              obtain ⟨c', hc'⟩ : ∃ c', v / B32 = c' := ⟨_, rfl⟩
              rw [hs] at hand
              rw [hc'] at hshr
              have hsB : s < B32 := by rw [← hs]; exact Nat.mod_lt _ B32_pos
              have hc9 : c' ≤ 9 := by rw [← hc', B32_eq]; omega
              have HSV := Lib.hid (show s + B32 * c' = u * 10 + cr by rw [← hs, ← hc', hv]; exact Nat.mod_add_div _ _)
              have HSB := Lib.hid hsB
              have hs64 : s < 18446744073709551616 := Nat.lt_of_lt_of_le hsB (by decide)
              clear hv hs hc' hsB
              obtain ⟨s1, s2⟩ := HSTO.out s
              have HS1 := Lib.hid s1; have HS2 := Lib.hid s2
              clear s1 s2
              have HE2 := Lib.hid (Below.grown HEX2.out HS2.out HEX2.out.size (fun k h => by cases h; exact HG.out))
              go_wp2_with fail
              go_roundw
              case rel =>
                refine ⟨j + 1, c', es.set j s, by omega, by go_num, rfl, hc9, by rw [List.length_set]; exact HES.out, HBE.out.set j HSB.out, ?_, ?_, HS1.out, HE2.out⟩
                · rw [drop_set_lo _ _ _ _ (by omega)]; exact drop_succ_of_drop HDROP.out
                · rw [nv_take_set _ _ _ _ (by rw [HES.out]; omega), HT1.out, Nat.pow_succ]
                  exact rp_round HNV.out HSV.out
              case measure => simp only [RowKit.intOf]; omega
    · skip
      go_enter Tryz.func76, Tryz.ntmps76
      go_wp2_with fail
      go_loopw [4, 5] (fun xv iv wr => RPRel w l xv iv wr) (fun _ iv _ => N - (RowKit.intOf iv).toNat)
      case atStart => exact ⟨0, 0, [], by omega, rfl, Bd.nil _, rfl, by omega, by rw [List.take_zero, dnum_nil]; rfl, rfl, World.ownsRow_nil _ _ _ _, Ext.refl _⟩
      case round =>
        obtain ⟨i, D, ds, hiN, rfl, hbd, hD, hDi, hval, hall, hrow, hex⟩ := hrel
        rw [HN.out] at hiN
        have HBD := Lib.hid hbd; have HVAL := Lib.hid hval; have HALL := Lib.hid hall; have HROW := Lib.hid hrow; have HEX := Lib.hid hex; have HD := Lib.hid hD
        obtain ⟨xa, xc, hxv⟩ := row_slice' hrow
        subst hxv
        clear hbd hval hall hrow hex hD
        by_cases hin : i = N
        · have hall2 : l.all isDig = true := by
            have := HALL.out
            rwa [List.take_of_length_le (by rw [HN.out]; omega)] at this
          have hval2 : rval ds = dnum l := by
            have := HVAL.out
            rwa [List.take_of_length_le (by rw [HN.out]; omega)] at this
          obtain ⟨h1, h2⟩ := HYES2.out hall2
          obtain ⟨a2, c2, hv2, ho2⟩ := Own.of_row HROW.out HBD.out.wide
          injection hv2 with q1 q2 q3
          subst q1 q3 h2
          have CN := number_calls ho2.sl HBD.out (by omega)
          rw [hval2, ← h1] at CN
          have HCN := Lib.hid CN
          clear CN ho2 hall2 hval2 h1
          have hge : ¬ ((i : Int) < (N : Int)) := by omega
          clear hin
          go_wp2_with fail
          refine HCN.out.mono ?_
          rintro e w3 ⟨a3, n3, c3, rfl, hown3, hext3, hn3⟩
          go_wp2_with fail
          go_ret2
          exact ⟨a3, n3, c3, rfl, hown3.mono HEX.out.size, HEX.out.trans hext3, by omega⟩
        · have hlt : (i : Int) < (N : Int) := by omega
          have hil : i < l.length := by rw [HN.out]; omega
          obtain ⟨c, hc⟩ : ∃ c, l[i]'hil = c := ⟨_, rfl⟩
          have hget : ∀ hz : i < S.size, S[i]'hz = c := fun hz => (HGET.out i hil hz).trans hc
          have hall3 := all_take_succ hil
          have hval3 := dnum_take_succ hil
          rw [hc] at hall3 hval3
          rw [HALL.out, Bool.true_and] at hall3
          rw [← HVAL.out] at hval3
          have hcb : c.toNat < 256 := c.toNat_lt
          have HA3 := Lib.hid hall3; have HV3 := Lib.hid hval3
          have HFAIL := Lib.hid (fun (h : isDig c = false) => show l.all isDig = false by
            rw [Bool.eq_false_iff]
            intro h2
            have := List.all_eq_true.1 h2 (l[i]'hil) (List.getElem_mem hil)
            rw [hc, h] at this
            exact absurd this (by decide))
          clear hall3 hval3 hc hin
          by_cases hlo : c.toNat < 48
          · obtain ⟨h1, h2⟩ := HNO2.out (HFAIL.out (by simp [isDig]; omega))
            subst h1 h2
            have hloI : (c.toNat : Int) < 48 := by omega
            go_wp2_with fail
            go_ret2
            exact ⟨none, 0, 0, rfl, Own.nil _ _, HEX.out, by omega⟩
          by_cases hhi : 57 < c.toNat
          · obtain ⟨h1, h2⟩ := HNO2.out (HFAIL.out (by simp [isDig]; omega))
            subst h1 h2
            have hloI : ¬ ((c.toNat : Int) < 48) := by omega
            have hhiI : (57 : Int) < (c.toNat : Int) := by omega
            go_wp2_with fail
            go_ret2
            exact ⟨none, 0, 0, rfl, Own.nil _ _, HEX.out, by omega⟩
          have hdig : isDig c = true := by rw [isDig_iff]; omega
          have HDIG := Lib.hid (HA3.out.trans hdig)
          obtain ⟨d, hd⟩ : ∃ d, c.toNat - 48 = d := ⟨_, rfl⟩
          have hd9 : d ≤ 9 := by omega
          have hdI : (c.toNat : Int) - 48 = (d : Int) := by omega
          rw [hd] at HV3
          have hloI : ¬ ((c.toNat : Int) < 48) := by omega
          have hhiI : ¬ ((57 : Int) < (c.toNat : Int)) := by omega
          have HST := Lib.hid (show RPRel2 w (.slice xa D xc) D ds d (.int .u64 (d : Int)) (.int .i64 0) wr from ⟨0, d, ds, by omega, rfl, rfl, hd9, HD.out.symm, HBD.out, rfl, by simp, HROW.out, HEX.out⟩)
          clear hd hdig HFAIL HA3 hlo hhi
          go_wp2_with fail
          go_loopw [6, 7] (fun cv jv wr => RPRel2 w (.slice xa D xc) D ds d cv jv wr) (fun _ jv _ => D - (RowKit.intOf jv).toNat)
          case atStart => exact HST.out
          case round =>
            obtain ⟨j, cr, es, hj, rfl, rfl, hcr, hes, hbe, hdrop, hnv, hrow2, hex2⟩ := hrel
            have HES := Lib.hid hes; have HBE := Lib.hid hbe; have HDROP := Lib.hid hdrop; have HNV := Lib.hid hnv; have HROW2 := Lib.hid hrow2; have HEX2 := Lib.hid hex2
            clear hes hbe hdrop hnv hrow2 hex2
            by_cases hjD : j = D
            · have hvv : rval es + B32 ^ D * cr = rval ds * 10 + d := by
                have := HNV.out
                rw [hjD, List.take_of_length_le (by rw [HES.out]; exact Nat.le_refl _), List.take_of_length_le (by rw [← HD.out]; exact Nat.le_refl _)] at this
                exact this
              rw [← HV3.out] at hvv
              have HVV := Lib.hid hvv
              have hge : ¬ ((j : Int) < (D : Int)) := by omega
              clear hvv hjD
              by_cases hcr0 : cr = 0
              · subst hcr0
                have HV0 := Lib.hid (show rval es = dnum (l.take (i + 1)) by have := HVV.out; rw [Nat.mul_zero, Nat.add_zero] at this; exact this)
                go_wp2_with fail
                go_roundw
                case rel => 
                  have HREL : RPRel w l (.slice xa D xc) (.int .i64 ((i : Int) + 1)) wr := ⟨i + 1, D, es, by rw [HN.out]; omega, by go_num, HBE.out, HES.out.symm, by omega, HV0.out, HDIG.out, HROW2.out, HEX2.out⟩
                  first | exact HREL | exact ⟨_, _, _, _, HREL, rfl, rfl, rfl, rfl⟩
                case measure => simp only [RowKit.intOf]; omega
              · have hcrp : (0 : Int) < (cr : Int) := by omega
                have hcrB : cr < B64 := by rw [B64_eq]; omega
                obtain ⟨Z, hZ⟩ : ∃ Z, wr.alloc (.cells #[.int .u64 (cr : Int)] 26) = Z := ⟨_, rfl⟩
                have SZ := Lib.hid (show Sl Z (some ⟨wr.heap.size, 0, none⟩) 1 1 [cr] by rw [← hZ]; exact (own_lit wr.heap.size wr cr hcrB (Nat.le_refl _)).sl)
                have EZ := Lib.hid (show Ext w Z by rw [← hZ]; exact HEX2.out.alloc _)
                have RZ := Lib.hid (show Z.ownsRow w.heap.size 26 1 (.slice xa D xc) D (cells64 es) by rw [← hZ]; exact World.ownsRow.alloc HROW2.out _)
                have HZ := Lib.hid hZ
                have HCB := Lib.hid hcrB
                clear hZ hcrB
                go_wp2_with (first | (at_builtin; refine append_row_sl' _ rfl _ _ _ rfl _ _ Tryz.underlying22 H1.out H2.out H3.out H4.out w.heap.size _ _ _ rfl RZ.out EZ.out.size _ _ _ _ rfl SZ.out (by omega) HBE.out.wide ?_) | rw [HZ.out])
                intro v5 w5 o5 g5
                have E5 := Lib.hid (Below.grown EZ.out g5 EZ.out.size (fun k h => (World.ownsRow.lt HROW2.out k h).1))
                have O5 := Lib.hid o5
                obtain ⟨rg, rh, hvr⟩ := row_slice' o5
                subst hvr
                clear o5 g5
                have HV0 := Lib.hid (show rval (es ++ [cr]) = dnum (l.take (i + 1)) by
                  have := HVV.out
                  unfold rval at this ⊢
                  rw [nv_append, HES.out]
                  simpa [nv] using this)
                go_wp2_with fail
                go_roundw
                case rel => 
                  have HREL : RPRel w l (.slice rg (D + 1) rh) (.int .i64 ((i : Int) + 1)) w5 := ⟨i + 1, D + 1, es ++ [cr], by rw [HN.out]; omega, by go_num, HBE.out.append (Bd.cons (by rw [B32_eq]; omega) (Bd.nil _)), by rw [List.length_append, HES.out]; rfl, by omega, HV0.out, HDIG.out, O5.out, E5.out⟩
                  first | exact HREL | exact ⟨_, _, _, _, HREL, rfl, rfl, rfl, rfl⟩
                case measure => simp only [RowKit.intOf]; omega
            · omega

end Go.Proofs.YtdafjajleglccaaGreatDoor

/- gleanref1.Text. -/
namespace Go.Proofs.YtdafjajleglccaaGreatDoor
open Go.RowKit Go.Lib

theorem getD_reverse {bs : List Nat} {n k : Nat} (hl : bs.length = n) (hk : k < n) : bs.reverse.getD k 0 = bs.getD (n - 1 - k) 0 := by
  rw [List.getD_eq_getElem?_getD, List.getD_eq_getElem?_getD, List.getElem?_reverse (by omega), hl]
def cells8 (ys : List Nat) : List Value := ys.map fun x : Nat => Value.int .u8 (x : Int)
theorem append_row_slB' {P : Program} (w : World) {ops : Array Oper} {rest : List Oper} {o : Oper} {act : Act} {Q : Exit → Act → World → Prop} (hgd : o.guard = none) (s x : Operand) (t : TypeId)
    (ho : o.op = .call { callee := .builtin .append, args := #[s, x], argTypes := #[t, t] }) (e : TypeId) (i : TypeInfo) (h1 : P.underlying t = some (.slice e)) (h2 : P.info? e = some i)
    (h3 : i.zero = some (.int .u8 0)) (h4 : i.size = 1) (h5 : i.bytes = 1) (B : Nat) (v : Value) (k : Nat) (zs : List Nat) (hs : act.eval s = v) (hrow : w.ownsRow B e 1 v k (cells8 zs)) (hB : B ≤ w.heap.size)
    (a : Option Addr) (n c : Nat) (xs : List Nat) (hx : act.eval x = .slice a n c) (hsl : SlB w a n c xs) (hn : k + n ≤ 1099511627776) (_hbz : Bd 256 zs)
    (hK : ∀ v' w', w'.ownsRow B e 1 v' (k + n) (cells8 (zs ++ xs)) → w.grownBy w' v.ownBlock → wpList P ops Q rest (act.put o.dst v') w') :
    wpList P ops Q (o :: rest) act w := by
  cases a with
  | none =>
    obtain rfl : n = 0 := hsl.none_len
    obtain rfl : xs = [] := List.eq_nil_of_length_eq_zero hsl.len
    have hc : c = 0 := by
      rcases hsl.at_ with hh | ⟨b, off, h, _⟩
      · first | exact hh.2.2 | exact hh.2
      · cases h
    subst hc
    refine wpList_plain hgd fun K hK' => ?_
    have hr := run_append_owned_none (P := P) w B t o.type e i 1 h1 h2 v k (cells8 zs) hrow
    unfold Oper.wp execOp
    simp only [ho, resolve, invoke, builtin, Sem.run_bind, Sem.run_pure, Result.andThen_ok, List.map_toArray, List.map_cons, List.map_nil, hs, hx, hr]
    exact hK' _ _ (hK v w (by simpa using hrow) (grownBy_refl _ _))
  | some ad =>
    have hcells : ∀ (j : Nat) u, (cells8 xs)[j]? = some u → w.cell? (ad.add j) = some u := by
      intro j u hu
      unfold cells8 at hu
      rw [List.getElem?_map] at hu
      have hj : j < xs.length := by
        rcases Nat.lt_or_ge j xs.length with h | h
        · exact h
        · rw [List.getElem?_eq_none h] at hu; cases hu
      rw [List.getElem?_eq_getElem hj] at hu
      simp only [Option.map_some, Option.some.injEq] at hu
      subst hu
      rcases hsl.at_ with hh | ⟨b, off, h, hc⟩
      · have := hsl.len
        have h0 : n = 0 := by first | exact hh.1 | exact hh.2.1
        omega
      · cases h
        have hadd : (⟨b, off, none⟩ : Addr).add j = ⟨b, off + j, none⟩ := by unfold Addr.add; split <;> simp_all
        rw [hadd, hc j (by rw [← hsl.len]; exact hj), getD_of_lt hj]
    refine wpList_append_own w hgd s x t ho B e i (.int .u8 0) 1 1 h1 h2 h3 h4 h5 rfl (by omega) v k (cells8 zs) hs hrow ad n c (cells8 xs) hx (by simp [cells8, hsl.len]) hcells (oneCell_u8 xs) (by unfold maxLen; omega) (by omega) hB ?_
    intro v' w' hown hgrow _
    exact hK v' w' (by simpa [cells8] using hown) hgrow

theorem litB1_at (w : World) (x : Nat) (hx : x < 256) : SlB (w.alloc (.cells #[.int .u8 (x : Int)] 5)) (some ⟨w.heap.size, 0, none⟩) 1 1 [x] := by
  have hc : (w.alloc (.cells #[.int .u8 (x : Int)] 5 (0, 0))).heap[w.heap.size]? = some (.cells #[.int .u8 (x : Int)] 5 (0, 0)) := heap_alloc_new w _
  refine ⟨rfl, Nat.le_refl _, by decide, Bd.cons hx (Bd.nil _), .inr ⟨_, _, rfl, ?_⟩⟩
  intro i hi
  obtain rfl : i = 0 := by omega
  rw [cell_of_row _ _ _ _ _ _ hc]; rfl

/-- A row of one's own as the walk meets it: what lies where, and a store. -/
theorem row_atB {P : Program} {w : World} {B : Nat} {v : Value} {n : Nat} {ds : List Nat} {T E : TypeId} {i : TypeInfo} (h : w.ownsRow B E 1 v n (cells8 ds)) (hT : P.underlying T = some (.slice E)) (hi : P.info? E = some i) (hs : i.size = 1)
    (j : Nat) (hj : j < n) : ∃ g, (∀ w' : World, (Instr.indexAt T v (.int .i64 (j : Int))).run P w' = .ok (.pointer (some ⟨g, j, none⟩)) w') ∧ w.cell? ⟨g, j, none⟩ = some (.int .u8 ((ds.getD j 0 : Nat) : Int)) ∧ w.frozen? ⟨g, j, none⟩ = false ∧ B ≤ g ∧
      ∀ x : Nat, (w.setCell ⟨g, j, none⟩ (.int .u8 (x : Int))).ownsRow B E 1 v n (cells8 (ds.set j x)) ∧ w.grownBy (w.setCell ⟨g, j, none⟩ (.int .u8 (x : Int))) (some g) := by
  have hl : ds.length = n := by have := h.1; simpa [cells8] using this
  obtain ⟨g, cap, rfl, hB, -⟩ := h.form (by omega)
  refine ⟨g, fun w' => ?_, ?_, h.frozenAt j, hB, fun x => ?_⟩
  · have hr := run_sizeOf hi w'
    rw [hs] at hr
    simp only [Instr.indexAt, Sem.run_bind, run_underlying hT, Result.andThen_ok, asIntOf, Sem.run_pure]
    have h1 : (0 : Int) ≤ (j : Int) ∧ (j : Int) < (n : Int) := ⟨by omega, by omega⟩
    simp [hj, hr, Addr.add]
    try omega
  · rw [h.cellAt j (by omega)]
    unfold cells8
    rw [List.getElem?_map, List.getElem?_eq_getElem (by omega), getD_of_lt (by omega)]
    rfl
  · obtain ⟨s1, s2⟩ := h.stored j (.int .u8 (x : Int))
    refine ⟨?_, s2⟩
    have e : cells8 (ds.set j x) = (cells8 ds).set j (.int .u8 (x : Int)) := by unfold cells8; rw [List.map_set]
    rw [e]; exact s1


theorem row_atX {P : Program} {w : World} {B g n cap : Nat} {ds : List Nat} {T E : TypeId} {i : TypeInfo} (h : w.ownsRow B E 1 (.slice (some ⟨g, 0, none⟩) n cap) n (cells8 ds)) (hT : P.underlying T = some (.slice E)) (hi : P.info? E = some i) (hs : i.size = 1)
    (j : Nat) (hj : j < n) : (∀ w' : World, (Instr.indexAt T (.slice (some ⟨g, 0, none⟩) n cap) (.int .i64 (j : Int))).run P w' = .ok (.pointer (some ⟨g, j, none⟩)) w') ∧ w.cell? ⟨g, j, none⟩ = some (.int .u8 ((ds.getD j 0 : Nat) : Int)) ∧ w.frozen? ⟨g, j, none⟩ = false ∧
      ∀ x : Nat, (w.setCell ⟨g, j, none⟩ (.int .u8 (x : Int))).ownsRow B E 1 (.slice (some ⟨g, 0, none⟩) n cap) n (cells8 (ds.set j x)) ∧ w.grownBy (w.setCell ⟨g, j, none⟩ (.int .u8 (x : Int))) (some g) := by
  have hl : ds.length = n := by have := h.1; simpa [cells8] using this
  refine ⟨fun w' => ?_, ?_, h.frozenAt j, fun x => ?_⟩
  · have hr := run_sizeOf hi w'
    rw [hs] at hr
    simp only [Instr.indexAt, Sem.run_bind, run_underlying hT, Result.andThen_ok, asIntOf, Sem.run_pure]
    have h1 : (0 : Int) ≤ (j : Int) ∧ (j : Int) < (n : Int) := ⟨by omega, by omega⟩
    simp [hj, hr, Addr.add]
    try omega
  · rw [h.cellAt j (by omega)]
    unfold cells8
    rw [List.getElem?_map, List.getElem?_eq_getElem (by omega), getD_of_lt (by omega)]
    rfl
  · obtain ⟨s1, s2⟩ := h.stored j (.int .u8 (x : Int))
    refine ⟨?_, s2⟩
    have e : cells8 (ds.set j x) = (cells8 ds).set j (.int .u8 (x : Int)) := by unfold cells8; rw [List.map_set]
    rw [e]; exact s1
theorem digs_cons {b n : Nat} (hb : 2 ≤ b) (h : n ≠ 0) : digs b n = (n % b) :: digs b (n / b) := by
  have hbd : Bd b ((n % b) :: digs b (n / b)) := Bd.cons (Nat.mod_lt _ (by omega)) (bd_digs hb _)
  have hn : Nrm ((n % b) :: digs b (n / b)) := by
    have h2 := nrm_digs (b := b) hb (n / b)
    cases hd : digs b (n / b) with
    | nil =>
      have h0 : n / b = 0 := (digs_nil hb).1 hd
      have h1 : n % b ≠ 0 := by
        have := Nat.div_add_mod n b
        rw [h0] at this
        omega
      simpa [Nrm] using h1
    | cons y ys =>
      rw [hd] at h2
      unfold Nrm at h2 ⊢
      rw [List.getLast?_cons_cons]
      exact h2
  exact (digs_unique hb hbd hn (by simp only [nv]; rw [nv_digs hb, Nat.add_comm]; exact Nat.div_add_mod n b)).symm
/-- Decimal digits as bytes, the lowest first. -/
def decRev (n : Nat) : List Nat := (digs 10 n).map (48 + ·)
theorem decRev_zero : decRev 0 = [] := rfl
theorem decRev_cons {n : Nat} (h : n ≠ 0) : decRev n = (48 + n % 10) :: decRev (n / 10) := by
  unfold decRev; rw [digs_cons (by decide) h]; rfl
theorem decRev_nil {n : Nat} (h : decRev n = []) : n = 0 := by
  unfold decRev at h
  exact (digs_nil (by decide)).1 (List.map_eq_nil_iff.1 h)
theorem decRev_dec (n : Nat) (h : n ≠ 0) : ((decRev n).reverse.map UInt8.ofNat) = decDigits n := by
  induction n using Nat.strongRecOn with
  | ind n ih =>
    rw [decRev_cons h, List.reverse_cons, List.map_append]
    by_cases h10 : n < 10
    · rw [decDigits_small h10, Nat.div_eq_of_lt h10, decRev_zero, Nat.mod_eq_of_lt h10]; rfl
    · rw [decDigits_big h10, ih (n / 10) (by omega) (by omega)]; rfl
theorem decRev_len (n : Nat) : (decRev n).length ≤ nDigits n := by
  by_cases h : n = 0
  · subst h; simp [decRev_zero]
  · have := congrArg List.length (decRev_dec n h)
    rw [List.length_map, List.length_reverse, decDigits_length] at this
    omega
/-- A digit more of the group. -/
theorem decRev_push {X V k r : Nat} {os : List Nat} (h : decRev X = os ++ decRev (V * 10 ^ (9 - k) + r)) (hk : k < 9) (h0 : r ≠ 0 ∨ V ≠ 0) (hr : r < 10 ^ (9 - k)) :
    decRev X = (os ++ [48 + r % 10]) ++ decRev (V * 10 ^ (9 - (k + 1)) + r / 10) ∧ r / 10 < 10 ^ (9 - (k + 1)) := by
  have e : 10 ^ (9 - k) = 10 * 10 ^ (9 - (k + 1)) := by rw [← Nat.pow_succ']; congr 1; omega
  have hp : 0 < 10 ^ (9 - (k + 1)) := Nat.pow_pos (by decide)
  rw [e] at h hr
  generalize 10 ^ (9 - (k + 1)) = p at *
  have hne : V * (10 * p) + r ≠ 0 := by
    rcases h0 with h0 | h0
    · omega
    · have : 0 < V * (10 * p) := Nat.mul_pos (Nat.pos_of_ne_zero h0) (by omega)
      omega
  have e2 : V * (10 * p) = 10 * (V * p) := by rw [Nat.mul_left_comm]
  rw [decRev_cons hne, e2] at h
  have e3 : (10 * (V * p) + r) % 10 = r % 10 := by omega
  have e4 : (10 * (V * p) + r) / 10 = V * p + r / 10 := by omega
  rw [e3, e4] at h
  refine ⟨by rw [h, List.append_assoc]; rfl, by omega⟩
/-- One digit of the long division by 10^9. -/
theorem text_step {ds es : List Nat} {i R u q R' : Nat} (hi : i < es.length) (hd : i < ds.length) (hu : ds.getD i 0 = u) (hs : R * 4294967296 + u = q * 1000000000 + R')
    (h : nv B32 (ds.drop (i + 1)) = nv B32 (es.drop (i + 1)) * 1000000000 + R) : nv B32 (ds.drop i) = nv B32 ((es.set i q).drop i) * 1000000000 + R' := by
  rw [drop_set_self es i q hi, nv_drop_succ B32 ds i hd, hu, h]
  simp only [nv]
  rw [B32_eq]
  generalize nv 4294967296 (es.drop (i + 1)) = Q at *
  omega
def EX2 (w w1 wr : World) : Prop := Ext w wr ∧ w1.heap.size ≤ wr.heap.size
def RTRel (w w1 : World) (X : Nat) (gk : Nat) (xv ov : Value) (wr : World) : Prop :=
  ∃ (o : Option Addr) (M c V N : Nat) (os : List Nat), xv = .slice o M c ∧ gk = V ∧ Own w.heap.size wr o M c (dig V) ∧ (∀ k, blk o = some k → k < w1.heap.size) ∧ wr.ownsRow w1.heap.size 5 1 ov N (cells8 os) ∧ N = os.length ∧
    decRev X = os ++ decRev V ∧ Bd 256 os ∧ V ≤ X ∧ EX2 w w1 wr
def RTDiv (w w1 : World) (o : Option Addr) (M c : Nat) (ds : List Nat) (ov : Value) (N : Nat) (os : List Nat) (rv iv : Value) (wr : World) : Prop :=
  ∃ (j R : Nat) (es : List Nat), j ≤ M ∧ iv = .int .i64 ((j : Int) - 1) ∧ rv = .int .u64 (R : Int) ∧ R < 1000000000 ∧ Own w.heap.size wr o M c es ∧ Bd B32 es ∧ es.take j = ds.take j ∧ nv B32 (ds.drop j) = nv B32 (es.drop j) * 1000000000 + R ∧
    wr.ownsRow w1.heap.size 5 1 ov N (cells8 os) ∧ EX2 w w1 wr
def RTOut (w w1 : World) (o : Option Addr) (M c : Nat) (X V : Nat) (ov rv kv : Value) (wr : World) : Prop :=
  ∃ (k R N : Nat) (os : List Nat), k ≤ 9 ∧ kv = .int .i64 (k : Int) ∧ rv = .int .u64 (R : Int) ∧ R < 10 ^ (9 - k) ∧ decRev X = os ++ decRev (V * 10 ^ (9 - k) + R) ∧ Bd 256 os ∧ N = os.length ∧ wr.ownsRow w1.heap.size 5 1 ov N (cells8 os) ∧
    Own w.heap.size wr o M c (dig V) ∧ EX2 w w1 wr
def RTRev (w w1 : World) (N : Nat) (os : List Nat) (ov iv jv : Value) (wr : World) : Prop :=
  ∃ (i : Nat) (cur : List Nat), i ≤ N ∧ iv = .int .i64 (i : Int) ∧ jv = .int .i64 ((N : Int) - 1 - (i : Int)) ∧ cur.length = N ∧ Bd 256 cur ∧
    (∀ p, p < N → cur.getD p 0 = if p < i ∨ N < p + i + 1 then os.getD (N - 1 - p) 0 else os.getD p 0) ∧ wr.ownsRow w1.heap.size 5 1 ov N (cells8 cur) ∧ Ext w wr
theorem ten_lt {k r : Nat} (h : r < 10 ^ (9 - k)) : r < 1000000000 := by
  have : 10 ^ (9 - k) ≤ 10 ^ 9 := Nat.pow_le_pow_right (by decide) (by omega)
  omega

set_option maxHeartbeats 16000000 in
set_option maxRecDepth 100000 in
theorem rtext_calls {a : Option Addr} {n c : Nat} {xs : List Nat} {w : World} (ha : Sl w a n c xs) (hn : n ≤ 10000) :
    Calls Tryz.prog 79 #[.slice a n c] w (StrE (decDigits (val xs)) w) := by
  obtain ⟨i0, hi, hz0, hs, hby⟩ := info_parts info64
  have H1 := Lib.hid hi; have H3 := Lib.hid hs
  clear hi hz0 hs hby
  obtain ⟨i8, hi, hz0, hs, hby⟩ := info_parts infoU8b
  have K1 := Lib.hid hi; have K2 := Lib.hid hz0; have K3 := Lib.hid hs; have K4 := Lib.hid hby
  clear hi hz0 hs hby
  have HC := Lib.hid (digits_calls ha (by omega))
  have HLEN := Lib.hid (show (decRev (val xs)).length ≤ 200001 from by
    have h1 := decRev_len (val xs)
    have h2 := nDigits_limbs (V := val xs) (k := n) ha.trimmed_len
    omega)
  clear ha
  obtain ⟨X, hX⟩ : ∃ X, val xs = X := ⟨_, rfl⟩
  rw [hX] at HC HLEN ⊢
  clear hX
  go_enter Tryz.func79, Tryz.ntmps79
  go_wp2_with fail
  refine HC.out.mono ?_
  rintro e w1 ⟨o1, M1, c1, rfl, hown, hext, hM1⟩
  have HLIM := Lib.hid (fun k hk => (hown.ge k hk).2)
  have HO := Lib.hid hown; have HE := Lib.hid hext
  have HMX := Lib.hid (fun V (h : V ≤ X) => show (dig V).length ≤ 20000 from by
    have h1 := digs_len_mono B32_two h
    have h2 := hown.sl.len
    have h3 : (dig V).length ≤ (dig X).length := h1
    omega)
  clear hown hext
  go_wp2_with fail
  go_loopg [3, 4] X (fun gk xv ov wr => RTRel w w1 X gk xv ov wr)
  case atStart => exact ⟨o1, M1, c1, X, 0, [], rfl, rfl, HO.out, HLIM.out, World.ownsRow_nil _ _ _ _, rfl, rfl, Bd.nil _, Nat.le_refl _, HE.out, Nat.le_refl _⟩
  case round =>
    obtain ⟨o, M, c2, V, N, os, rfl, hgk, hown, hlim, hrow, hN, hdec, hbd, hVX, hex⟩ := hrel
    have HGK := Lib.hid hgk; have HO2 := Lib.hid hown; have HLM := Lib.hid hlim; have HROW := Lib.hid hrow; have HN := Lib.hid hN; have HDEC := Lib.hid hdec; have HBD := Lib.hid hbd; have HEX := Lib.hid hex
    obtain ⟨oa, oc, hvr⟩ := row_slice' hrow
    subst hvr
    have hlen := hown.sl.len
    have hNb : N ≤ 200001 := by
      have h1 := congrArg List.length hdec
      rw [List.length_append] at h1
      have h2 := HLEN.out
      omega
    have hM2 : M ≤ 20000 := by
      have h1 := HMX.out V hVX
      omega
    have HVX := Lib.hid hVX
    clear hgk hown hlim hrow hN hdec hbd hex hVX
    by_cases hV : V = 0
    · have hM0 : M = 0 := by rw [← hlen, hV]; rfl
      have hfin : decRev X = os := by have := HDEC.out; rw [hV, decRev_zero, List.append_nil] at this; exact this
      have HFIN := Lib.hid hfin
      have g1 : ¬ ((0 : Int) < (M : Int)) := by omega
      clear hlen hV hM0 hfin
      by_cases hX0 : N = 0
      · have hXZ : X = 0 := decRev_nil (by rw [HFIN.out]; exact List.eq_nil_of_length_eq_zero (by rw [← HN.out]; exact hX0))
        have HXZ := Lib.hid (show decDigits X = [48] by rw [hXZ, decDigits_small (by decide)]; rfl)
        subst hX0
        clear hXZ
        go_wp2_with fail
        go_ret
        exact ⟨by rw [HXZ.out]; rfl, HEX.out.1⟩
      · have g2 : ((N : Int) == 0) = false := by rw [beq_eq_false_iff_ne]; omega
        have hXZ : X ≠ 0 := fun h => hX0 (by rw [HN.out, ← HFIN.out, h]; rfl)
        have HXZ := Lib.hid hXZ
        have HST := Lib.hid (show RTRev w w1 N os (.slice oa N oc) (.int .i64 0) (.int .i64 ((N : Int) - 1)) wr from ⟨0, os, by omega, rfl, by go_num, HN.out.symm, HBD.out, fun p hp => by rw [if_neg (by omega)], HROW.out, HEX.out.1⟩)
        clear hXZ
        go_wp2_with fail
        go_loopw [9, 10] (fun iv jv wr => RTRev w w1 N os (.slice oa N oc) iv jv wr) (fun iv _ _ => N - (RowKit.intOf iv).toNat)
        case atStart => exact HST.out
        case round =>
          obtain ⟨i, cur, hiN, rfl, rfl, hcl, hcb, hcur, hrow2, hex2⟩ := hrel
          have HCL := Lib.hid hcl; have HCB := Lib.hid hcb; have HCUR := Lib.hid hcur; have HROW2 := Lib.hid hrow2; have HEX2 := Lib.hid hex2
          clear hcl hcb hcur hrow2 hex2
          by_cases hij : i + i + 1 < N
          · have hlt : (i : Int) < (N : Int) - 1 - (i : Int) := by omega
            obtain ⟨j, hj⟩ : ∃ j, N - 1 - i = j := ⟨_, rfl⟩
            have hjI : (N : Int) - 1 - (i : Int) = (j : Int) := by omega
            have hjN : j < N := by omega
            have hiN2 : i < N := by omega
            have hne : j ≠ i := by omega
            obtain ⟨g, cap, hform, hgw, -⟩ := HROW2.out.form (by omega)
            injection hform with f1 f2 f3
            subst f1 f3
            obtain ⟨x1, x2, x3, x4⟩ := row_atX (P := Tryz.prog) HROW2.out Tryz.underlying86 K1.out K3.out i hiN2
            obtain ⟨y1, y2, y3, -⟩ := row_atX (P := Tryz.prog) HROW2.out Tryz.underlying86 K1.out K3.out j hjN
            have hci := HCUR.out i hiN2
            rw [if_neg (by omega)] at hci
            have hcj := HCUR.out j hjN
            rw [if_neg (by omega)] at hcj
            have huB := HCB.out.getD (by decide) i
            have hvB := HCB.out.getD (by decide) j
            have HCI := Lib.hid hci; have HCJ := Lib.hid hcj
            obtain ⟨u, hu⟩ : ∃ u, cur.getD i 0 = u := ⟨_, rfl⟩
            obtain ⟨v, hv⟩ : ∃ v, cur.getD j 0 = v := ⟨_, rfl⟩
            rw [hu] at x2 huB HCI
            rw [hv] at y2 hvB HCJ
            obtain ⟨z1, z2⟩ := x4 v
            obtain ⟨-, -, -, z3⟩ := row_atX (P := Tryz.prog) z1 Tryz.underlying86 K1.out K3.out j hjN
            obtain ⟨z4, z5⟩ := z3 u
            have HZ4 := Lib.hid z4
            have HE5 := Lib.hid (Below.grown (Below.grown HEX2.out z2 HEX2.out.size (fun k h => by cases h; exact Nat.le_trans HE.out.size hgw)) z5 (Nat.le_trans HEX2.out.size (by simp)) (fun k h => by cases h; exact Nat.le_trans HE.out.size hgw))
            have HUB := Lib.hid huB; have HVB := Lib.hid hvB
            have HREL : Hid (∀ p, p < N → ((cur.set i v).set j u).getD p 0 = if p < i + 1 ∨ N < p + (i + 1) + 1 then os.getD (N - 1 - p) 0 else os.getD p 0) := Lib.hid (fun p hp => by
              by_cases hpj : p = j
              · subst hpj
                rw [set_getD_self (by rw [List.length_set, HCL.out]; omega), if_pos (by omega), HCI.out]
                congr 1; omega
              · rw [set_getD_other (Ne.symm hpj)]
                by_cases hpi : p = i
                · subst hpi
                  rw [set_getD_self (by rw [HCL.out]; omega), if_pos (by omega), HCJ.out]
                  congr 1; omega
                · rw [set_getD_other (Ne.symm hpi), HCUR.out p hp]
                  by_cases hc : p < i ∨ N < p + i + 1
                  · rw [if_pos hc, if_pos (by omega)]
                  · rw [if_neg hc, if_neg (by omega)])
            clear hci hcj hu hv x4 z1 z2 z3 z4 z5 huB hvB
            rw [hjI]
            have hlt2 : (i : Int) < (j : Int) := by omega
            go_wp2_with fail
            go_region
            all_goals (
              go_wp2_with fail
              go_roundw
              case rel => exact ⟨i + 1, _, by omega, by go_num, (by first | go_num | (congr 1; omega)), by rw [List.length_set, List.length_set]; exact HCL.out, (HCB.out.set i HVB.out).set j HUB.out, HREL.out, HZ4.out.drew, HE5.out.drew⟩
              case measure => simp only [RowKit.intOf]; omega)
          · have hge : ¬ ((i : Int) < (N : Int) - 1 - (i : Int)) := by omega
            have hrev : cur = os.reverse := by
              refine List.ext_getElem (by rw [List.length_reverse, HCL.out, HN.out]) fun p h1 h2 => ?_
              have hp : p < N := by rw [← HCL.out]; exact h1
              have h3 := HCUR.out p hp
              rw [← getD_of_lt h1, ← getD_of_lt h2, h3, getD_reverse HN.out.symm hp]
              split
              · rfl
              · congr 1; omega
            obtain ⟨g, cap, hform, hgw, -⟩ := HROW2.out.form (by omega)
            injection hform with f1 f2 f3
            subst f1 f3
            have hl : (os.reverse.map UInt8.ofNat).length = N := by rw [List.length_map, List.length_reverse]; exact HN.out.symm
            have hcv := run_convert_bytes_back (P := Tryz.prog) wr 86 9 5 ⟨g, 0, none⟩ oc (os.reverse.map UInt8.ofNat) (by kernel_rfl) (by kernel_rfl) (by kernel_rfl) (fun q hq => by
              have hqN : q < N := by omega
              obtain ⟨-, x2, -, -⟩ := row_atX (P := Tryz.prog) HROW2.out Tryz.underlying86 K1.out K3.out q hqN
              have hadd : (⟨g, 0, none⟩ : Addr).add q = ⟨g, q, none⟩ := by unfold Addr.add; split <;> simp_all
              rw [hadd, x2, hrev]
              have hq2 : q < os.reverse.length := by rw [List.length_reverse, ← HN.out]; exact hqN
              rw [getD_of_lt hq2, List.getElem_map]
              have hb : os.reverse[q] < 256 := HBD.out _ (List.mem_reverse.1 (List.getElem_mem hq2))
              rw [UInt8.toNat_ofNat', Nat.mod_eq_of_lt hb])
            rw [hl] at hcv
            have hdd : (os.reverse.map UInt8.ofNat) = decDigits X := by rw [← HFIN.out]; exact decRev_dec X HXZ.out
            rw [hdd] at hcv
            clear hdd hl hrev
            go_wp2_with fail
            go_ret
            exact ⟨rfl, HEX2.out⟩
    · have hMp : 0 < M := by
        rw [← hlen]
        exact List.length_pos_iff.2 (fun h => hV ((digs_nil B32_two).1 h))
      have g1 : (0 : Int) < (M : Int) := by omega
      have HV := Lib.hid hV
      have HDL := Lib.hid hlen
      have HST := Lib.hid (show RTDiv w w1 o M c2 (dig V) (.slice oa N oc) N os (.int .u64 0) (.int .i64 ((M : Int) - 1)) wr from ⟨M, 0, dig V, Nat.le_refl _, rfl, rfl, by decide, HO2.out, bd_dig V, rfl, by rw [List.drop_of_length_le (by rw [hlen]; exact Nat.le_refl _)]; rfl, HROW.out, HEX.out⟩)
      clear hV hlen
      go_wp2_with fail
      go_loopw [5, 6] (fun rv iv wr => RTDiv w w1 o M c2 (dig V) (.slice oa N oc) N os rv iv wr) (fun _ iv _ => (RowKit.intOf iv + 1).toNat)
      case atStart => exact HST.out
      case round =>
        obtain ⟨j, R, es, hj, rfl, rfl, hR, hown, hbe, htake, hnv, hrow, hex⟩ := hrel
        have HOWN := Lib.hid hown; have HBE := Lib.hid hbe; have HTK := Lib.hid htake; have HNV := Lib.hid hnv; have HROW2 := Lib.hid hrow; have HEX2 := Lib.hid hex
        clear hown hbe htake hnv hrow hex
        cases j with
        | zero =>
          have g2 : ¬ ((0 : Int) ≤ ((0 : Nat) : Int) - 1) := by omega
          obtain ⟨V', hV'⟩ : ∃ V', rval es = V' := ⟨_, rfl⟩
          have hVV : V = V' * 1000000000 + R := by
            have := HNV.out
            rw [List.drop_zero, List.drop_zero] at this
            rw [← hV', ← show rval (dig V) = V from rval_dig V]
            exact this
          have htr : trimL es = dig V' := by rw [trimL_dig HBE.out, hV']
          have CT := rtrim_calls HOWN.out.sl
          have HO3 := HOWN.out.rtrim
          rw [htr] at CT HO3
          obtain ⟨M', hM'⟩ : ∃ M', (dig V').length = M' := ⟨_, rfl⟩
          rw [hM'] at CT HO3
          have HCT := Lib.hid CT
          have hVlt : V' < V := by have := HV.out; omega
          have hM'b : M' ≤ 20000 := by have := HMX.out V' (by have := HVX.out; omega); omega
          have hM0 : M' = 0 ↔ V' = 0 := by
            rw [← hM', List.length_eq_zero_iff]; exact digs_nil B32_two
          have HST2 := Lib.hid (show RTOut w w1 o M' c2 X V' (.slice oa N oc) (.int .u64 (R : Int)) (.int .i64 0) wr from ⟨0, R, N, os, by omega, rfl, rfl, hR, by rw [HDEC.out, hVV], HBD.out, HN.out, HROW2.out, HO3, HEX2.out⟩)
          have HVLT := Lib.hid hVlt; have HM0 := Lib.hid hM0
          have HVX' := Lib.hid (show V' ≤ X by have := HVX.out; omega)
          clear hV' hVV htr CT HO3 hM' hVlt hM0
          go_wp2_with fail
          refine HCT.out.mono ?_
          rintro e w3 ⟨rfl, rfl⟩
          go_wp2_with fail
          go_loopw [4, 5, 8] (fun ov rv kv wr => RTOut w w1 o M' c2 X V' ov rv kv wr) (fun _ _ kv _ => 9 - (RowKit.intOf kv).toNat)
          case atStart => exact HST2.out
          case round =>
            obtain ⟨k, R2, N2, os2, hk, rfl, rfl, hR2, hdec2, hbd2, hN2, hrow3, hown3, hex3⟩ := hrel
            have HDEC2 := Lib.hid hdec2; have HBD2 := Lib.hid hbd2; have HN2 := Lib.hid hN2; have HROW3 := Lib.hid hrow3; have HOWN3 := Lib.hid hown3; have HEX3 := Lib.hid hex3; have HR2 := Lib.hid hR2
            obtain ⟨ob, od, hvr⟩ := row_slice' hrow3
            subst hvr
            have hN2b : N2 ≤ 200001 := by
              have h1 := congrArg List.length hdec2
              rw [List.length_append] at h1
              have h2 := HLEN.out
              omega
            have hRb := ten_lt hR2
            clear hdec2 hbd2 hN2 hrow3 hown3 hex3 hR2
            by_cases hk9 : k = 9
            · subst hk9
              have hR0 : R2 = 0 := by have := HR2.out; simpa using this
              have HFD := Lib.hid (show decRev X = os2 ++ decRev V' by have := HDEC2.out; rw [hR0, Nat.sub_self, Nat.pow_zero, Nat.mul_one, Nat.add_zero] at this; exact this)
              subst hR0
              have HREL : Hid (∀ gk, gk = V' → RTRel w w1 X gk (.slice o M' c2) (.slice ob N2 od) wr) := Lib.hid (fun gk hg => ⟨o, M', c2, V', N2, os2, rfl, hg, HOWN3.out, HLM.out, HROW3.out, HN2.out, HFD.out, HBD2.out, HVX'.out, HEX3.out⟩)
              go_wp2_with fail
              go_roundg V'
              case measure => rw [HGK.out]; exact HVLT.out
              case rel => exact HREL.out _ rfl
            have hk9I : (k : Int) < 9 := by omega
            by_cases hR0 : R2 = 0
            · subst hR0
              by_cases hVz : V' = 0
              · have hM0' : M' = 0 := HM0.out.2 hVz
                have HFD := Lib.hid (show decRev X = os2 ++ decRev V' by have := HDEC2.out; rw [hVz, Nat.zero_mul] at this; rw [hVz]; exact this)
                have hM0I : ¬ ((0 : Int) < (M' : Int)) := by omega
                clear hM0'
                have HREL : Hid (∀ gk, gk = V' → RTRel w w1 X gk (.slice o M' c2) (.slice ob N2 od) wr) := Lib.hid (fun gk hg => ⟨o, M', c2, V', N2, os2, rfl, hg, HOWN3.out, HLM.out, HROW3.out, HN2.out, HFD.out, HBD2.out, HVX'.out, HEX3.out⟩)
                go_wp2_with fail
                go_roundg V'
                case measure => rw [HGK.out]; exact HVLT.out
                case rel => exact HREL.out _ rfl
              · have hMne : M' ≠ 0 := fun h => hVz (HM0.out.1 h)
                have hM0I : (0 : Int) < (M' : Int) := by omega
                have hp := decRev_push HDEC2.out (by omega) (.inr hVz) HR2.out
                have HP1 := Lib.hid (show decRev X = (os2 ++ [48]) ++ decRev (V' * 10 ^ (9 - (k + 1)) + 0) from hp.1); have HP2 := Lib.hid (show 0 < 10 ^ (9 - (k + 1)) from hp.2)
                have hv8 : 48 < 256 := by decide
                obtain ⟨Z, hZ⟩ : ∃ Z, wr.alloc (.cells #[.int .u8 48] 5) = Z := ⟨_, rfl⟩
                have EWZ := Lib.hid (show Ext wr Z by rw [← hZ]; exact (Ext.refl _).alloc _)
                have SZ := Lib.hid (show SlB Z (some ⟨wr.heap.size, 0, none⟩) 1 1 [48] by rw [← hZ]; exact litB1_at wr 48 hv8)
                have EZ := Lib.hid (HEX3.out.1.trans EWZ.out)
                have RZ := Lib.hid (show Z.ownsRow w1.heap.size 5 1 (.slice ob N2 od) N2 (cells8 os2) by rw [← hZ]; exact World.ownsRow.alloc HROW3.out _)
                have HSZ1 := Lib.hid (Nat.le_trans HEX3.out.2 EWZ.out.size)
                have HZ := Lib.hid hZ
                clear hZ hp
                go_wp2_with (first | (at_builtin; refine append_row_slB' _ rfl _ _ _ rfl _ _ Tryz.underlying86 K1.out K2.out K3.out K4.out w1.heap.size _ _ _ rfl RZ.out HSZ1.out _ _ _ _ rfl SZ.out (by omega) HBD2.out ?_) | rw [HZ.out])
                intro v5 w5 o5 g5
                have E5 := Lib.hid (show EX2 w w1 w5 from ⟨Below.grown EZ.out g5 EZ.out.size (fun k h => Nat.le_trans HE.out.size (World.ownsRow.lt HROW3.out k h).1), Nat.le_trans HSZ1.out g5.size⟩)
                have hnb : (Value.slice ob N2 od).ownBlock = none ∨ blk o ≠ (Value.slice ob N2 od).ownBlock := by
                  rcases hob : (Value.slice ob N2 od).ownBlock with _ | kb
                  · exact .inl rfl
                  · right
                    intro he
                    have l1 := (World.ownsRow.lt HROW3.out kb hob).1
                    have l2 := HLM.out kb he
                    omega
                have OX := Lib.hid ((HOWN3.out.old EWZ.out).grown g5 hnb)
                have O5 := Lib.hid o5
                obtain ⟨rg, rh, hvr⟩ := row_slice' o5
                subst hvr
                clear o5 g5 hnb
                have HREL : Hid (∀ kv, kv = Value.int .i64 ((k : Int) + 1) → RTOut w w1 o M' c2 X V' (.slice rg (N2 + 1) rh) (.int .u64 0) kv w5) := Lib.hid (fun kv hkv => ⟨k + 1, 0, N2 + 1, os2 ++ [48], by omega, by rw [hkv]; go_num, rfl, HP2.out, HP1.out, HBD2.out.append (Bd.cons hv8 (Bd.nil _)), by rw [List.length_append, ← HN2.out]; rfl, O5.out, OX.out, E5.out⟩)
                go_wp2_with fail
                go_roundw
                case rel => exact HREL.out _ rfl
                case measure => simp only [RowKit.intOf]; omega
            · have hRI : (0 : Int) < (R2 : Int) := by omega
              have hp := decRev_push HDEC2.out (by omega) (.inl hR0) HR2.out
              have HP1 := Lib.hid hp.1; have HP2 := Lib.hid hp.2
              obtain ⟨d, hd⟩ : ∃ d, R2 % 10 = d := ⟨_, rfl⟩
              obtain ⟨v, hv⟩ : ∃ v, 48 + d = v := ⟨_, rfl⟩
              obtain ⟨R3, hR3⟩ : ∃ R3, R2 / 10 = R3 := ⟨_, rfl⟩
              rw [hd, hv, hR3] at HP1
              rw [hR3] at HP2
              have f1 : (R2 : Int).tmod 10 = (d : Int) := by rw [Int.tmod_eq_emod_of_nonneg (by omega)]; omega
              have f2 : (48 : Int) + (d : Int) = (v : Int) := by omega
              have f3 : (R2 : Int).tdiv 10 = (R3 : Int) := by rw [Int.tdiv_eq_ediv_of_nonneg (by omega)]; omega
              have hv8 : v < 256 := by omega
              have hR3b : R3 < 1000000000 := by omega
              have f4 : IntKind.u8.wrap (v : Int) = (v : Int) := IntWalk.u8_in _ (by omega)
              have f5 : IntKind.u64.wrap (v : Int) = (v : Int) := IntWalk.u64_in _ (by omega)
              obtain ⟨Z, hZ⟩ : ∃ Z, wr.alloc (.cells #[.int .u8 (v : Int)] 5) = Z := ⟨_, rfl⟩
              have EWZ := Lib.hid (show Ext wr Z by rw [← hZ]; exact (Ext.refl _).alloc _)
              have SZ := Lib.hid (show SlB Z (some ⟨wr.heap.size, 0, none⟩) 1 1 [v] by rw [← hZ]; exact litB1_at _ v hv8)
              have EZ := Lib.hid (HEX3.out.1.trans EWZ.out)
              have RZ := Lib.hid (show Z.ownsRow w1.heap.size 5 1 (.slice ob N2 od) N2 (cells8 os2) by rw [← hZ]; exact World.ownsRow.alloc HROW3.out _)
              have HSZ1 := Lib.hid (Nat.le_trans HEX3.out.2 EWZ.out.size)
              have HZ := Lib.hid hZ
              clear hZ hp hd hv hR3
              go_wp2_with (first | (at_builtin; refine append_row_slB' _ rfl _ _ _ rfl _ _ Tryz.underlying86 K1.out K2.out K3.out K4.out w1.heap.size _ _ _ rfl RZ.out HSZ1.out _ _ _ _ rfl SZ.out (by omega) HBD2.out ?_) | rw [HZ.out])
              intro v5 w5 o5 g5
              have E5 := Lib.hid (show EX2 w w1 w5 from ⟨Below.grown EZ.out g5 EZ.out.size (fun k h => Nat.le_trans HE.out.size (World.ownsRow.lt HROW3.out k h).1), Nat.le_trans HSZ1.out g5.size⟩)
              have hnb : (Value.slice ob N2 od).ownBlock = none ∨ blk o ≠ (Value.slice ob N2 od).ownBlock := by
                rcases hob : (Value.slice ob N2 od).ownBlock with _ | kb
                · exact .inl rfl
                · right
                  intro he
                  have l1 := (World.ownsRow.lt HROW3.out kb hob).1
                  have l2 := HLM.out kb he
                  omega
              have OX := Lib.hid ((HOWN3.out.old EWZ.out).grown g5 hnb)
              have O5 := Lib.hid o5
              obtain ⟨rg, rh, hvr⟩ := row_slice' o5
              subst hvr
              clear o5 g5 hnb
              have HREL : Hid (∀ kv, kv = Value.int .i64 ((k : Int) + 1) → RTOut w w1 o M' c2 X V' (.slice rg (N2 + 1) rh) (.int .u64 (R3 : Int)) kv w5) := Lib.hid (fun kv hkv => ⟨k + 1, R3, N2 + 1, os2 ++ [v], by omega, by rw [hkv]; go_num, rfl, HP2.out, HP1.out, HBD2.out.append (Bd.cons hv8 (Bd.nil _)), by rw [List.length_append, ← HN2.out]; rfl, O5.out, OX.out, E5.out⟩)
              go_wp2_with fail
              go_roundw
              case rel => exact HREL.out _ rfl
              case measure => simp only [RowKit.intOf]; omega
        | succ i =>
          rw [show ((i + 1 : Nat) : Int) - 1 = (i : Int) by omega]
          have hi0 : (0 : Int) ≤ (i : Int) := by omega
          have hiM : i < M := by omega
          obtain ⟨bo, oo, hix, hcell, hao⟩ := HOWN.out.sl.ix (P := Tryz.prog) Tryz.underlying22 H1.out H3.out
          have x1 := hix i hiM
          have x2 := hcell i hiM
          have x5 := HOWN.out.free (hao (by omega)) (oo + i)
          have HAO := Lib.hid (hao (by omega))
          have hel := HOWN.out.sl.len
          have hud : es.getD i 0 = (dig V).getD i 0 := by
            have h1 := congrArg (fun t => t.getD i 0) HTK.out
            simp only [List.getD_eq_getElem?_getD, List.getElem?_take, if_pos (Nat.lt_succ_self i)] at h1
            simpa [List.getD_eq_getElem?_getD] using h1
          have hu := HBE.out.getD B32_pos i
          have HUD := Lib.hid hud
          clear hix hcell hao hud
          generalize es.getD i 0 = u at *
          rw [B32_eq] at hu
          obtain ⟨R4, hR4⟩ : ∃ R4, R * 4294967296 = R4 := ⟨_, rfl⟩
          obtain ⟨s, hs⟩ : ∃ s, R4 + u = s := ⟨_, rfl⟩
          have hR4I : (R : Int) * 4294967296 = (R4 : Int) := by omega
          have hR4b : R4 < 4294967296000000000 := by omega
          have hor : bits BinOp.or IntKind.u64 (R4 : Int) (u : Int) = (s : Int) := by
            rw [bits_or_u64_nat R4 u (by omega) (by omega), Nat.or_comm, ← hR4, or_add (by rw [B32_eq]; exact hu), B32_eq]
            omega
          obtain ⟨q, hq⟩ : ∃ q, s / 1000000000 = q := ⟨_, rfl⟩
          obtain ⟨R', hR'⟩ : ∃ R', s % 1000000000 = R' := ⟨_, rfl⟩
          have hqI : (s : Int).tdiv 1000000000 = (q : Int) := by rw [Int.tdiv_eq_ediv_of_nonneg (by omega)]; omega
          have hRI : (s : Int).tmod 1000000000 = (R' : Int) := by rw [Int.tmod_eq_emod_of_nonneg (by omega)]; omega
          have hqb : q < 4294967296 := by omega
          have hR'b : R' < 1000000000 := by omega
          have HSTEP := Lib.hid (text_step (ds := dig V) (es := es) (i := i) (R := R) (u := u) (q := q) (R' := R') (by omega) (by rw [HDL.out]; omega) HUD.out.symm (show R * 4294967296 + u = q * 1000000000 + R' by rw [hR4, hs, ← hq, ← hR', Nat.mul_comm]; exact (Nat.div_add_mod s 1000000000).symm) HNV.out)
          have HST3 := Lib.hid (HOWN.out.store HAO.out i q (by omega) (by rw [B64_eq]; omega))
          have HBE3 := Lib.hid (HBE.out.set i (show q < B32 by rw [B32_eq]; exact hqb))
          have HTK3 := Lib.hid (show (es.set i q).take i = (dig V).take i by
            rw [take_set_lo _ _ _ _ (Nat.le_refl _)]
            have h1 := congrArg (List.take i) HTK.out
            rwa [List.take_take, List.take_take, Nat.min_eq_left (by omega)] at h1)
          have hnb : (Value.slice oa N oc).ownBlock = none ∨ (Value.slice oa N oc).ownBlock ≠ blk o := by
            rcases hob : (Value.slice oa N oc).ownBlock with _ | kb
            · exact .inl rfl
            · right
              intro he
              have l1 := (World.ownsRow.lt HROW2.out kb hob).1
              have l2 := HLM.out kb he.symm
              omega
          have HROW4 := Lib.hid (World.ownsRow.kept HROW2.out HST3.out.2 hnb)
          have HEX4 := Lib.hid (show EX2 w w1 _ from ⟨Ext.grown' HEX2.out.1 HOWN.out (Nat.le_refl _) HST3.out.2, Nat.le_trans HEX2.out.2 HST3.out.2.size⟩)
          clear hR4 hs hq hR' hel hnb
          go_wp2_with fail
          go_roundw
          case rel => exact ⟨i, R', es.set i q, by omega, by go_num, rfl, hR'b, HST3.out.1, HBE3.out, HTK3.out, HSTEP.out, HROW4.out, HEX4.out⟩
          case measure => simp only [RowKit.intOf]; omega

end Go.Proofs.YtdafjajleglccaaGreatDoor

/- gleanref2.Text. -/
namespace Go.Proofs.YtdafjajleglccaaGreatDoor
open Go.RowKit Go.Lib

theorem trimR_push (l : List UInt8) : trimRightB (l ++ [48]) 48 = trimRightB l 48 := by
  unfold trimRightB; rw [List.reverse_append]; simp
theorem trimR_keep (l : List UInt8) (c : UInt8) (h : c ≠ 48) : trimRightB (l ++ [c]) 48 = l ++ [c] := by
  unfold trimRightB; rw [List.reverse_append]; simp [h]
theorem trimR_ne {R : Nat} (h : R < 10 ^ 36) (h0 : R ≠ 0) : trimRightB (padk 36 R) 48 ≠ [] := by
  obtain ⟨p1, p2⟩ := padk_dig 36 R
  obtain ⟨q1, -⟩ := trimRight_tail (padk_length 36 R) p1 (by rw [p2 h]; exact h0)
  exact (decTail_iff.1 q1).1
def RT1 (w1 : World) (R : Nat) (tv : Value) (wr : World) : Prop :=
  ∃ j : Nat, j + (decDigits R).length ≤ 36 ∧ tv = .string ⟨(List.replicate j 48 ++ decDigits R).toArray⟩ ∧ wr = w1
def RT2 (w1 : World) (l : List UInt8) (nv : Value) (wr : World) : Prop :=
  ∃ n : Nat, n < 36 ∧ nv = .int .i64 ((n : Int) + 1) ∧ trimRightB (l.take (n + 1)) 48 = trimRightB l 48 ∧ wr = w1

set_option maxHeartbeats 8000000 in
set_option maxRecDepth 100000 in
theorem rdtext_calls {a : Option Addr} {m c : Nat} {xs : List Nat} {w : World} (ha : Sl w a m c xs) (hm : m ≤ 1000) :
    Calls Tryz.prog 48 #[DecV a m c] w (StrE (decText (val xs)) w) := by
  have E1 : Ext w (w.alloc (.cells #[.slice a m c] 25)) := (Ext.refl _).alloc _
  have HT := Lib.hid (rdtrunc_calls (ha.old E1) (by omega))
  have HE1 := Lib.hid E1
  have hwl : (decDigits (val xs / U36)).length ≤ 20 * m + 1 := by
    rw [decDigits_length]
    refine nDigits_limbs (Nat.le_trans (digs_len_mono B64_two (Nat.div_le_self _ _)) ?_)
    exact ha.trimmed_len
  have hlt : val xs % U36 < 10 ^ 36 := Nat.mod_lt _ (Nat.pos_of_ne_zero U36_ne)
  unfold decText
  generalize val xs / U36 = N at *
  generalize val xs % U36 = R at *
  obtain ⟨out, hout⟩ : ∃ out, out = if R = 0 then decDigits N else decDigits N ++ [46] ++ trimRightB (padk 36 R) 48 := ⟨_, rfl⟩
  rw [← hout]
  have HOUT := Lib.hid hout
  have HLT := Lib.hid hlt
  have HWL := Lib.hid hwl
  clear hout hlt E1 ha hwl
  go_enter Tryz.func48, Tryz.ntmps48
  go_wp2_with fail
  refine HT.out.mono ?_
  rintro e w2 ⟨a1, c1, L1, a2, c2, L2, rfl, hown1, hown2, hext2, hl1, hl2⟩
  have E3 : Ext w2 (w2.alloc (.cells #[.slice a2 L2 c2] 25)) := (Ext.refl _).alloc _
  have HC3 := Lib.hid (rtext_calls (hown1.sl.old E3) (by omega))
  rw [val_lim] at HC3
  have HO2 := Lib.hid (hown2.sl.old E3)
  have HL2 := Lib.hid hown2.sl.len
  have HE3 := Lib.hid ((HE1.out.trans hext2).trans E3)
  have HB3 := Lib.hid (fun w' (h : Ext (w2.alloc (.cells #[.slice a2 L2 c2] 25)) w') => box_cell h)
  clear hown1 hown2 hext2 E3
  go_wp2_with fail
  refine HC3.out.mono ?_
  rintro e w4 ⟨rfl, hext4⟩
  have HE4 := Lib.hid hext4
  have hc4 := HB3.out _ hext4
  clear hext4
  by_cases hR : R = 0
  · have hout := HOUT.out
    rw [if_pos hR] at hout
    subst hout
    have hL0 : L2 = 0 := by have := HL2.out; rw [hR] at this; exact this.symm
    have g1 : ((L2 : Int) == 0) = true := by rw [hL0]; rfl
    clear hL0
    go_wp2_with fail
    go_ret
    exact ⟨rfl, HE3.out.trans HE4.out⟩
  · have hout := HOUT.out
    rw [if_neg hR] at hout
    have HOUT2 := Lib.hid hout
    clear hout
    have hL0 : L2 ≠ 0 := fun h => hR (lim_zero_iff.1 (by rw [HL2.out]; exact h))
    have g1 : ((L2 : Int) == 0) = false := by rw [beq_eq_false_iff_ne]; omega
    have HC5 := Lib.hid (rtext_calls (HO2.out.old HE4.out) (by omega))
    rw [val_lim] at HC5
    have HR0 := Lib.hid hR
    clear hL0 hR
    go_wp2_with fail
    refine HC5.out.mono ?_
    rintro e w5 ⟨rfl, hext5⟩
    have HE5 := Lib.hid ((HE3.out.trans HE4.out).trans hext5)
    have HN36 := Lib.hid (show (decDigits R).length ≤ 36 by rw [decDigits_length]; exact nDigits_le (by omega) HLT.out)
    clear hext5 hc4 g1
    go_wp2_with fail
    go_loopw [6] (fun tv wr => RT1 w5 R tv wr) (fun tv _ => 36 - lenS tv)
    case atStart => exact ⟨0, by have := HN36.out; omega, rfl, rfl⟩
    case round =>
      obtain ⟨j, hj, rfl, rfl⟩ := hrel
      have hsize := str_size (List.replicate j 48 ++ decDigits R)
      rw [List.length_append, List.length_replicate] at hsize
      by_cases hd : j + (decDigits R).length = 36
      · have hpad : List.replicate j 48 ++ decDigits R = padk 36 R := by
          rw [padk_eq 36 R (by omega) HLT.out, ← decDigits_length]
          congr 2; omega
        rw [hpad] at hsize ⊢
        rw [hd] at hsize
        have HNE := Lib.hid (trimR_ne HLT.out HR0.out)
        have HLEN := Lib.hid (padk_length 36 R)
        have HOUT3 := Lib.hid HOUT2.out
        generalize padk 36 R = l at *
        generalize hS : (⟨l.toArray⟩ : ByteArray) = S at *
        have HS := Lib.hid hS
        clear hS hpad hd hj
        go_wp2_with fail
        go_loopw [7] (fun nv wx => RT2 wr l nv wx) (fun nv _ => (RowKit.intOf nv).toNat)
        case atStart => exact ⟨35, by omega, rfl, by rw [List.take_of_length_le (by rw [HLEN.out]; exact Nat.le_refl _)], rfl⟩
        case round =>
          obtain ⟨n, hn, rfl, htr, rfl⟩ := hrel
          have HTR := Lib.hid htr
          clear htr
          have hnl : n < l.length := by rw [HLEN.out]; exact hn
          obtain ⟨c, hc⟩ : ∃ c, l[n]'hnl = c := ⟨_, rfl⟩
          have hget : ∀ hz : n < S.size, S[n]'hz = c := by
            intro h'
            have e := HS.out
            subst e
            exact hc
          have HTK := Lib.hid (show l.take (n + 1) = l.take n ++ [c] by rw [List.take_succ_eq_append_getElem hnl, hc])
          have f1 : IntKind.i64.wrap ((n : Int) + 1 - 1) = (n : Int) := by rw [show (n : Int) + 1 - 1 = (n : Int) by omega]; exact IntWalk.i64_in _ (by omega)
          have f2 : IntKind.i64.wrap (n : Int) = (n : Int) := IntWalk.i64_in _ (by omega)
          clear hc hnl
          by_cases h48 : c = 48
          · have hcI : (c.toNat : Int) = 48 := by rw [h48]; rfl
            have hn0 : n ≠ 0 := by
              rintro rfl
              have h := HTR.out
              rw [HTK.out, h48, List.take_zero, trimR_push] at h
              exact HNE.out h.symm
            obtain ⟨n', rfl⟩ : ∃ n', n = n' + 1 := ⟨n - 1, by omega⟩
            have HTR2 := Lib.hid (show trimRightB (l.take (n' + 1)) 48 = trimRightB l 48 by have h := HTR.out; rw [HTK.out, h48, trimR_push] at h; exact h)
            clear hn0 h48
            go_wp2_with fail
            go_roundw
            case rel => exact ⟨n', by omega, by go_num, HTR2.out, rfl⟩
            case measure => simp only [RowKit.intOf]; omega
          · have hcI : ((c.toNat : Int) == 48) = false := by
              rw [beq_eq_false_iff_ne]
              intro h
              apply h48
              exact UInt8.toNat_inj.1 (by have : c.toNat = 48 := by omega
                                          rw [this]; rfl)
            have hcI2 : ¬ ((c.toNat : Int) = 48) := by rwa [beq_eq_false_iff_ne] at hcI
            have HFIN := Lib.hid (show trimRightB l 48 = l.take (n + 1) by rw [← HTR.out, HTK.out, trimR_keep _ _ h48])
            have hws := str_size (decDigits N)
            have HWL2 := HWL.out
            generalize hW : (⟨(decDigits N).toArray⟩ : ByteArray) = WL at *
            have HW := Lib.hid hW
            clear hW h48
            have hadd : (WL ++ ⟨#[46]⟩ : ByteArray).size ≤ 9223372036854770000 := by rw [ByteArray.size_append, hws]; have : (⟨#[46]⟩ : ByteArray).size = 1 := rfl; omega
            have hadd0 : WL.size + (⟨#[46]⟩ : ByteArray).size ≤ 9223372036854770000 := by rw [hws]; have : (⟨#[46]⟩ : ByteArray).size = 1 := rfl; omega
            have hext : (S.extract 0 (n + 1)).size ≤ 36 := by rw [ByteArray.size_extract]; omega
            have hadd1 : ((WL ++ ⟨#[46]⟩ : ByteArray) ++ S.extract 0 (n + 1)).size ≤ 9223372036854775000 := by rw [ByteArray.size_append]; omega
            have hadd2 : (WL ++ ⟨#[46]⟩ : ByteArray).size + (S.extract 0 (n + 1)).size ≤ 9223372036854775000 := by omega
            have hb1 : (0 : Int) ≤ (n : Int) + 1 := by omega
            have hb2 : (n : Int) + 1 ≤ (36 : Int) := by omega
            go_wp2_with fail
            go_ret
            refine ⟨?_, HE5.out⟩
            have e := HS.out
            rw [HOUT3.out, HFIN.out, ← bytes_add, ← bytes_add, HW.out, ← str_upto l (n + 1), e]; rfl
      · have hlt : (j : Int) + ((decDigits R).length : Int) < 36 := by omega
        have HLEN := Lib.hid (show j + 1 + (decDigits R).length ≤ 36 by omega)
        have HV := Lib.hid (show (⟨#[48]⟩ : ByteArray) ++ ⟨(List.replicate j 48 ++ decDigits R).toArray⟩ = ⟨(List.replicate (j + 1) 48 ++ decDigits R).toArray⟩ by
          rw [show (⟨#[48]⟩ : ByteArray) = ⟨[48].toArray⟩ from rfl, bytes_add, List.replicate_succ]; rfl)
        obtain ⟨D, hD⟩ : ∃ D, (decDigits R).length = D := ⟨_, rfl⟩
        rw [hD] at hsize hlt
        clear hD hd hj
        generalize hS : (⟨(List.replicate j 48 ++ decDigits R).toArray⟩ : ByteArray) = S at *
        have hadd : (⟨#[48]⟩ ++ S : ByteArray).size ≤ 9223372036854775000 := by rw [ByteArray.size_append, hsize]; have : (⟨#[48]⟩ : ByteArray).size = 1 := rfl; omega
        have hadd2 : (⟨#[48]⟩ : ByteArray).size + S.size ≤ 9223372036854775000 := by rw [hsize]; have : (⟨#[48]⟩ : ByteArray).size = 1 := rfl; omega
        clear hS
        go_wp2_with fail
        go_roundw
        case rel => exact ⟨j + 1, HLEN.out, by rw [HV.out], rfl⟩
        case measure => simp only [lenS]; rw [ByteArray.size_append, hsize]; have : (⟨#[48]⟩ : ByteArray).size = 1 := rfl; omega

end Go.Proofs.YtdafjajleglccaaGreatDoor

/- gleanref2.Parse. -/
namespace Go.Proofs.YtdafjajleglccaaGreatDoor
open Go.RowKit Go.Lib

theorem split46 : ∀ l : List UInt8, (∀ x ∈ l, x ≠ 46) ∨ ∃ d r, l = d ++ 46 :: r ∧ ∀ x ∈ d, x ≠ 46
  | [] => .inl (by simp)
  | c :: l => by
    by_cases hc : c = 46
    · exact .inr ⟨[], l, by rw [hc]; rfl, by simp⟩
    · rcases split46 l with h | ⟨d, r, h1, h2⟩
      · refine .inl fun x hx => ?_
        rcases List.mem_cons.1 hx with e | e
        · rw [e]; exact hc
        · exact h x e
      · refine .inr ⟨c :: d, r, by rw [h1]; rfl, fun x hx => ?_⟩
        rcases List.mem_cons.1 hx with e | e
        · rw [e]; exact hc
        · exact h2 x e
theorem cut_dot {d : List UInt8} (h : ∀ x ∈ d, x ≠ 46) (r : List UInt8) : cut (d ++ 46 :: r) [46] = (d, r, true) := by
  have hi : index (d ++ 46 :: r) [46] = d.length := by rw [index_one]; exact indexByte_at 46 r d h
  unfold cut
  rw [hi, if_pos (by omega)]
  simp
theorem cut_nodot {d : List UInt8} (h : ∀ x ∈ d, x ≠ 46) : cut d [46] = (d, [], false) := by
  have hi : index d [46] = -1 := by rw [index_one]; exact indexByte_no 46 d h
  unfold cut
  rw [hi, if_neg (by omega)]
theorem dr_nodot {l : List UInt8} (h : ∀ x ∈ l, x ≠ 46) : drL l = (if decForm l = true then lim (dnum l * U36) else []) ∧ drE l = (if decForm l = true then 0 else 22) := by
  unfold drL drE decRead
  rw [cut_nodot h]
  cases hd : decForm l <;> simp
theorem dr_bad {d r : List UInt8} (h : ∀ x ∈ d, x ≠ 46) (hd : decForm d = false ∨ decTail r = false) : drL (d ++ 46 :: r) = [] ∧ drE (d ++ 46 :: r) = 22 := by
  unfold drL drE decRead
  rw [cut_dot h]
  cases hd2 : decForm d
  · simp
  · rcases hd with h1 | h1
    · rw [hd2] at h1; cases h1
    · simp [h1]
theorem dr_good {d r : List UInt8} (h : ∀ x ∈ d, x ≠ 46) (hd : decForm d = true) (hr : decTail r = true) : drL (d ++ 46 :: r) = lim (dnum d * U36 + dnum r * 10 ^ (36 - r.length)) ∧ drE (d ++ 46 :: r) = 0 := by
  unfold drL drE decRead
  rw [cut_dot h]
  simp [hd, hr]
def RP1 (w1 : World) (N M : Nat) (dv iv : Value) (wr : World) : Prop :=
  ∃ i : Nat, i ≤ M ∧ dv = .int .i64 (N : Int) ∧ iv = .int .i64 (i : Int) ∧ wr = w1
def RP3 (w3 : World) (r : List UInt8) (rv iv : Value) (wr : World) : Prop :=
  ∃ (i : Nat) (o : Option Addr) (n c : Nat), i ≤ r.length ∧ rv = .slice o n c ∧ iv = .int .i64 (i : Int) ∧ Own w3.heap.size wr o n c (lim (dnum (r.take i))) ∧ (r.take i).all isDig = true ∧ Ext w3 wr

set_option maxHeartbeats 8000000 in
set_option maxRecDepth 100000 in
theorem rdparse_a (l : List UInt8) (hl : l.length ≤ 1000) (hno : ∀ x ∈ l, x ≠ 46) (w : World) :
    Calls Tryz.prog 46 #[.string ⟨l.toArray⟩] w (NewDE w 5000 (drL l) (drE l)) := by
  have HDR := Lib.hid (dr_nodot hno)
  obtain ⟨RL, e1⟩ : ∃ x, drL l = x := ⟨_, rfl⟩
  obtain ⟨RE, e2⟩ : ∃ x, drE l = x := ⟨_, rfl⟩
  rw [e1, e2] at HDR ⊢
  have CP := Lib.hid (fun w => rparse_calls l (by omega) w)
  have hsz := str_size l
  have HGET := Lib.hid (fun (i : Nat) (h : i < l.length) => show ∀ hz : i < (⟨l.toArray⟩ : ByteArray).size, (⟨l.toArray⟩ : ByteArray)[i]'hz = l[i]'h from fun _ => rfl)
  have hx : (⟨l.toArray⟩ : ByteArray).extract 0 l.length = ⟨l.toArray⟩ := by rw [str_upto, List.take_length]
  have HNO := Lib.hid hno
  generalize hS : (⟨l.toArray⟩ : ByteArray) = S at *
  obtain ⟨N, hN⟩ : ∃ N, l.length = N := ⟨_, rfl⟩
  rw [hN] at hsz hx hl
  have HN := Lib.hid hN
  clear hS hN hno e1 e2
  go_enter Tryz.func46, Tryz.ntmps46
  go_wp2_with fail
  go_loopw [4, 5] (fun dv iv wr => RP1 (w.alloc (.cells #[.slice none 0 0] 25)) N N dv iv wr) (fun _ iv _ => N - (RowKit.intOf iv).toNat)
  case atStart => exact ⟨0, by omega, rfl, rfl, rfl⟩
  case round =>
    obtain ⟨i, hi, rfl, rfl, rfl⟩ := hrel
    by_cases hiN : i = N
    · have hge : ¬ ((i : Int) < (N : Int)) := by omega
      have hb1 : (0 : Int) ≤ (N : Int) := by omega
      clear hiN
      go_wp2_with fail
      refine (CP.out _).mono ?_
      rintro e w2 ⟨o2, n2, c2, rfl, hown2, hext2, hno2⟩
      by_cases hf : decForm l = true
      · have hr1 := HDR.out.1
        have hr2 := HDR.out.2
        rw [if_pos hf] at hr1 hr2
        subst hr1 hr2
        unfold prL at hown2
        unfold prE
        rw [if_pos hf] at hown2 ⊢
        have HX := Lib.hid hext2
        have CD := rdofnat_calls hown2.sl (by have := HN.out; omega)
        rw [val_lim] at CD
        have HCD := Lib.hid CD
        have hnb : n2 ≤ N := by have := HN.out; omega
        clear CD hown2 hext2 hf
        go_wp2_with fail
        refine HCD.out.mono ?_
        rintro e w3 ⟨o3, n3, c3, rfl, hown3, hext3, hno3⟩
        have hext4 : Ext (w.alloc (.cells #[.slice none 0 0] 25)) (w3.alloc (.cells #[.slice o3 n3 c3] 25)) := (HX.out.trans hext3).alloc _
        have kr := drow_cell (heap_alloc_new w3 (.cells #[.slice o3 n3 c3] 25))
        obtain ⟨k1, k2⟩ := box_at (X := w) rfl hext4
        obtain ⟨f1, f2, f3⟩ := box_fin (Ext.refl w) rfl hext4 (.slice o3 n3 c3)
        have hs := HX.out.size
        have HO := Lib.hid (f3 ((hown3.mono hs).old ((Ext.refl _).alloc _)))
        clear hown3 hext3
        go_wp2_with fail
        try simp only [Exit.inBlock, Exit.then]
        refine bodyPost_ret (results_box2 rfl _ _ _ _ rfl (load_dec f2)) rfl ?_
        exact ⟨o3, n3, c3, rfl, HO.out, f1, by omega⟩
      · have hr1 := HDR.out.1
        have hr2 := HDR.out.2
        rw [if_neg hf] at hr1 hr2
        subst hr1 hr2
        unfold prE
        rw [if_neg hf]
        obtain ⟨k1, k2⟩ := box_at (X := w) rfl hext2
        obtain ⟨f1, f2, f3⟩ := box_fin (Ext.refl w) rfl hext2 (.slice none 0 0)
        clear hown2
        go_wp2_with fail
        try simp only [Exit.inBlock, Exit.then]
        refine bodyPost_ret (results_box2 rfl _ _ _ _ rfl (load_dec f2)) rfl ?_
        exact ⟨none, 0, 0, rfl, Own.nil _ _, f1, by omega⟩
    · have hlt : (i : Int) < (N : Int) := by omega
      have hil : i < l.length := by rw [HN.out]; omega
      obtain ⟨c, hc⟩ : ∃ c, l[i]'hil = c := ⟨_, rfl⟩
      have hget : ∀ hz : i < S.size, S[i]'hz = c := fun hz => by rw [HGET.out i hil hz, hc]
      have hne : c ≠ 46 := by rw [← hc]; exact HNO.out _ (List.getElem_mem hil)
      have hb : ((c.toNat : Int) == 46) = false := by
        rw [beq_eq_false_iff_ne]
        intro h
        exact hne (UInt8.toNat_inj.1 (by have : c.toNat = 46 := by omega
                                         rw [this]; rfl))
      have hb2 : ¬ ((c.toNat : Int) = 46) := by rwa [beq_eq_false_iff_ne] at hb
      clear hc hne hil
      go_wp2_with fail
      go_roundw
      case rel => exact ⟨i + 1, by omega, rfl, by go_num, rfl⟩
      case measure => simp only [RowKit.intOf]; omega

set_option maxHeartbeats 16000000 in
set_option maxRecDepth 100000 in
theorem rdparse_b (d r : List UInt8) (hl : d.length + 1 + r.length ≤ 1000) (hno : ∀ x ∈ d, x ≠ 46) (w : World) :
    Calls Tryz.prog 46 #[.string ⟨(d ++ 46 :: r).toArray⟩] w (NewDE w 30000 (drL (d ++ 46 :: r)) (drE (d ++ 46 :: r))) := by
  have HBAD := Lib.hid (fun h => dr_bad (d := d) (r := r) hno h)
  have HGOOD := Lib.hid (fun h h2 => dr_good (d := d) (r := r) hno h h2)
  obtain ⟨l, hdr⟩ : ∃ l, d ++ 46 :: r = l := ⟨_, rfl⟩
  rw [hdr] at HBAD HGOOD ⊢
  obtain ⟨RL, e1⟩ : ∃ x, drL l = x := ⟨_, rfl⟩
  obtain ⟨RE, e2⟩ : ∃ x, drE l = x := ⟨_, rfl⟩
  rw [e1, e2] at HBAD HGOOD ⊢
  have CP := Lib.hid (fun w => rparse_calls d (by omega) w)
  obtain ⟨M, hM⟩ : ∃ M, d.length = M := ⟨_, rfl⟩
  obtain ⟨R, hR⟩ : ∃ R, r.length = R := ⟨_, rfl⟩
  have hll : l.length = M + 1 + R := by rw [← hdr, List.length_append, List.length_cons, hM, hR]; omega
  have hsz := str_size l
  rw [hll] at hsz
  have HGET := Lib.hid (fun (i : Nat) (h : i < M) => show ∃ c : UInt8, c ≠ 46 ∧ ∀ hz : i < (⟨l.toArray⟩ : ByteArray).size, (⟨l.toArray⟩ : ByteArray)[i]'hz = c from by
    have hi : i < l.length := by omega
    refine ⟨l[i]'hi, ?_, fun _ => rfl⟩
    have hid : i < d.length := by omega
    have e : l[i]'hi = d[i]'hid := by simp only [← hdr]; rw [List.getElem_append_left hid]
    rw [e]; exact hno _ (List.getElem_mem hid))
  have HDOT := Lib.hid (show ∀ hz : M < (⟨l.toArray⟩ : ByteArray).size, (⟨l.toArray⟩ : ByteArray)[M]'hz = 46 from fun hz => by
    have hi : M < l.length := by omega
    show l[M]'hi = 46
    simp only [← hdr]
    rw [List.getElem_append_right (by omega)]
    simp [hM])
  have hx1 : (⟨l.toArray⟩ : ByteArray).extract 0 M = ⟨d.toArray⟩ := by rw [str_upto, ← hdr, ← hM, List.take_left]
  have hx2 : (⟨l.toArray⟩ : ByteArray).extract (M + 1) (M + 1 + R) = ⟨r.toArray⟩ := by
    rw [← hll, str_from, ← hdr, show M + 1 = (d ++ [46]).length by rw [List.length_append, hM]; rfl, show d ++ 46 :: r = (d ++ [46]) ++ r by simp, List.drop_left]
  have hszr := str_size r
  have HRG := Lib.hid (fun (i : Nat) (h : i < r.length) => show ∀ hz : i < (⟨r.toArray⟩ : ByteArray).size, (⟨r.toArray⟩ : ByteArray)[i]'hz = r[i]'h from fun _ => rfl)
  rw [hR] at hszr
  generalize hS : (⟨l.toArray⟩ : ByteArray) = S at *
  generalize hQ : (⟨r.toArray⟩ : ByteArray) = Q at *
  obtain ⟨DS, hDS⟩ : ∃ x : ByteArray, (⟨d.toArray⟩ : ByteArray) = x := ⟨_, rfl⟩
  rw [hDS] at hx1 CP
  rw [hM] at CP hl
  have HR := Lib.hid hR
  rw [hR] at hl
  clear hS hQ hDS hM hR hno e1 e2 hdr hll
  go_enter Tryz.func46, Tryz.ntmps46
  go_wp2_with fail
  go_loopw [4, 5] (fun dv iv wr => RP1 (w.alloc (.cells #[.slice none 0 0] 25)) (M + 1 + R) M dv iv wr) (fun _ iv _ => M + 1 + R - (RowKit.intOf iv).toNat)
  case atStart => exact ⟨0, by omega, rfl, rfl, rfl⟩
  case round =>
    obtain ⟨i, hi, rfl, rfl, rfl⟩ := hrel
    have hlt : (i : Int) < ((M + 1 + R : Nat) : Int) := by omega
    by_cases hiM : i = M
    · subst hiM
      have hget := HDOT.out
      have hb : (((46 : UInt8).toNat : Int) == 46) = true := rfl
      have hb1 : (0 : Int) ≤ (i : Int) := by omega
      have hb2 : (i : Int) ≤ ((i + 1 + R : Nat) : Int) := by omega
      have hb3 : (i : Int) + 1 ≤ ((i + 1 + R : Nat) : Int) := by omega
      have hb4 : ((i : Int) == (i : Int) + 1 + (R : Int)) = false := by rw [beq_eq_false_iff_ne]; omega
      have hb6 : ¬ ((i : Int) = (i : Int) + 1 + (R : Int)) := by omega
      have hb5 : IntKind.i64.wrap ((i : Int) + 1) = (i : Int) + 1 := IntWalk.i64_in _ (by omega)
      go_wp2_with fail
      refine (CP.out _).mono ?_
      rintro e w2 ⟨o2, n2, c2, rfl, hown2, hext2, hno2⟩
      by_cases hf : decForm d = true
      rotate_left
      · obtain ⟨hr1, hr2⟩ := HBAD.out (.inl (Bool.eq_false_iff.2 hf))
        subst hr1 hr2
        unfold prE
        rw [if_neg hf]
        obtain ⟨k1, k2⟩ := box_at (X := w) rfl hext2
        obtain ⟨f1, f2, f3⟩ := box_fin (Ext.refl w) rfl hext2 (.slice none 0 0)
        clear hown2
        go_wp2_with fail
        try simp only [Exit.inBlock, Exit.then]
        refine bodyPost_ret (results_box2 rfl _ _ _ _ rfl (load_dec f2)) rfl ?_
        exact ⟨none, 0, 0, rfl, Own.nil _ _, f1, by omega⟩
      unfold prL at hown2
      unfold prE
      rw [if_pos hf] at hown2 ⊢
      have HX := Lib.hid hext2
      have CD := rdofnat_calls hown2.sl (by omega)
      rw [val_lim] at CD
      have HCD := Lib.hid CD
      have HF := Lib.hid hf
      clear CD hown2 hext2 hf hget
      go_wp2_with fail
      refine HCD.out.mono ?_
      rintro e w3 ⟨o3, n3, c3, rfl, hown3, hext3, hno3⟩
      obtain ⟨W4, hW4⟩ : ∃ W, w3.alloc (.cells #[.slice o3 n3 c3] 25) = W := ⟨_, rfl⟩
      have HE4 := Lib.hid (show Ext (w.alloc (.cells #[.slice none 0 0] 25)) W4 by rw [← hW4]; exact (HX.out.trans hext3).alloc _)
      have HR4 := Lib.hid (show W4.heap[w3.heap.size]? = some (.cells #[.slice o3 n3 c3] 25 (0, 0)) by rw [← hW4]; exact heap_alloc_new w3 _)
      have HS4 := Lib.hid (show Sl W4 o3 n3 c3 (lim (dnum d * U36)) by rw [← hW4]; exact hown3.sl.old ((Ext.refl _).alloc _))
      have HW4 := Lib.hid hW4
      have hn3 : n3 ≤ 3000 := by omega
      clear hW4 hown3 hext3
      by_cases hR0 : R = 0
      · have hnil : r = [] := List.eq_nil_of_length_eq_zero (by rw [HR.out]; exact hR0)
        obtain ⟨hr1, hr2⟩ := HBAD.out (.inr (by rw [hnil]; rfl))
        subst hr1 hr2
        have g1 : ((R : Int) == 0) = true := by rw [hR0]; rfl
        clear hnil
        obtain ⟨k1, k2⟩ := box_at (X := w) rfl (HE4.out)
        obtain ⟨f1, f2, f3⟩ := box_fin (Ext.refl w) rfl (HE4.out) (.slice none 0 0)
        go_wp2_with (rw [HW4.out])
        try simp only [Exit.inBlock, Exit.then]
        refine bodyPost_ret (results_box2 rfl _ _ _ _ rfl (load_dec f2)) rfl ?_
        exact ⟨none, 0, 0, rfl, Own.nil _ _, f1, by omega⟩
      have g1 : ((R : Int) == 0) = false := by rw [beq_eq_false_iff_ne]; omega
      by_cases h36 : 36 < R
      · obtain ⟨hr1, hr2⟩ := HBAD.out (.inr (by
          rw [Bool.eq_false_iff]
          intro h
          have := (decTail_iff.1 h).2.1
          have := HR.out
          omega))
        subst hr1 hr2
        have g2 : (36 : Int) < (R : Int) := by omega
        have g3 : decide ((36 : Int) < (R : Int)) = true := decide_eq_true g2
        obtain ⟨k1, k2⟩ := box_at (X := w) rfl (HE4.out)
        obtain ⟨f1, f2, f3⟩ := box_fin (Ext.refl w) rfl (HE4.out) (.slice none 0 0)
        go_wp2_with (rw [HW4.out])
        try simp only [Exit.inBlock, Exit.then]
        refine bodyPost_ret (results_box2 rfl _ _ _ _ rfl (load_dec f2)) rfl ?_
        exact ⟨none, 0, 0, rfl, Own.nil _ _, f1, by omega⟩
      have g2 : ¬ (36 : Int) < (R : Int) := by omega
      have g3 : decide ((36 : Int) < (R : Int)) = false := decide_eq_false g2
      obtain ⟨L, hL⟩ : ∃ L, R = L + 1 := ⟨R - 1, by omega⟩
      have hLr : L < r.length := by rw [HR.out]; omega
      obtain ⟨y, hy⟩ : ∃ y, r[L]'hLr = y := ⟨_, rfl⟩
      have hgl : ∀ hz : L < Q.size, Q[L]'hz = y := fun hz => by rw [HRG.out L hLr hz, hy]
      have HLAST := Lib.hid (show r.getLast? = some y by
        rw [List.getLast?_eq_getElem?, HR.out, hL, Nat.add_sub_cancel, List.getElem?_eq_getElem hLr, hy])
      have g4 : IntKind.i64.wrap ((R : Int) - 1) = (L : Int) := by rw [show (R : Int) - 1 = (L : Int) by omega]; exact IntWalk.i64_in _ (by omega)
      have g5 : (L : Int) < (R : Int) := by omega
      have hLR : L < R := by omega
      clear hL hy hLr
      by_cases h48 : y = 48
      · obtain ⟨hr1, hr2⟩ := HBAD.out (.inr (by
          rw [Bool.eq_false_iff]
          intro h
          exact (decTail_iff.1 h).2.2.1 (by rw [HLAST.out, h48])))
        subst hr1 hr2
        have g6 : ((y.toNat : Int) == 48) = true := by rw [h48]; rfl
        have g7 : (y.toNat : Int) = 48 := by rw [h48]; rfl
        obtain ⟨k1, k2⟩ := box_at (X := w) rfl (HE4.out)
        obtain ⟨f1, f2, f3⟩ := box_fin (Ext.refl w) rfl (HE4.out) (.slice none 0 0)
        go_wp2_with (rw [HW4.out])
        try simp only [Exit.inBlock, Exit.then]
        refine bodyPost_ret (results_box2 rfl _ _ _ _ rfl (load_dec f2)) rfl ?_
        exact ⟨none, 0, 0, rfl, Own.nil _ _, f1, by omega⟩
      have g6 : ((y.toNat : Int) == 48) = false := by
        rw [beq_eq_false_iff_ne]
        intro h
        exact h48 (UInt8.toNat_inj.1 (by have : y.toNat = 48 := by omega
                                         rw [this]; rfl))
      have HY := Lib.hid h48
      obtain ⟨k1, k2⟩ := box_at (X := w) rfl HE4.out
      clear h48
      go_wp2_with (rw [HW4.out])
      clear k1 k2 g6 g4 g5 hgl g3 g2 g1
      go_loopw [10, 11] (fun rv iv wr => RP3 W4 r rv iv wr) (fun _ iv _ => R - (RowKit.intOf iv).toNat)
      case atStart => exact ⟨0, none, 0, 0, by omega, rfl, rfl, by rw [List.take_zero, dnum_nil, lim_zero]; exact Own.nil _ _, rfl, Ext.refl _⟩
      case round =>
        obtain ⟨j, o, n, c, hj, rfl, rfl, hown, hall, hex⟩ := hrel
        rw [HR.out] at hj
        have hnb : n ≤ 2 := by
          have h1 := hown.sl.len
          have h2 := dnum_lt hall
          have h3 : 10 ^ (r.take j).length ≤ 10 ^ 36 := Nat.pow_le_pow_right (by decide) (by rw [List.length_take, HR.out]; omega)
          have h4 : (10 : Nat) ^ 36 < B64 ^ 2 := by decide +kernel
          rw [← h1]
          exact lim_len_le (by omega)
        have HOWN := Lib.hid hown; have HALL := Lib.hid hall; have HEX := Lib.hid hex
        clear hown hall hex
        by_cases hjR : j = R
        · have HTK := Lib.hid (show r.take j = r by rw [hjR, ← HR.out, List.take_length])
          have HALL2 := Lib.hid (show r.all isDig = true by have := HALL.out; rwa [HTK.out] at this)
          have hne : r ≠ [] := fun h => hR0 (by rw [← HR.out, h]; rfl)
          have htail : decTail r = true := decTail_iff.2 ⟨hne, by rw [HR.out]; omega, by rw [HLAST.out]; intro h; injection h with h; exact HY.out h, HALL2.out⟩
          obtain ⟨hr1, hr2⟩ := HGOOD.out HF.out htail
          rw [HR.out] at hr1
          have HRL := Lib.hid hr1
          subst hr2
          have hge : ¬ ((j : Int) < (R : Int)) := by omega
          have f1 : IntKind.i64.wrap (36 - (R : Int)) = ((36 - R : Nat) : Int) := by rw [show 36 - (R : Int) = ((36 - R : Nat) : Int) by omega]; exact IntWalk.i64_in _ (by omega)
          have HV := Lib.hid (show val (lim (dnum (r.take j))) = dnum r by rw [HTK.out, val_lim])
          clear hne htail hr1 hjR
          go_wp2_with fail
          refine (rpow_calls (36 - R) (by omega) _).mono ?_
          rintro e w5 ⟨o5, n5, c5, rfl, hown5, hext5, hno5⟩
          have HE5 := Lib.hid (HEX.out.trans hext5)
          have HO5 := Lib.hid hown5.sl
          have HN5 := Lib.hid hno5
          have HP5 := Lib.hid (HOWN.out.sl.old hext5)
          have ED := (Ext.refl w5).drew
          have j1 := drow_cell (rowE (HE5.out.trans ED) HR4.out)
          have HED := Lib.hid ED
          have hn5 : n5 ≤ 5000 := hno5
          clear hown5 hext5 ED
          go_wp2_with fail
          go_region_with (first
            | (go_at_call 59; refine (fmul_calls (HP5.out.old HED.out) (HO5.out.old HED.out) (by omega) (by omega)).mono ?_; rintro e y6 ⟨o6, n6, c6, rfl, ho6, hx6, hn6⟩; rw [HV.out, val_lim] at ho6; have E6 : Ext w5 y6 := HED.out.trans hx6; have j2 := drow_cell (rowE (HE5.out.trans E6) HR4.out))
            | (go_at_call 19; refine (rdadd_calls (HS4.out.old (HE5.out.trans E6)) ho6.sl (by omega) (by omega)).mono ?_; rintro e y7 ⟨o7, n7, c7, rfl, ho7, hx7, hn7⟩; rw [val_lim, val_lim] at ho7; have E7 : Ext w5 y7 := E6.trans hx7; obtain ⟨k1, k2⟩ := box_at (X := w) rfl ((HE4.out.trans HE5.out).trans E7)))
          all_goals (
            have hs := (HE4.out.trans HE5.out).trans E6
            obtain ⟨f1, f2, f3⟩ := box_fin (Ext.refl w) rfl ((HE4.out.trans HE5.out).trans E7) (.slice o7 n7 c7)
            have HO7 := Lib.hid (f3 (ho7.mono hs.size))
            clear ho6 hx6 ho7 hx7
            go_wp2_with fail
            try simp only [Exit.inBlock, Exit.then]
            refine bodyPost_ret (results_box2 rfl _ _ _ _ rfl (load_dec f2)) rfl ?_
            exact ⟨o7, n7, c7, rfl, by rw [HRL.out]; exact HO7.out, f1, by omega⟩)
        · have hlt2 : (j : Int) < (R : Int) := by omega
          have hjr : j < r.length := by rw [HR.out]; omega
          obtain ⟨y2, hy2⟩ : ∃ y, r[j]'hjr = y := ⟨_, rfl⟩
          have hg2 : ∀ hz : j < Q.size, Q[j]'hz = y2 := fun hz => by rw [HRG.out j hjr hz, hy2]
          have hjR2 : j < R := by omega
          have hb8 : y2.toNat < 256 := y2.toNat_lt
          by_cases hdig : isDig y2 = true
          · obtain ⟨d1, d2⟩ := isDig_iff.1 hdig
            have HDN := Lib.hid (show dnum (r.take j) * 10 + (y2.toNat - 48) = dnum (r.take (j + 1)) by rw [dnum_take_succ hjr, hy2])
            have HAN := Lib.hid (show (r.take (j + 1)).all isDig = true by rw [all_take_succ hjr, hy2, hdig, HALL.out]; rfl)
            have g1 : ¬ ((y2.toNat : Int) < 48) := by omega
            have g2 : decide ((y2.toNat : Int) < 48) = false := decide_eq_false g1
            have g3 : ¬ ((57 : Int) < (y2.toNat : Int)) := by omega
            have g4 : decide ((57 : Int) < (y2.toNat : Int)) = false := decide_eq_false g3
            obtain ⟨D, hD⟩ : ∃ D, y2.toNat - 48 = D := ⟨_, rfl⟩
            rw [hD] at HDN
            have g5 : IntKind.u8.wrap ((y2.toNat : Int) - 48) = (D : Int) := by rw [show (y2.toNat : Int) - 48 = (D : Int) by omega]; exact IntWalk.u8_in _ (by omega)
            have g6 : IntKind.u64.wrap (D : Int) = (D : Int) := by rw [u64_wrap_nat, B64_eq, Nat.mod_eq_of_lt (by omega)]
            have HDB := Lib.hid (show D < B64 by rw [B64_eq]; omega)
            clear hy2 hD hdig
            have hjj : j + 1 ≤ r.length := hjr
            go_wp2_with fail
            go_region_held3 (fun _ => True) (exact trivial)
              (first
                | (go_at_call_of 60 D; refine (fof_calls D HDB.out _).mono ?_; rintro e y7 ⟨o7, n7, c7, rfl, ho7, hx7, hn7⟩; have E7 : Ext wr y7 := E6.trans hx7)
                | (go_at_call 60; refine (fof_calls 10 (by decide) _).mono ?_; rintro e y5 ⟨o5, n5, c5, rfl, ho5, hx5, hn5⟩; have E5 : Ext wr y5 := (Ext.refl wr).drew.trans hx5)
                | (go_at_call 59; refine (fmul_calls (HOWN.out.sl.old E5) ho5.sl (by omega) (by omega)).mono ?_; rintro e y6 ⟨o6, n6, c6, rfl, ho6, hx6, hn6⟩; have E6 : Ext wr y6 := E5.trans hx6)
                | (go_at_call 58; refine (fadd_calls (ho6.sl.old hx7) ho7.sl (by omega) (by omega)).mono ?_; rintro e y8 ⟨o8, n8, c8, rfl, ho8, hx8, hn8⟩; have E8 : Ext wr y8 := E7.trans hx8))
            all_goals (
              rw [val_lim, val_lim, val_lim, val_lim, HDN.out] at ho8
              have HO8 := Lib.hid (ho8.mono ((HEX.out.trans E7).size))
              have HREL := Lib.hid (fun iv (hiv : iv = Value.int .i64 ((j + 1 : Nat) : Int)) => show RP3 W4 r (.slice o8 n8 c8) iv y8 from ⟨j + 1, o8, n8, c8, hjj, rfl, hiv, HO8.out, HAN.out, HEX.out.trans E8⟩)
              have g7 : IntKind.i64.wrap ((j : Int) + 1) = (j : Int) + 1 := IntWalk.i64_in _ (by omega)
              clear ho5 hx5 ho6 hx6 ho7 hx7 ho8 hx8
              go_wp2_with fail
              go_roundw
              case rel => first | exact HREL.out _ (by go_num) | exact ⟨_, HREL.out _ (by go_num), rfl⟩ | exact ⟨_, _, HREL.out _ (by go_num), rfl, rfl⟩
              case measure => simp only [RowKit.intOf]; omega)
          · obtain ⟨hr1, hr2⟩ := HBAD.out (.inr (by
              rw [Bool.eq_false_iff]
              intro h
              have h2 := (decTail_iff.1 h).2.2.2
              rw [List.all_eq_true] at h2
              exact hdig (by rw [← hy2]; exact h2 _ (List.getElem_mem hjr))))
            subst hr1 hr2
            by_cases h1 : y2.toNat < 48
            · have g1 : ((y2.toNat : Int) < 48) := by omega
              have g2 : decide ((y2.toNat : Int) < 48) = true := decide_eq_true g1
              clear hdig hy2
              obtain ⟨k1, k2⟩ := box_at (X := w) rfl (HE4.out.trans HEX.out)
              obtain ⟨f1, f2, f3⟩ := box_fin (Ext.refl w) rfl (HE4.out.trans HEX.out) (.slice none 0 0)
              go_wp2_with fail
              try simp only [Exit.inBlock, Exit.then]
              refine bodyPost_ret (results_box2 rfl _ _ _ _ rfl (load_dec f2)) rfl ?_
              exact ⟨none, 0, 0, rfl, Own.nil _ _, f1, by omega⟩
            · have g1 : ¬ ((y2.toNat : Int) < 48) := by omega
              have g2 : decide ((y2.toNat : Int) < 48) = false := decide_eq_false g1
              have g3 : ((57 : Int) < (y2.toNat : Int)) := by
                have h2 : ¬ y2.toNat ≤ 57 := fun h2 => hdig (isDig_iff.2 ⟨by omega, h2⟩)
                omega
              have g4 : decide ((57 : Int) < (y2.toNat : Int)) = true := decide_eq_true g3
              clear hdig hy2
              obtain ⟨k1, k2⟩ := box_at (X := w) rfl (HE4.out.trans HEX.out)
              obtain ⟨f1, f2, f3⟩ := box_fin (Ext.refl w) rfl (HE4.out.trans HEX.out) (.slice none 0 0)
              go_wp2_with fail
              try simp only [Exit.inBlock, Exit.then]
              refine bodyPost_ret (results_box2 rfl _ _ _ _ rfl (load_dec f2)) rfl ?_
              exact ⟨none, 0, 0, rfl, Own.nil _ _, f1, by omega⟩
    · obtain ⟨c, hne, hget⟩ := HGET.out i (by omega)
      have hb : ((c.toNat : Int) == 46) = false := by
        rw [beq_eq_false_iff_ne]
        intro h
        exact hne (UInt8.toNat_inj.1 (by have : c.toNat = 46 := by omega
                                         rw [this]; rfl))
      have hb2 : ¬ ((c.toNat : Int) = 46) := by rwa [beq_eq_false_iff_ne] at hb
      clear hne
      go_wp2_with fail
      go_roundw
      case rel => exact ⟨i + 1, by omega, rfl, by go_num, rfl⟩
      case measure => simp only [RowKit.intOf]; omega

end Go.Proofs.YtdafjajleglccaaGreatDoor

/- gleanlaw2.DecText: the walk. -/
namespace Go.Proofs.YtdafjajleglccaaGreatDoor
open Go.RowKit Go.Lib

theorem dtext_any {a : Option Addr} {n c : Nat} {xs : List Nat} {w : World} (X : Nat) (T : ByteArray) (ha : Sl w a n c xs) (hx : val xs = X) (hT : (⟨(decText X).toArray⟩ : ByteArray) = T) (hn : n ≤ 60) (ht : Tab w) :
    Calls Tryz.prog 47 #[DecV a n c] w (RetE (.string T) w) := by
  subst hx hT; exact dtext_calls ha (by omega) ht
theorem rdtext_any {a : Option Addr} {n c : Nat} {xs : List Nat} {w : World} (X : Nat) (T : ByteArray) (ha : Sl w a n c xs) (hx : val xs = X) (hT : (⟨(decText X).toArray⟩ : ByteArray) = T) (hn : n ≤ 60) :
    Calls Tryz.prog 48 #[DecV a n c] w (RetE (.string T) w) := by
  subst hx hT; exact rdtext_calls ha (by omega)
theorem dparse_str (S : ByteArray) (P : List Nat) (E : Int) (hP : drL S.data.toList = P) (hE : drE S.data.toList = E) (hl : S.size ≤ 800) {w : World} (hM : MaxL w) : Calls Tryz.prog 45 #[.string S] w (NewDE w 2000 P E) := by
  have hs : S.data.toList.length = S.size := by rw [Array.length_toList]; rfl
  have := dparse_calls S.data.toList (by omega) hM
  rw [hP, hE] at this
  exact Calls.mono this fun e w' h => NewDE.wide h (by omega)
theorem rdparse_str (S : ByteArray) (P : List Nat) (E : Int) (hP : drL S.data.toList = P) (hE : drE S.data.toList = E) (hl : S.size ≤ 800) (w : World) : Calls Tryz.prog 46 #[.string S] w (NewDE w 30000 P E) := by
  have hs : S.data.toList.length = S.size := by rw [Array.length_toList]; rfl
  rcases split46 S.data.toList with h | ⟨d, r, h1, h2⟩
  · have := rdparse_a S.data.toList (by omega) h w
    rw [hP, hE] at this
    exact Calls.mono this fun e w' h => NewDE.wide h (by omega)
  · have h3 := congrArg List.length h1
    rw [List.length_append, List.length_cons] at h3
    have := rdparse_b d r (by omega) h2 w
    rw [← h1, hP, hE] at this
    exact Calls.mono this fun e w' h => h

set_option maxHeartbeats 16000000 in
set_option maxRecDepth 100000 in
theorem dtxt_law {a1 : Option Addr} {m1 c1 : Nat} {xs1 : List Nat} {w : World} (ha1 : Sl w a1 m1 c1 xs1) (S : ByteArray) (htab : Tab w) (hM : MaxL w) :
    Calls Tryz.prog 5 #[DecV a1 m1 c1, .string S] w (RetE (.bool true) w) := by
  obtain ⟨A, hv1⟩ : ∃ X, val xs1 = X := ⟨_, rfl⟩
  have HQ1 := Lib.hid hv1; have HA1 := Lib.hid ha1
  have HT := Lib.hid htab; have HM := Lib.hid hM
  clear hv1 ha1 htab hM
  obtain ⟨V1, hV⟩ : ∃ V, w.alloc (.cells #[.slice a1 m1 c1] 25) = V := ⟨_, rfl⟩
  have R1 := Lib.hid (show V1.heap[w.heap.size]? = some (.cells #[.slice a1 m1 c1] 25 (0, 0)) by rw [← hV]; exact heap_alloc_new w _)
  have x1 : Ext w V1 := by rw [← hV]; exact (Ext.refl _).alloc _
  have HV1 := Lib.hid hV
  clear hV
  have D1 := Lib.hid x1
  have EX1 := Lib.hid x1
  clear x1
  go_enter Tryz.func5, Tryz.ntmps5
  have C2 := Lib.hid (known2_calls V1 (HT.out.old EX1.out) (HM.out.old EX1.out))
  go_wp2_with (rw [HV1.out])
  refine C2.out.mono ?_
  rintro e w2 ⟨rfl, x2⟩
  have D2 := Lib.hid x2
  have EX2 := Lib.hid (EX1.out.trans x2)
  clear x2
  clear C2
  obtain ⟨Z, hZ⟩ : ∃ Z, w2.alloc (.cells #[.slice a1 m1 c1] 25) = Z := ⟨_, rfl⟩
  have hxz : Ext w2 Z := by rw [← hZ]; exact (Ext.refl _).alloc _
  by_cases h60 : m1 ≤ 40
  rotate_left
  · have HSM := Lib.hid (sd_no1 w2 (a1 := a1) (m1 := m1) (c1 := c1) h60)
    rw [hZ] at HSM
    have HZ := Lib.hid hZ; have HEZ := Lib.hid (EX2.out.trans hxz)
    clear hZ hxz
    have ja := drow_cell (rowE D2.out R1.out)
    go_wp2_with (rw [HZ.out])
    refine HSM.out.mono ?_
    rintro e w' ⟨rfl, rfl⟩
    go_wp2_with fail
    go_ret
    exact ⟨rfl, HEZ.out⟩
  have HSM := Lib.hid (sd_yes1 w2 (a1 := a1) (m1 := m1) (c1 := c1) h60)
  rw [hZ] at HSM
  have HZ := Lib.hid hZ
  have q1 := h60; clear h60
  clear hZ
  have ja := drow_cell (rowE D2.out R1.out)
  have D3 := Lib.hid hxz
  have EX3 := Lib.hid (EX2.out.trans hxz)
  clear hxz
  go_wp2_with (rw [HZ.out])
  refine HSM.out.mono ?_
  rintro e w' ⟨rfl, rfl⟩
  clear HSM ja
  by_cases h8 : S.size ≤ 800
  rotate_left
  · have g20 : (800 : Int) < (S.size : Int) := by omega
    go_wp2_with fail
    go_ret
    exact ⟨rfl, EX3.out⟩
  have g20 : ¬ (800 : Int) < (S.size : Int) := by omega
  obtain ⟨P, hP⟩ : ∃ X, drL S.data.toList = X := ⟨_, rfl⟩
  obtain ⟨E, hE⟩ : ∃ X : Int, drE S.data.toList = X := ⟨_, rfl⟩
  obtain ⟨T, hT⟩ : ∃ X : ByteArray, (⟨(decText A).toArray⟩ : ByteArray) = X := ⟨_, rfl⟩
  have HP := Lib.hid hP; have HE_ := Lib.hid hE; have HTX := Lib.hid hT
  clear hP hE hT
  have C3 := Lib.hid (dparse_str S P E HP.out HE_.out h8 (HM.out.old EX3.out))
  go_wp2_with fail
  refine C3.out.mono ?_
  rintro e w3 ⟨p3, n3, c3, rfl, o3, x3, l3⟩
  have S3 := Lib.hid o3.sl
  clear o3
  have D4 := Lib.hid x3
  have EX4 := Lib.hid (EX3.out.trans x3)
  clear x3
  clear C3
  obtain ⟨V4, hV⟩ : ∃ V, w3.alloc (.cells #[.slice p3 n3 c3] 25) = V := ⟨_, rfl⟩
  have R4 := Lib.hid (show V4.heap[w3.heap.size]? = some (.cells #[.slice p3 n3 c3] 25 (0, 0)) by rw [← hV]; exact heap_alloc_new w3 _)
  have x4 : Ext w3 V4 := by rw [← hV]; exact (Ext.refl _).alloc _
  have HV4 := Lib.hid hV
  clear hV
  have D5 := Lib.hid x4
  have EX5 := Lib.hid (EX4.out.trans x4)
  clear x4
  have C5 := Lib.hid (rdparse_str S P E HP.out HE_.out h8 V4)
  go_wp2_with (rw [HV4.out])
  refine C5.out.mono ?_
  rintro e w5 ⟨p5, n5, c5, rfl, o5, x5, l5⟩
  have S5 := Lib.hid o5.sl
  clear o5
  have D6 := Lib.hid x5
  have EX6 := Lib.hid (EX5.out.trans x5)
  clear x5
  clear C5
  obtain ⟨V6, hV⟩ : ∃ V, w5.alloc (.cells #[.slice p5 n5 c5] 25) = V := ⟨_, rfl⟩
  have R6 := Lib.hid (show V6.heap[w5.heap.size]? = some (.cells #[.slice p5 n5 c5] 25 (0, 0)) by rw [← hV]; exact heap_alloc_new w5 _)
  have x6 : Ext w5 V6 := by rw [← hV]; exact (Ext.refl _).alloc _
  have HV6 := Lib.hid hV
  clear hV
  have D7 := Lib.hid x6
  have EX7 := Lib.hid (EX6.out.trans x6)
  clear x6
  have H7 : Hid (∀ w', Ext V6 w' → w'.cell? ⟨w.heap.size, 0, none⟩ = some (.slice a1 m1 c1) ∧ w'.cell? ⟨w3.heap.size, 0, none⟩ = some (.slice p3 n3 c3) ∧ w'.cell? ⟨w5.heap.size, 0, none⟩ = some (.slice p5 n5 c5)) := Lib.hid (fun w' h => ⟨drow_cell (rowE (Ext.trans (Ext.trans D2.out (Ext.trans D3.out (Ext.trans D4.out (Ext.trans D5.out (Ext.trans D6.out D7.out))))) h) R1.out), drow_cell (rowE (Ext.trans (Ext.trans D6.out D7.out) h) R4.out), drow_cell (rowE h R6.out)⟩)
  go_wp2_with (rw [HV6.out])
  go_region_held3 (fun w' => w'.cell? ⟨w.heap.size, 0, none⟩ = some (.slice a1 m1 c1) ∧ w'.cell? ⟨w3.heap.size, 0, none⟩ = some (.slice p3 n3 c3) ∧ w'.cell? ⟨w5.heap.size, 0, none⟩ = some (.slice p5 n5 c5))
    (first | exact H7.out _ (Ext.refl _) | exact H7.out _ (Ext.refl _).drew | exact H7.out _ (by assumption))
    (first
      | (go_at_call 47; refine (dtext_any A T (HA1.out.old ((Ext.trans D1.out (Ext.trans D2.out (Ext.trans D3.out (Ext.trans D4.out (Ext.trans D5.out (Ext.trans D6.out D7.out)))))).trans (Ext.refl V6).drew)) HQ1.out HTX.out (by omega) (HT.out.old (EX7.out.trans (Ext.refl V6).drew))).mono ?_; rintro e wr7_0 ⟨rfl, xr7_0⟩; have Er7_0 : Ext V6 wr7_0 := (Ext.refl V6).drew.trans xr7_0)
      | (go_at_call 48; refine (rdtext_any A T (HA1.out.old ((Ext.trans D1.out (Ext.trans D2.out (Ext.trans D3.out (Ext.trans D4.out (Ext.trans D5.out (Ext.trans D6.out D7.out)))))).trans Er7_0)) HQ1.out HTX.out (by omega)).mono ?_; rintro e wr7_1 ⟨rfl, xr7_1⟩; have Er7_1 : Ext V6 wr7_1 := Er7_0.trans xr7_1)
      | (go_at_call 18; refine (hdec_at (S3.out.old ((Ext.trans D5.out (Ext.trans D6.out D7.out)).trans Er7_1)) (S5.out.old (D7.out.trans Er7_1)) (by omega) (by omega)).mono ?_; rintro e wr7_2 ⟨rfl, xr7_2⟩; have Er7_2 : Ext V6 wr7_2 := Er7_1.trans xr7_2))
  have x7 := Er7_2
  clear xr7_0 Er7_0 xr7_1 Er7_1 xr7_2 Er7_2
  have D8 := Lib.hid x7
  have EX8 := Lib.hid (EX7.out.trans x7)
  clear x7
  go_wp2_with fail
  go_ret
  exact ⟨by first | rfl | simp, EX8.out⟩

end Go.Proofs.YtdafjajleglccaaGreatDoor
