
/- What each step of a script does to a stake, in the program and in the document: the same fraction. -/
import Derived.Test.YtimcnhlcepemjaaGreatDoorML
import Derived.Test.YtimcnhlcepemjaaGreatDoorRlG
namespace Go.Proofs.YtimcnhlcepemjaaGreatDoor
open Go.RowKit

theorem tQ_byR (q : Nat × Nat) (n d : Nat) : tQ (byR q n d) = tQ q * ((n : Rat) / (d : Rat)) := by
  unfold byR
  split
  · rename_i h
    subst h
    rw [tQ_one]
    grind
  · rename_i h
    rw [tQ_mul, tQ_r (Nat.pos_of_ne_zero h)]
theorem can_byR (q : Nat × Nat) (n d : Nat) : Can (byR q n d) := by
  unfold byR
  split
  · exact can_one
  · exact can_mul _ _
theorem tQ_whole (n : Nat) : tQ (n, 1) = (n : Rat) := by
  rw [tQ_pos (by decide)]
  grind
theorem same_give {s t : Stk} (h : SameS s t) (X n : Nat) : SameS (fGive (quoR (decQ X) (n, 1)) s) (rGive X n t) := by
  refine ⟨h.h, Same.of (can_add _ _) (can_add _ _) ?_, h.p, h.k⟩
  show tQ (addR s.o (mulR s.h (quoR (decQ X) (n, 1)))) = tQ (addR t.o (byR (mulR (decQ X) t.h) 1 n))
  rw [tQ_add, tQ_add, tQ_mul, tQ_quo, tQ_byR, tQ_mul, h.h.tq, h.o.tq, tQ_whole]
  generalize tQ t.o = a
  generalize tQ t.h = b
  generalize tQ (decQ X) = c
  generalize (n : Rat) = d
  have : ((1 : Nat) : Rat) = 1 := by decide
  rw [this]
  grind
theorem same_cut {s t : Stk} (h : SameS s t) (u n : Nat) : SameS (fCut (quoR (u, 1) (n, 1)) s) (rCut n u t) := by
  refine ⟨Same.of (can_mul _ _) (can_byR _ _ _) ?_, h.o, ?_, ?_⟩
  · show tQ (mulR s.h (quoR (u, 1) (n, 1))) = tQ (byR t.h u n)
    rw [tQ_mul, tQ_quo, tQ_byR, h.h.tq, tQ_whole, tQ_whole]
  · show wrap64 (s.p + 1) = wrap64 (t.p + 1)
    rw [h.p]
  · show wrap64 (s.k + 1) = wrap64 (t.k + 1)
    rw [h.k]
theorem same_settle {s t : Stk} (h : SameS s t) : SameS (fSettle s) (fSettle t) := by
  refine ⟨h.h, h.o, ?_, h.k⟩
  show wrap64 (s.p + 1) = wrap64 (t.p + 1)
  rw [h.p]
/-- What Hold lays down, in the document. -/
def rHoldQ (X S n : Nat) : Nat × Nat := if S = 0 then (0, 1) else (rN (X * n) S, rD (X * n) S)
theorem same_hold (X S n : Nat) : Same (holdQ X S n) (rHoldQ X S n) := by
  have hc : Can (holdQ X S n) := can_quo _ _
  have h36 : 0 < U36 := by decide +kernel
  unfold rHoldQ
  split
  · rename_i h
    subst h
    refine Same.of hc can_one ?_
    unfold holdQ decQ
    rw [tQ_quo, tQ_r h36, tQ_one]
    grind
  · rename_i h
    refine Same.of hc (can_r (Nat.pos_of_ne_zero h)) ?_
    unfold holdQ decQ
    rw [tQ_quo, tQ_mul, tQ_r h36, tQ_r h36, tQ_whole, tQ_r (Nat.pos_of_ne_zero h), Rat.natCast_mul]
    have h1 := castne h36
    have h2 := castne (Nat.pos_of_ne_zero h)
    generalize (X : Rat) = a at *
    generalize (S : Rat) = b at *
    generalize (n : Rat) = c at *
    generalize (U36 : Rat) = d at *
    grind
theorem sz_holdR {X S n a : Nat} (hX : ln X ≤ a) (hS : ln S ≤ a + 1) (hn : n < B64) : sz (rHoldQ X S n) ≤ a + 1 := by
  unfold rHoldQ
  split
  · rw [sz_one]; omega
  · have h1 := ln_mul X n
    have h2 : ln n ≤ 1 := ln_le (by simpa using hn)
    exact sz_of (by omega) (by omega) hS
/-- Hold in the list. -/
def rHold (es : List Ent) (v d : Nat) (q : Nat × Nat) : List Ent := match ixOf es v d with
  | none => es ++ [⟨v, d, ⟨q, (0, 1), 0, 0⟩⟩]
  | some i => es.set i ⟨v, d, ⟨q, ((es[i]?.map (·.s)).getD stk0).o, ((es[i]?.map (·.s)).getD stk0).p, ((es[i]?.map (·.s)).getD stk0).k⟩⟩
theorem Cpl.hold {M : Stakes} {es : List Ent} (h : Cpl M es) {v d : Nat} (hv : v < B64) (hd : d < B64) (X S n : Nat) : Cpl (putM M v d (heldStk M v d X S n)) (rHold es v d (rHoldQ X S n)) := by
  unfold rHold heldStk got
  rcases h.ix v d with ⟨h1, h2⟩ | ⟨i, e, s, h1, h2, rfl, rfl, h4, h5⟩
  · rw [h1, h2]
    exact h.snoc hv hd h1 ⟨same_hold X S n, Same.zero, rfl, rfl⟩
  · rw [h1, h4]
    simp only [h2, Option.map_some, Option.getD_some]
    exact h.set h2 ⟨same_hold X S n, h5.o, h5.p, h5.k⟩
/-- Drop in the list. -/
def rDrop (es : List Ent) (v d : Nat) : List Ent := match ixOf es v d with
  | none => es
  | some i => es.take i ++ es.drop (i + 1)
theorem Cpl.drop {M : Stakes} {es : List Ent} (h : Cpl M es) (v d : Nat) : Cpl (delM M v d) (rDrop es v d) := by
  unfold rDrop
  rcases h.ix v d with ⟨h1, h2⟩ | ⟨i, e, s, h1, h2, rfl, rfl, h4, h5⟩
  · rw [h2]
    exact h.del_none h1
  · rw [h1]
    exact h.del h2
/-- Settle in the list. -/
def rSettle (es : List Ent) (v d : Nat) : List Ent := match ixOf (rmap fSettle v es) v d with
  | none => rmap fSettle v es
  | some i => (rmap fSettle v es).set i ⟨v, d, ⟨(((rmap fSettle v es)[i]?.map (·.s)).getD stk0).h, (0, 1), 0, 0⟩⟩
theorem allM_at {M : Stakes} {v d : Nat} {f : Stk → Stk} : allM M v f v d = (M v d).map f := by unfold allM; rw [if_pos rfl]
theorem Cpl.settle {M : Stakes} {es : List Ent} (h : Cpl M es) (v d : Nat) : Cpl (settleM M v d) (rSettle es v d) ∧
    canQ (got M v d).o = ((rgot (rmap fSettle v es) v d).map (·.o)).getD (0, 1) ∧ settleP M v d = ((rgot (rmap fSettle v es) v d).map (·.p)).getD 0 ∧ (got M v d).k = ((rgot (rmap fSettle v es) v d).map (·.k)).getD 0 := by
  have hc := h.all (f := fSettle) (g := fSettle) (fun s t => same_settle) v
  unfold settleM settleP got rSettle
  rcases hc.ix v d with ⟨h1, h2⟩ | ⟨i, e, s, h1, h2, h3, h3', h4, h5⟩
  · have hr : rgot (rmap fSettle v es) v d = none := by unfold rgot; rw [find_ix, h2]; rfl
    rw [h2, hr]
    rw [allM_at] at h1
    cases hm : M v d with
    | none => exact ⟨hc, canQ_nil, rfl, rfl⟩
    | some s => rw [hm] at h1; cases h1
  · have hr : rgot (rmap fSettle v es) v d = some e.s := by unfold rgot; rw [find_ix, h1]; simp [h2]
    rw [h1, hr]
    rw [allM_at] at h4
    cases hm : M v d with
    | none => rw [hm] at h4; cases h4
    | some s0 =>
      rw [hm] at h4
      cases h4
      simp only [h2, Option.map_some, Option.getD_some]
      refine ⟨?_, h5.o.can, h5.p, h5.k⟩
      subst h3
      subst h3'
      exact hc.set h2 ⟨h5.h, Same.zero, rfl, rfl⟩

/-! How long they get. -/
/-- All stakes of a list are this short. -/
def Bnd (H O : Nat) (es : List Ent) : Prop := ∀ e ∈ es, sz e.s.h ≤ H ∧ sz e.s.o ≤ O
theorem Bnd.mono {H O H' O' : Nat} {es : List Ent} (h : Bnd H O es) (h1 : H ≤ H') (h2 : O ≤ O') : Bnd H' O' es := fun e he => ⟨Nat.le_trans (h e he).1 h1, Nat.le_trans (h e he).2 h2⟩
theorem Bnd.map {H O H' O' : Nat} {es : List Ent} (h : Bnd H O es) {f : Stk → Stk} (hf : ∀ s, sz s.h ≤ H → sz s.o ≤ O → sz (f s).h ≤ H' ∧ sz (f s).o ≤ O') (h1 : H ≤ H') (h2 : O ≤ O') (v : Nat) : Bnd H' O' (rmap f v es) := fun x hx => by
  unfold rmap at hx
  obtain ⟨e, he, rfl⟩ := List.mem_map.1 hx
  have := h e he
  split
  · exact hf _ this.1 this.2
  · exact ⟨Nat.le_trans this.1 h1, Nat.le_trans this.2 h2⟩
theorem Bnd.set {H O : Nat} {es : List Ent} (h : Bnd H O es) (i : Nat) {x : Ent} (hx : sz x.s.h ≤ H ∧ sz x.s.o ≤ O) : Bnd H O (es.set i x) := fun e he => by
  rcases List.mem_or_eq_of_mem_set he with h1 | h1
  · exact h e h1
  · subst h1; exact hx
theorem Bnd.hold {H O : Nat} {es : List Ent} (h : Bnd H O es) (hO : 1 ≤ O) {q : Nat × Nat} (hq : sz q ≤ H) (v d : Nat) : Bnd H O (rHold es v d q) := by
  unfold rHold
  split
  · intro e he
    rcases List.mem_append.1 he with h1 | h1
    · exact h e h1
    · rw [List.mem_singleton] at h1
      subst h1
      exact ⟨hq, by show sz (0, 1) ≤ O; rw [sz_one]; exact hO⟩
  · rename_i i hi
    refine h.set _ ⟨hq, ?_⟩
    show sz ((es[i]?.map (·.s)).getD stk0).o ≤ O
    cases he : es[i]? with
    | none => show sz (0, 0) ≤ O; rw [sz_nil]; exact hO
    | some e => exact (h e (List.mem_of_getElem? he)).2
theorem Bnd.drop {H O : Nat} {es : List Ent} (h : Bnd H O es) (v d : Nat) : Bnd H O (rDrop es v d) := by
  unfold rDrop
  split
  · exact h
  · intro e he
    rcases List.mem_append.1 he with h1 | h1
    · exact h e (List.mem_of_mem_take h1)
    · exact h e (List.mem_of_mem_drop h1)
theorem Bnd.settle {H O : Nat} {es : List Ent} (h : Bnd H O es) (hH : 1 ≤ H) (hO : 1 ≤ O) (v d : Nat) : Bnd H O (rSettle es v d) := by
  have hm : Bnd H O (rmap fSettle v es) := h.map (f := fSettle) (fun s h1 h2 => ⟨h1, h2⟩) (Nat.le_refl _) (Nat.le_refl _) v
  unfold rSettle
  split
  · exact hm
  · rename_i i hi
    refine hm.set _ ⟨?_, by show sz (0, 1) ≤ O; rw [sz_one]; exact hO⟩
    show sz (((rmap fSettle v es)[i]?.map (·.s)).getD stk0).h ≤ H
    cases he : (rmap fSettle v es)[i]? with
    | none => show sz (0, 0) ≤ H; rw [sz_nil]; exact hH
    | some e => exact (hm e (List.mem_of_getElem? he)).1
theorem Bnd.give {H O a : Nat} {es : List Ent} (h : Bnd H O es) {X n : Nat} (hX : ln X ≤ a) (hn : n < B64) (v : Nat) : Bnd H (O + H + a + 4) (rmap (rGive X n) v es) :=
  h.map (f := rGive X n) (fun s h1 h2 => ⟨h1, by
    show sz (addR s.o (byR (mulR (decQ X) s.h) 1 n)) ≤ _
    have a1 := sz_add s.o (byR (mulR (decQ X) s.h) 1 n)
    have a2 := sz_by (q := mulR (decQ X) s.h) (n := 1) (by decide) hn
    have a3 := sz_mul (decQ X) s.h
    have a4 := sz_dec X
    omega⟩) (Nat.le_refl _) (by omega) v
theorem Bnd.cut {H O : Nat} {es : List Ent} (h : Bnd H O es) {t u : Nat} (ht : t < B64) (hu : u < B64) (v : Nat) : Bnd (H + 1) O (rmap (rCut t u) v es) :=
  h.map (f := rCut t u) (fun s h1 h2 => ⟨by
    show sz (byR s.h u t) ≤ _
    have := sz_by (q := s.h) hu ht
    omega, h2⟩) (by omega) (Nat.le_refl _) v
theorem Cpl.ok {M : Stakes} {es : List Ent} (h : Cpl M es) {H O : Nat} (hb : Bnd H O es) {v d : Nat} {s : Stk} (hs : M v d = some s) : OkB H O s := by
  rcases h.look v d with ⟨h1, -⟩ | ⟨s', t, h1, h2, h3⟩
  · rw [h1] at hs; cases hs
  · rw [h1] at hs
    cases hs
    unfold rgot at h2
    cases hf : es.find? (isAt v d) with
    | none => rw [hf] at h2; cases h2
    | some e =>
      rw [hf] at h2
      cases h2
      have := hb e (List.mem_of_find?_eq_some hf)
      exact ⟨by rw [h3.h.sz]; exact this.1, by rw [h3.o.sz]; exact this.2⟩

end Go.Proofs.YtimcnhlcepemjaaGreatDoor
