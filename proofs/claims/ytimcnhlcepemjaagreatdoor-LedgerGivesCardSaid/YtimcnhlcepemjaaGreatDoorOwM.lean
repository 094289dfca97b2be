/- What is owed and held in all, as numbers; what settling leaves. -/
import Derived.Test.YtimcnhlcepemjaaGreatDoorHeld
namespace Go.Proofs.YtimcnhlcepemjaaGreatDoor
open Go.RowKit

theorem sorted_uniq : ∀ {l1 l2 : List Nat}, l1.Pairwise (· < ·) → l2.Pairwise (· < ·) → (∀ d, d ∈ l1 ↔ d ∈ l2) → l1 = l2
  | [], [], _, _, _ => rfl
  | [], b :: l, _, _, h => absurd ((h b).2 List.mem_cons_self) (by simp)
  | a :: l, [], _, _, h => absurd ((h a).1 List.mem_cons_self) (by simp)
  | a :: l1, b :: l2, h1, h2, h => by
    obtain ⟨p1, q1⟩ := List.pairwise_cons.1 h1
    obtain ⟨p2, q2⟩ := List.pairwise_cons.1 h2
    have e : a = b := by
      rcases List.mem_cons.1 ((h a).1 List.mem_cons_self) with e | e
      · exact e
      · rcases List.mem_cons.1 ((h b).2 List.mem_cons_self) with f | f
        · exact f.symm
        · have := p2 a e; have := p1 b f; omega
    subst e
    have : l1 = l2 := sorted_uniq q1 q2 fun d => ⟨fun hd => by
        rcases List.mem_cons.1 ((h d).1 (List.mem_cons_of_mem _ hd)) with e | e
        · have := p1 d hd; omega
        · exact e, fun hd => by
        rcases List.mem_cons.1 ((h d).2 (List.mem_cons_of_mem _ hd)) with e | e
        · have := p2 d hd; omega
        · exact e⟩
    rw [this]
/-- A validator whose delegators are those below n. -/
def Below_ (M : Stakes) (v n : Nat) : Prop := ∀ d, (M v d).isSome = true ↔ d < n
theorem dels_range {M : Stakes} {v n : Nat} {ds : List Nat} (h : Dels M v ds) (hb : Below_ M v n) (hn : n ≤ B64) : ds = List.range n := by
  refine sorted_uniq h.1 (List.pairwise_lt_range) fun d => ?_
  rw [h.2 d, hb d, List.mem_range]
  exact ⟨fun q => q.2, fun q => ⟨by omega, q⟩⟩

/-- The sum over those below n. -/
def sumTo (f : Nat → Rat) : Nat → Rat
  | 0 => 0
  | n + 1 => sumTo f n + f n
def foldR (g : Nat → Nat × Nat) (n : Nat) : Nat × Nat := (List.range n).foldl (fun a d => addR a (g d)) (0, 1)
theorem foldR_zero (g : Nat → Nat × Nat) : foldR g 0 = (0, 1) := rfl
theorem foldR_succ (g : Nat → Nat × Nat) (n : Nat) : foldR g (n + 1) = addR (foldR g n) (g n) := by
  unfold foldR
  rw [List.range_succ, List.foldl_append]
  rfl
theorem tQ_fold (g : Nat → Nat × Nat) (n : Nat) : tQ (foldR g n) = sumTo (fun d => tQ (g d)) n := by
  induction n with
  | zero => rw [foldR_zero, tQ_one]; rfl
  | succ n ih => rw [foldR_succ, tQ_add, ih]; rfl
theorem can_fold (g : Nat → Nat × Nat) (n : Nat) : Can (foldR g n) := by
  cases n with
  | zero => exact can_one
  | succ n => rw [foldR_succ]; exact can_add _ _
theorem sz_fold (g : Nat → Nat × Nat) (n H : Nat) (h : ∀ d, d < n → sz (g d) ≤ H) : sz (foldR g n) ≤ n * (H + 1) + 1 := by
  induction n with
  | zero => rw [foldR_zero, sz_one]; omega
  | succ n ih =>
    rw [foldR_succ]
    have h1 := ih fun d hd => h d (by omega)
    have h2 := h n (by omega)
    have h3 := sz_add (foldR g n) (g n)
    rw [Nat.succ_mul]
    omega
theorem tQ_nonneg (p : Nat × Nat) : 0 ≤ tQ p := by
  unfold tQ
  rw [Rat.div_def]
  exact Rat.mul_nonneg Rat.natCast_nonneg (Rat.le_of_lt (Rat.inv_pos.2 (Rat.natCast_pos.2 (dD_pos _))))
theorem sumTo_congr {f g : Nat → Rat} {n : Nat} (h : ∀ d, d < n → f d = g d) : sumTo f n = sumTo g n := by
  induction n with
  | zero => rfl
  | succ n ih => rw [sumTo, sumTo, ih fun d hd => h d (by omega), h n (by omega)]
theorem sumTo_nonneg {f : Nat → Rat} (h : ∀ d, 0 ≤ f d) (n : Nat) : 0 ≤ sumTo f n := by
  induction n with
  | zero => exact Rat.le_refl
  | succ n ih => exact Rat.add_nonneg ih (h n)
theorem sumTo_less {f g : Nat → Rat} {k n : Nat} (hk : k < n) (h : ∀ d, d ≠ k → g d = f d) (h0 : g k = 0) : sumTo g n = sumTo f n - f k := by
  induction n with
  | zero => omega
  | succ n ih =>
    rw [sumTo, sumTo]
    by_cases e : k = n
    · subst e
      rw [h0, sumTo_congr (f := g) (g := f) fun d hd => h d (by omega)]
      generalize sumTo f k = a
      generalize f k = b
      grind
    · rw [ih (by omega), h n (by omega)]
      generalize sumTo f n = a
      generalize f n = b
      generalize f k = c
      grind

/-- The difference of two fractions as they are read, reduced. -/
def subR (p q : Nat × Nat) : Nat × Nat :=
  (rN (dN p.1 p.2 * dD q.2 - dN q.1 q.2 * dD p.2) (dD p.2 * dD q.2), rD (dN p.1 p.2 * dD q.2 - dN q.1 q.2 * dD p.2) (dD p.2 * dD q.2))
theorem can_sub (p q : Nat × Nat) : Can (subR p q) := can_r (Nat.mul_pos (dD_pos _) (dD_pos _))
theorem tQ_sub {p q : Nat × Nat} (h : tQ q ≤ tQ p) : tQ (subR p q) = tQ p - tQ q := by
  have hle := (cmp_iff q p).2 h
  unfold subR
  rw [tQ_r (Nat.mul_pos (dD_pos _) (dD_pos _))]
  unfold tQ
  have h1 := dDne p.2
  have h2 := dDne q.2
  obtain ⟨s, hs⟩ : ∃ s, dN p.1 p.2 * dD q.2 - dN q.1 q.2 * dD p.2 = s := ⟨_, rfl⟩
  have e : dN p.1 p.2 * dD q.2 = s + dN q.1 q.2 * dD p.2 := by omega
  rw [hs]
  have e2 : ((dN p.1 p.2 * dD q.2 : Nat) : Rat) = ((s + dN q.1 q.2 * dD p.2 : Nat) : Rat) := by rw [e]
  rw [Rat.natCast_add, Rat.natCast_mul, Rat.natCast_mul] at e2
  rw [Rat.natCast_mul]
  generalize ((dN p.1 p.2 : Nat) : Rat) = a at *
  generalize ((dD p.2 : Nat) : Rat) = b at *
  generalize ((dN q.1 q.2 : Nat) : Rat) = x at *
  generalize ((dD q.2 : Nat) : Rat) = y at *
  generalize ((s : Nat) : Rat) = z at *
  grind
theorem sz_sub (p q : Nat × Nat) : sz (subR p q) ≤ sz p + sz q := by
  have h1 := ln_dN p; have h2 := ln_dD p; have h3 := ln_dN q; have h4 := ln_dD q; have h5 := sz_pos p
  refine sz_of (by omega) ?_ ?_
  · have a := ln_mul (dN p.1 p.2) (dD q.2)
    have b := ln_mono (Nat.sub_le (dN p.1 p.2 * dD q.2) (dN q.1 q.2 * dD p.2))
    omega
  · have a := ln_mul (dD p.2) (dD q.2)
    omega

/-- The validator 16 has delegators below n; their stakes are short, never told of. -/
structure OwI (n H O : Nat) (M : Stakes) : Prop where
  some_ : ∀ d, d < n → ∃ s, M 16 d = some s ∧ s.p = 0 ∧ s.k = 0 ∧ sz s.h ≤ H ∧ sz s.o ≤ O
  none_ : ∀ d, n ≤ d → M 16 d = none
theorem OwI.below {n H O : Nat} {M : Stakes} (h : OwI n H O M) : Below_ M 16 n := fun d => by
  by_cases e : d < n
  · obtain ⟨s, hs, -⟩ := h.some_ d e
    rw [hs]; simp [e]
  · rw [h.none_ d (by omega)]; simp [e]
theorem OwI.ok {n H O : Nat} {M : Stakes} (h : OwI n H O M) (d : Nat) (s : Stk) (hs : M 16 d = some s) : OkB H O s := by
  by_cases e : d < n
  · obtain ⟨s', hs', -, -, h1, h2⟩ := h.some_ d e
    rw [hs] at hs'
    cases hs'
    exact ⟨h1, h2⟩
  · rw [h.none_ d (by omega)] at hs; cases hs
theorem OwI.give {n H O Q : Nat} {M : Stakes} (h : OwI n H O M) (q : Nat × Nat) (hq : sz q ≤ Q) : OwI n H (O + H + Q + 1) (allM M 16 (fGive q)) := by
  refine ⟨fun d hd => ?_, fun d hd => ?_⟩
  · obtain ⟨s, hs, h1, h2, h3, h4⟩ := h.some_ d hd
    refine ⟨fGive q s, ?_, h1, h2, h3, ?_⟩
    · unfold allM; rw [if_pos rfl, hs]; rfl
    · have a := sz_mul s.h q
      have b := sz_add s.o (mulR s.h q)
      show sz (addR s.o (mulR s.h q)) ≤ _
      omega
  · unfold allM; rw [if_pos rfl, h.none_ d hd]; rfl
theorem sz_hold {X S n a b : Nat} (hX : ln X ≤ a) (hS : ln S ≤ b) (hn : n < B64) : sz (holdQ X S n) ≤ a + b + 5 := by
  have h1 := sz_dec X; have h2 := sz_dec S; have h3 := sz_whole n hn
  have h4 := sz_mul (decQ X) (n, 1)
  have h5 := sz_quo (mulR (decQ X) (n, 1)) (decQ S)
  unfold holdQ
  omega
theorem sz_nil : sz (0, 0) = 1 := by unfold sz; simp only [ln_zero]; omega
theorem heldM_owi {xs : List (List Nat)} {S t a b : Nat} (hx : ∀ x ∈ xs, ln (val x) ≤ a) (hS : ln S ≤ b) (ht : t < B64) : OwI xs.length (a + b + 5) 1 (heldM xs S t) := by
  refine ⟨fun d hd => ⟨heldS (val (xs.getD d [])) S t, ?_, rfl, rfl, ?_, ?_⟩, fun d hd => ?_⟩
  · unfold heldM putM heldK
    rw [if_neg (fun h => absurd h.1 (by decide)), if_pos ⟨rfl, hd⟩]
  · refine sz_hold (hx _ ?_) hS ht
    rw [List.getD_eq_getElem?_getD, List.getElem?_eq_getElem hd]
    exact List.getElem_mem hd
  · show sz (0, 0) ≤ 1
    rw [sz_nil]
    omega
  · unfold heldM putM heldK
    rw [if_neg (fun h => absurd h.1 (by decide)), if_neg (fun h => absurd h.2 (by omega))]

theorem settle_some {M : Stakes} {v d : Nat} {s : Stk} (h : M v d = some s) : settleM M v d = putM (allM M v fSettle) v d ⟨s.h, (0, 0), 0, 0⟩ := by unfold settleM; rw [h]
/-- Settled: one stake has nothing owed any more; the rest are as they were, but for the periods. -/
theorem OwI.settle {n H O k : Nat} {M : Stakes} (h : OwI n H O M) (hk : k < n) :
    settleP M 16 k = 1 ∧ (got M 16 k).k = 0 ∧ sz (got M 16 k).o ≤ O ∧
    settleP (settleM M 16 k) 16 k = 1 ∧ (got (settleM M 16 k) 16 k).k = 0 ∧ (got (settleM M 16 k) 16 k).o = (0, 0) ∧
    Below_ (settleM (settleM M 16 k) 16 k) 16 n ∧
    (∀ d, (got (settleM (settleM M 16 k) 16 k) 16 d).h = (got M 16 d).h) ∧
    (∀ d, d ≠ k → (got (settleM (settleM M 16 k) 16 k) 16 d).o = (got M 16 d).o) ∧
    (got (settleM (settleM M 16 k) 16 k) 16 k).o = (0, 0) ∧
    (∀ d s, settleM (settleM M 16 k) 16 k 16 d = some s → OkB H (O + 1) s) ∧ (∀ d s, settleM M 16 k 16 d = some s → OkB H (O + 1) s) := by
  obtain ⟨s, hs, h1, h2, h3, h4⟩ := h.some_ k hk
  have e1 : settleM M 16 k = putM (allM M 16 fSettle) 16 k ⟨s.h, (0, 0), 0, 0⟩ := settle_some hs
  have a1 : settleM M 16 k 16 k = some ⟨s.h, (0, 0), 0, 0⟩ := by rw [e1]; unfold putM; rw [if_pos ⟨rfl, rfl⟩]
  have b1 : ∀ d, d ≠ k → settleM M 16 k 16 d = (M 16 d).map fSettle := fun d hd => by
    rw [e1]; unfold putM; rw [if_neg (fun q => hd q.2)]; unfold allM; rw [if_pos rfl]
  have e2 : settleM (settleM M 16 k) 16 k = putM (allM (settleM M 16 k) 16 fSettle) 16 k ⟨s.h, (0, 0), 0, 0⟩ := settle_some (s := ⟨s.h, (0, 0), 0, 0⟩) a1
  have a2 : settleM (settleM M 16 k) 16 k 16 k = some ⟨s.h, (0, 0), 0, 0⟩ := by rw [e2]; unfold putM; rw [if_pos ⟨rfl, rfl⟩]
  have b2 : ∀ d, d ≠ k → settleM (settleM M 16 k) 16 k 16 d = ((M 16 d).map fSettle).map fSettle := fun d hd => by
    rw [e2]; unfold putM; rw [if_neg (fun q => hd q.2)]; unfold allM; rw [if_pos rfl, b1 d hd]
  refine ⟨?_, ?_, ?_, ?_, ?_, ?_, ?_, ?_, ?_, ?_, ?_, ?_⟩
  · unfold settleP; rw [hs]; simp only; rw [h1]; decide +kernel
  · unfold got; rw [hs]; exact h2
  · unfold got; rw [hs]; exact h4
  · unfold settleP; rw [a1]; simp only; decide +kernel
  · unfold got; rw [a1]; rfl
  · unfold got; rw [a1]; rfl
  · intro d
    by_cases e : d = k
    · subst e; rw [a2]; simp [hk]
    · rw [b2 d e]
      have := h.below d
      cases hm : M 16 d with
      | none => rw [hm] at this; simpa using this
      | some s' => rw [hm] at this; simpa using this
  · intro d
    by_cases e : d = k
    · subst e; unfold got; rw [a2, hs]; rfl
    · unfold got; rw [b2 d e]
      cases M 16 d <;> rfl
  · intro d e
    unfold got; rw [b2 d e]
    cases M 16 d <;> rfl
  · unfold got; rw [a2]; rfl
  · intro d s' hs'
    by_cases e : d = k
    · subst e; rw [a2] at hs'; cases hs'; exact ⟨h3, by show sz (0, 0) ≤ _; rw [sz_nil]; omega⟩
    · rw [b2 d e] at hs'
      cases hm : M 16 d with
      | none => rw [hm] at hs'; cases hs'
      | some s2 =>
        rw [hm] at hs'
        cases hs'
        have := h.ok d s2 hm
        exact ⟨this.1, Nat.le_succ_of_le this.2⟩
  · intro d s' hs'
    by_cases e : d = k
    · subst e; rw [a1] at hs'; cases hs'; exact ⟨h3, by show sz (0, 0) ≤ _; rw [sz_nil]; omega⟩
    · rw [b1 d e] at hs'
      cases hm : M 16 d with
      | none => rw [hm] at hs'; cases hs'
      | some s2 =>
        rw [hm] at hs'
        cases hs'
        have := h.ok d s2 hm
        exact ⟨this.1, Nat.le_succ_of_le this.2⟩
/-- What is owed in all; what is held in all. -/
def owesR (M : Stakes) (v n : Nat) : Nat × Nat := foldR (fun d => (got M v d).o) n
def stakesR (M : Stakes) (v n : Nat) : Nat × Nat := foldR (fun d => (got M v d).h) n
theorem owes_is {M : Stakes} {v n : Nat} {ds : List Nat} (h : Dels M v ds) (hb : Below_ M v n) (hn : n ≤ B64) : ds.foldl (fun a d => uOwes a (got M v d)) (0, 1) = owesR M v n := by
  rw [dels_range h hb hn]; rfl
theorem stakes_is {M : Stakes} {v n : Nat} {ds : List Nat} (h : Dels M v ds) (hb : Below_ M v n) (hn : n ≤ B64) : ds.foldl (fun a d => uStakes a (got M v d)) (0, 1) = stakesR M v n := by
  rw [dels_range h hb hn]; rfl
/-- What is owed falls by what settling tells. -/
theorem owes_falls {M M' : Stakes} {n k : Nat} (hk : k < n) (ho : ∀ d, d ≠ k → (got M' 16 d).o = (got M 16 d).o) (h0 : (got M' 16 k).o = (0, 0)) :
    tQ (canQ (got M 16 k).o) ≤ tQ (owesR M 16 n) ∧ owesR M' 16 n = subR (owesR M 16 n) (canQ (got M 16 k).o) := by
  have e : sumTo (fun d => tQ (got M' 16 d).o) n = sumTo (fun d => tQ (got M 16 d).o) n - tQ (got M 16 k).o :=
    sumTo_less hk (fun d hd => by rw [ho d hd]) (by rw [h0, tQ_nil])
  have hn := sumTo_nonneg (f := fun d => tQ (got M' 16 d).o) (fun d => tQ_nonneg _) n
  have hle : tQ (canQ (got M 16 k).o) ≤ tQ (owesR M 16 n) := by
    rw [tQ_can]
    unfold owesR
    rw [tQ_fold]
    rw [e] at hn
    generalize sumTo (fun d => tQ (got M 16 d).o) n = a at *
    generalize tQ (got M 16 k).o = b at *
    grind
  refine ⟨hle, Can.eq (can_fold _ _) (can_sub _ _) ?_⟩
  rw [tQ_sub hle, tQ_can]
  unfold owesR
  rw [tQ_fold, tQ_fold, e]
theorem stakes_stay {M M' : Stakes} {n : Nat} (h : ∀ d, (got M' 16 d).h = (got M 16 d).h) : stakesR M' 16 n = stakesR M 16 n := by
  unfold stakesR
  rw [show (fun d => (got M' 16 d).h) = fun d => (got M 16 d).h from funext h]
theorem OwI.mono {n H O O' : Nat} {M : Stakes} (h : OwI n H O M) (hO : O ≤ O') : OwI n H O' M :=
  ⟨fun d hd => by obtain ⟨s, h1, h2, h3, h4, h5⟩ := h.some_ d hd; exact ⟨s, h1, h2, h3, h4, Nat.le_trans h5 hO⟩, h.none_⟩
theorem lowes_as {w : World} {b N H : Nat} {M : Stakes} (h : Led w b N M) (hN : N ≤ 1000000) {p : Nat} (hp : w.cell? ⟨p, 0, none⟩ = some (.map (some b))) {v : Nat} (hv : v < B64) (htz : TzTab w) (hH : H ≤ 10000) (hNH : N * (H + 1) ≤ 90000) (hok : ∀ d s, M v d = some s → sz s.o ≤ H)
    {q : Nat × Nat} (hq : ∀ ds, Dels M v ds → ds.foldl (fun a d => uOwes a (got M v d)) (0, 1) = q) : Calls Tryz.prog 29 #[.pointer (some ⟨p, 0, none⟩), .int .u64 (v : Int)] w (MQ w b N M q) :=
  (lowes_calls h hN hp hv htz hH hNH hok).mono fun _ _ ⟨ds, hd, r⟩ => by rw [hq ds hd] at r; exact r
theorem lstakes_as {w : World} {b N H : Nat} {M : Stakes} (h : Led w b N M) (hN : N ≤ 1000000) {p : Nat} (hp : w.cell? ⟨p, 0, none⟩ = some (.map (some b))) {v : Nat} (hv : v < B64) (htz : TzTab w) (hH : H ≤ 10000) (hNH : N * (H + 1) ≤ 90000) (hok : ∀ d s, M v d = some s → sz s.h ≤ H)
    {q : Nat × Nat} (hq : ∀ ds, Dels M v ds → ds.foldl (fun a d => uStakes a (got M v d)) (0, 1) = q) : Calls Tryz.prog 27 #[.pointer (some ⟨p, 0, none⟩), .int .u64 (v : Int)] w (MQ w b N M q) :=
  (lstakes_calls h hN hp hv htz hH hNH hok).mono fun _ _ ⟨ds, hd, r⟩ => by rw [hq ds hd] at r; exact r
theorem lsettle_as {w : World} {b N : Nat} {M : Stakes} (h : Led w b N M) (hN : N ≤ 1000000) {p : Nat} (hp : w.cell? ⟨p, 0, none⟩ = some (.map (some b))) {v d : Nat} (hv : v < B64) (hd : d < B64) (hsz : sz (got M v d).o ≤ 90000) (htz : TzTab w)
    {M1 : Stakes} {q : Nat × Nat} {pp kk : Int} (e1 : settleM M v d = M1) (e2 : canQ (got M v d).o = q) (e3 : settleP M v d = pp) (e4 : (got M v d).k = kk) :
    Calls Tryz.prog 14 #[.pointer (some ⟨p, 0, none⟩), .int .u64 (v : Int), .int .u64 (d : Int)] w (MS w b N M1 q pp kk) := by
  rw [← e1, ← e2, ← e3, ← e4]
  exact lsettle_calls h hN hp hv hd hsz htz
theorem rsub_q {a1 b1 a2 b2 : Option Addr} {m1 n1 c1 d1 m2 n2 c2 d2 : Nat} {p q r : Nat × Nat} {w : World} (h1 : RA w a1 m1 c1 b1 n1 d1 p) (h2 : RA w a2 m2 c2 b2 n2 d2 q) (hp : sz p ≤ 100000) (hq : sz q ≤ 100000) (htz : TzTab w) (hle : tQ q ≤ tQ p) (hr : subR p q = r) :
    Calls Tryz.prog 47 #[RatV a1 m1 c1 b1 n1 d1, RatV a2 m2 c2 b2 n2 d2] w (NewRE w (m1 + n2 + 8) (n1 + n2 + 4) (lim r.1) (lim r.2) 0) := by
  have l1 := h1.len; have l2 := h2.len
  have := rsub_ok h1.nu h1.de h2.nu h2.de (by omega) (by omega) (by omega) (by omega) htz (by rw [val_lim, val_lim, val_lim, val_lim]; exact (cmp_iff q p).2 hle)
  rw [val_lim, val_lim, val_lim, val_lim] at this
  rw [← hr]
  exact this
theorem rzero_q {a1 b1 : Option Addr} {m1 n1 c1 d1 : Nat} {w : World} (h1 : RA w a1 m1 c1 b1 n1 d1 (0, 1)) : Calls Tryz.prog 39 #[RatV a1 m1 c1 b1 n1 d1] w (RetE (.bool true) w) := by
  have l1 := h1.len
  have h0 : sz (0, 1) = 1 := sz_one
  have := rzero_calls h1.nu h1.de (by omega) (by omega)
  rw [val_lim, val_lim, show decide (dN ((0, 1) : Nat × Nat).1 ((0, 1) : Nat × Nat).2 = 0) = true by decide] at this
  exact this
/-- All that LedgerOwes asks about settling. -/
structure OwAll (M M1 M2 : Stakes) (r : Nat) (qO qS qe qL : Nat × Nat) : Prop where
  m1 : settleM M 16 r = M1
  m2 : settleM M1 16 r = M2
  o1 : ∀ ds, Dels M 16 ds → ds.foldl (fun a d => uOwes a (got M 16 d)) (0, 1) = qO
  s1 : ∀ ds, Dels M 16 ds → ds.foldl (fun a d => uStakes a (got M 16 d)) (0, 1) = qS
  e1 : canQ (got M 16 r).o = qe
  p1 : settleP M 16 r = 1
  k1 : (got M 16 r).k = 0
  z1 : sz (got M 16 r).o ≤ 90000
  p2 : settleP M1 16 r = 1
  k2 : (got M1 16 r).k = 0
  e2 : canQ (got M1 16 r).o = (0, 1)
  z2 : sz (got M1 16 r).o ≤ 90000
  le : tQ qe ≤ tQ qO
  l : subR qO qe = qL
  o2 : ∀ ds, Dels M2 16 ds → ds.foldl (fun a d => uOwes a (got M2 16 d)) (0, 1) = qL
  s2 : ∀ ds, Dels M2 16 ds → ds.foldl (fun a d => uStakes a (got M2 16 d)) (0, 1) = qS
  ok0 : ∀ d s, M 16 d = some s → OkB 500 500 s
  ok2 : ∀ d s, M2 16 d = some s → OkB 500 500 s
  y1 : sz qO ≤ 90000
  y2 : sz qS ≤ 90000
  y3 : sz qe ≤ 90000
  y4 : sz qL ≤ 100000
theorem OkB.mono {H O H' O' : Nat} {s : Stk} (h : OkB H O s) (h1 : H ≤ H') (h2 : O ≤ O') : OkB H' O' s := ⟨Nat.le_trans h.1 h1, Nat.le_trans h.2 h2⟩
theorem ow_all {n H O r : Nat} {M : Stakes} (h : OwI n H O M) (hH : H ≤ 400) (hO : O ≤ 400) (hr : r < n) (hn : n ≤ 12) : ∃ M1 M2 qO qS qe qL, OwAll M M1 M2 r qO qS qe qL := by
  obtain ⟨a1, a2, a3, a4, a5, a6, a7, a8, a9, a10, a11, a12⟩ := h.settle hr
  have hnb : n ≤ B64 := by have := B64_eq; omega
  obtain ⟨b1, b2⟩ := owes_falls hr a9 a10
  have hz : ∀ d, sz (got M 16 d).o ≤ 400 ∧ sz (got M 16 d).h ≤ 400 := fun d => by
    unfold got
    cases hm : M 16 d with
    | none => exact ⟨by show sz (0, 0) ≤ _; rw [sz_nil]; omega, by show sz (0, 0) ≤ _; rw [sz_nil]; omega⟩
    | some s => have := h.ok d s hm; exact ⟨Nat.le_trans this.2 hO, Nat.le_trans this.1 hH⟩
  have y1 : sz (owesR M 16 n) ≤ 5000 := by
    have := sz_fold (fun d => (got M 16 d).o) n 400 fun d _ => (hz d).1
    have h2 : n * 401 ≤ 12 * 401 := Nat.mul_le_mul_right _ hn
    unfold owesR
    omega
  have y2 : sz (stakesR M 16 n) ≤ 5000 := by
    have := sz_fold (fun d => (got M 16 d).h) n 400 fun d _ => (hz d).2
    have h2 : n * 401 ≤ 12 * 401 := Nat.mul_le_mul_right _ hn
    unfold stakesR
    omega
  have y3 : sz (canQ (got M 16 r).o) ≤ 500 := by
    have := sz_add (0, 1) (got M 16 r).o
    have h1 : sz (0, 1) = 1 := sz_one
    have h2 := (hz r).1
    unfold canQ
    omega
  have y4 := sz_sub (owesR M 16 n) (canQ (got M 16 r).o)
  exact ⟨_, _, owesR M 16 n, stakesR M 16 n, _, _, rfl, rfl, fun ds hd => owes_is hd h.below hnb, fun ds hd => stakes_is hd h.below hnb, rfl, a1, a2, by omega, a4, a5, by rw [a6]; exact canQ_nil, by rw [a6, sz_nil]; omega,
    b1, rfl, fun ds hd => by rw [owes_is hd a7 hnb]; exact b2, fun ds hd => by rw [stakes_is hd a7 hnb]; exact stakes_stay a8, fun d s hs => (h.ok d s hs).mono (by omega) (by omega), fun d s hs => (a11 d s hs).mono (by omega) (by omega), by omega, by omega, by omega, by omega⟩
/-- Loops that look at lengths, one after another. -/
def PreRel (W : World) (n t : Nat) (vs : List (Option Addr × Nat × Nat)) (iv : Value) (wr : World) : Prop :=
  ∃ k : Nat, k ≤ n ∧ iv = .int .i64 (k : Int) ∧ (∀ i v, i < k → vs[i]? = some v → v.2.1 ≤ t) ∧ wr = W
theorem decs_ln {w : World} {a : Option Addr} {n c t : Nat} {vs : List (Option Addr × Nat × Nat)} {xs : List (List Nat)} (h : Decs w a n c vs xs) (ht : ∀ i v, i < n → vs[i]? = some v → v.2.1 ≤ t) (x : List Nat) (hx : x ∈ xs) : ln (val x) ≤ t := by
  obtain ⟨i, hi⟩ := List.mem_iff_getElem?.1 hx
  have hin : i < n := by
    have := (List.getElem?_eq_some_iff.1 hi).1
    rw [h.len] at this; exact this
  obtain ⟨v, hv⟩ : ∃ v, vs[i]? = some v := ⟨_, List.getElem?_eq_getElem (by rw [h.sl.len]; exact hin)⟩
  exact Nat.le_trans (ln_val (h.at_ i v x hv hi)) (ht i v hin hv)
theorem sz_share {X t a : Nat} (hX : ln X ≤ a) (ht : t < B64) : sz (quoR (decQ X) (t, 1)) ≤ a + 3 := by
  have h1 := sz_dec X; have h3 := sz_whole t ht
  have h5 := sz_quo (decQ X) (t, 1)
  omega

end Go.Proofs.YtimcnhlcepemjaaGreatDoor
