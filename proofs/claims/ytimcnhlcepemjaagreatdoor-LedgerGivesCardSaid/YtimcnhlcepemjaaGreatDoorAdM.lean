/- To give, and to cut: one after another, and at once. -/
import Derived.Test.YtimcnhlcepemjaaGreatDoorOwM
namespace Go.Proofs.YtimcnhlcepemjaaGreatDoor
open Go.RowKit

/-- The validator 16 has delegators below n; their stakes are short. -/
structure OkI (n H O : Nat) (M : Stakes) : Prop where
  some_ : ∀ d, d < n → ∃ s, M 16 d = some s ∧ OkB H O s
  none_ : ∀ d, n ≤ d → M 16 d = none
theorem OwI.okI {n H O : Nat} {M : Stakes} (h : OwI n H O M) : OkI n H O M :=
  ⟨fun d hd => by obtain ⟨s, h1, h2, h3, h4, h5⟩ := h.some_ d hd; exact ⟨s, h1, h4, h5⟩, h.none_⟩
theorem OkI.ok {n H O : Nat} {M : Stakes} (h : OkI n H O M) (d : Nat) (s : Stk) (hs : M 16 d = some s) : OkB H O s := by
  by_cases e : d < n
  · obtain ⟨s', hs', h1⟩ := h.some_ d e
    rw [hs] at hs'
    cases hs'
    exact h1
  · rw [h.none_ d (by omega)] at hs; cases hs
theorem OkI.below {n H O : Nat} {M : Stakes} (h : OkI n H O M) : Below_ M 16 n := fun d => by
  by_cases e : d < n
  · obtain ⟨s, hs, -⟩ := h.some_ d e
    rw [hs]; simp [e]
  · rw [h.none_ d (by omega)]; simp [e]
theorem OkI.mono {n H O H' O' : Nat} {M : Stakes} (h : OkI n H O M) (h1 : H ≤ H') (h2 : O ≤ O') : OkI n H' O' M :=
  ⟨fun d hd => by obtain ⟨s, a, b⟩ := h.some_ d hd; exact ⟨s, a, b.mono h1 h2⟩, h.none_⟩
theorem OkI.give {n H O Q : Nat} {M : Stakes} (h : OkI n H O M) (q : Nat × Nat) (hq : sz q ≤ Q) : OkI n H (O + H + Q + 1) (allM M 16 (fGive q)) := by
  refine ⟨fun d hd => ?_, fun d hd => ?_⟩
  · obtain ⟨s, hs, h3, h4⟩ := h.some_ d hd
    refine ⟨fGive q s, ?_, h3, ?_⟩
    · unfold allM; rw [if_pos rfl, hs]; rfl
    · have a := sz_mul s.h q
      have b := sz_add s.o (mulR s.h q)
      show sz (addR s.o (mulR s.h q)) ≤ _
      omega
  · unfold allM; rw [if_pos rfl, h.none_ d hd]; rfl
theorem OkI.cut {n H O Q : Nat} {M : Stakes} (h : OkI n H O M) (q : Nat × Nat) (hq : sz q ≤ Q) : OkI n (H + Q) O (allM M 16 (fCut q)) := by
  refine ⟨fun d hd => ?_, fun d hd => ?_⟩
  · obtain ⟨s, hs, h3, h4⟩ := h.some_ d hd
    refine ⟨fCut q s, ?_, ?_, h4⟩
    · unfold allM; rw [if_pos rfl, hs]; rfl
    · have a := sz_mul s.h q
      show sz (mulR s.h q) ≤ _
      omega
  · unfold allM; rw [if_pos rfl, h.none_ d hd]; rfl
theorem sz_part {t u : Nat} (ht : t < B64) (hu : u < B64) : sz (quoR (u, 1) (t, 1)) ≤ 2 := by
  have h1 := sz_whole u hu; have h3 := sz_whole t ht
  have h5 := sz_quo (u, 1) (t, 1)
  omega
theorem allM_16 {M : Stakes} {f : Stk → Stk} {d : Nat} : allM M 16 f 16 d = (M 16 d).map f := by unfold allM; rw [if_pos rfl]
theorem allM_17 {M : Stakes} {f : Stk → Stk} {d : Nat} : allM M 16 f 17 d = M 17 d := by unfold allM; rw [if_neg (by decide)]
theorem tQ_whole (n : Nat) : tQ (n, 1) = (n : Rat) := by
  rw [tQ_pos (by decide)]
  grind
theorem tQ_dec (X : Nat) : tQ (decQ X) = (X : Rat) / (U36 : Rat) := tQ_r (by decide)
theorem U36ne : ((U36 : Nat) : Rat) ≠ 0 := castne (by decide)
theorem tQ_decadd (X Y : Nat) : tQ (decQ (X + Y)) = tQ (decQ X) + tQ (decQ Y) := by
  rw [tQ_dec, tQ_dec, tQ_dec, Rat.natCast_add]
  have := U36ne
  generalize ((U36 : Nat) : Rat) = u at *
  generalize ((X : Nat) : Rat) = x at *
  generalize ((Y : Nat) : Rat) = y at *
  grind
def MlA (M : Stakes) (A B t mid after : Nat) : Stakes :=
  allM (allM (allM (allM M 16 (fGive (quoR (decQ A) (t, 1)))) 16 (fGive (quoR (decQ B) (t, 1)))) 16 (fCut (quoR (mid, 1) (t, 1)))) 16 (fCut (quoR (after, 1) (mid, 1)))
def MmA (M : Stakes) (A B t after : Nat) : Stakes :=
  allM (allM M 16 (fGive (quoR (decQ (A + B)) (t, 1)))) 16 (fCut (quoR (after, 1) (t, 1)))
theorem ad_same {M : Stakes} {A B t mid after : Nat} (hm : mid ≠ 0) (d : Nat) (s : Stk) (hs : M 16 d = some s) :
    ∃ s1 s2, MlA M A B t mid after 16 d = some s1 ∧ MmA M A B t after 16 d = some s2 ∧ tQ s1.o = tQ s2.o ∧ tQ s1.h = tQ s2.h := by
  refine ⟨_, _, by unfold MlA; rw [allM_16, allM_16, allM_16, allM_16, hs]; rfl, by unfold MmA; rw [allM_16, allM_16, hs]; rfl, ?_, ?_⟩
  · show tQ (addR (addR s.o (mulR s.h (quoR (decQ A) (t, 1)))) (mulR s.h (quoR (decQ B) (t, 1)))) = tQ (addR s.o (mulR s.h (quoR (decQ (A + B)) (t, 1))))
    rw [tQ_add, tQ_add, tQ_add, tQ_mul, tQ_mul, tQ_mul, tQ_quo, tQ_quo, tQ_quo, tQ_decadd]
    generalize tQ s.o = o
    generalize tQ s.h = h
    generalize tQ (decQ A) = a
    generalize tQ (decQ B) = b
    generalize tQ (t, 1) = t
    rw [Rat.div_def, Rat.div_def, Rat.div_def]
    generalize t⁻¹ = i
    grind
  · show tQ (mulR (mulR s.h (quoR (mid, 1) (t, 1))) (quoR (after, 1) (mid, 1))) = tQ (mulR s.h (quoR (after, 1) (t, 1)))
    rw [tQ_mul, tQ_mul, tQ_mul, tQ_quo, tQ_quo, tQ_quo]
    have hm2 : tQ (mid, 1) ≠ 0 := by rw [tQ_whole]; exact castne (by omega)
    generalize tQ s.h = h
    generalize tQ (mid, 1) = m at *
    generalize tQ (after, 1) = a
    generalize tQ (t, 1) = t
    rw [Rat.div_def m t, Rat.div_def a t]
    generalize t⁻¹ = i
    grind
theorem sumTo_can {f g : Nat → Nat × Nat} {n : Nat} (h : ∀ d, d < n → tQ (f d) = tQ (g d)) : foldR f n = foldR g n :=
  Can.eq (can_fold _ _) (can_fold _ _) (by rw [tQ_fold, tQ_fold]; exact sumTo_congr h)
theorem one17 : holdQ U36 U36 1 = (1, 1) := by decide +kernel
theorem heldM_17 (xs : List (List Nat)) (S t d : Nat) : heldM xs S t 17 d = if d = 0 then some ⟨(1, 1), (0, 0), 0, 0⟩ else none := by
  unfold heldM putM heldS
  rw [one17]
  by_cases e : d = 0
  · rw [if_pos ⟨rfl, e⟩, if_pos e]
  · rw [if_neg (fun q => e q.2), if_neg e]
    unfold heldK
    rw [if_neg (fun q => absurd q.1 (by decide))]
/-- A validator with one stake of one token, of which nothing is owed. -/
def One17 (M : Stakes) (p k : Int) : Prop := ∀ d, M 17 d = if d = 0 then some ⟨(1, 1), (0, 0), p, k⟩ else none
theorem One17.all {M : Stakes} {p k : Int} (h : One17 M p k) (f : Stk → Stk) : One17 (allM M 16 f) p k := fun d => by rw [allM_17]; exact h d
theorem One17.below {M : Stakes} {p k : Int} (h : One17 M p k) : Below_ M 17 1 := fun d => by
  rw [h d]
  by_cases e : d = 0
  · simp [e]
  · simp [e]
theorem One17.stakes {M : Stakes} {p k : Int} (h : One17 M p k) (ds : List Nat) (hd : Dels M 17 ds) : ds.foldl (fun a d => uStakes a (got M 17 d)) (0, 1) = (1, 1) := by
  rw [stakes_is hd h.below (by decide)]
  unfold stakesR
  rw [foldR_succ, foldR_zero]
  unfold got
  rw [h 0, if_pos rfl]
  show addR (0, 1) (1, 1) = (1, 1)
  decide +kernel
theorem One17.owes {M : Stakes} {p k : Int} (h : One17 M p k) (ds : List Nat) (hd : Dels M 17 ds) : ds.foldl (fun a d => uOwes a (got M 17 d)) (0, 1) = (0, 1) := by
  rw [owes_is hd h.below (by decide)]
  unfold owesR
  rw [foldR_succ, foldR_zero]
  unfold got
  rw [h 0, if_pos rfl]
  show addR (0, 1) (0, 0) = (0, 1)
  decide +kernel
theorem sz11 : sz (1, 1) ≤ 500 := Nat.le_trans (sz_le (q := (1, 1)) (t := 2) (by decide) (by decide +kernel) (by decide +kernel)) (by decide)
theorem One17.ok {M : Stakes} {p k : Int} (h : One17 M p k) (d : Nat) (s : Stk) (hs : M 17 d = some s) : OkB 500 500 s := by
  rw [h d] at hs
  by_cases e : d = 0
  · rw [if_pos e] at hs; cases hs; exact ⟨sz11, by show sz (0, 0) ≤ 500; rw [sz_nil]; decide⟩
  · rw [if_neg e] at hs; cases hs
theorem One17.settle {M : Stakes} (h : One17 M 0 0) : ∃ M3, settleM M 17 0 = M3 ∧ One17 M3 0 0 ∧ (∀ d, M3 16 d = M 16 d) ∧ canQ (got M 17 0).o = (0, 1) ∧ settleP M 17 0 = 1 ∧ (got M 17 0).k = 0 ∧ sz (got M 17 0).o ≤ 90000 := by
  have h0 := h 0
  rw [if_pos rfl] at h0
  refine ⟨_, settle_some h0, fun d => ?_, fun d => ?_, ?_, ?_, ?_, ?_⟩
  · unfold putM allM
    by_cases e : d = 0
    · rw [if_pos ⟨rfl, e⟩, if_pos e]
    · rw [if_neg (fun q => e q.2), if_pos rfl, h d, if_neg e]; rfl
  · unfold putM allM
    rw [if_neg (fun q => absurd q.1 (by decide)), if_neg (by decide)]
  · unfold got; rw [h0]; exact canQ_nil
  · unfold settleP; rw [h0]; simp only; decide +kernel
  · unfold got; rw [h0]; rfl
  · unfold got; rw [h0]; show sz (0, 0) ≤ _; rw [sz_nil]; decide
theorem Dels.congr {M M' : Stakes} {v : Nat} {ds : List Nat} (h : Dels M v ds) (e : ∀ d, M v d = M' v d) : Dels M' v ds :=
  ⟨h.1, fun d => by rw [← e d]; exact h.2 d⟩
/-- All that LedgerAdds asks. -/
structure AdAll (n : Nat) (Ml Mm M3 : Stakes) (qO : Nat × Nat) : Prop where
  okl : ∀ d s, Ml 16 d = some s → OkB 500 500 s
  okm : ∀ d s, Mm 16 d = some s → OkB 500 500 s
  ok3 : ∀ d s, M3 16 d = some s → OkB 500 500 s
  szl : ∀ d, sz (got Ml 16 d).o ≤ 500 ∧ sz (got Ml 16 d).h ≤ 500
  szm : ∀ d, sz (got Mm 16 d).o ≤ 500 ∧ sz (got Mm 16 d).h ≤ 500
  owed : ∀ d, d < n → canQ (got Ml 16 d).o = canQ (got Mm 16 d).o
  stake : ∀ d, d < n → canQ (got Ml 16 d).h = canQ (got Mm 16 d).h
  ol : ∀ ds, Dels M3 16 ds → ds.foldl (fun a d => uOwes a (got M3 16 d)) (0, 1) = qO
  om : ∀ ds, Dels Mm 16 ds → ds.foldl (fun a d => uOwes a (got Mm 16 d)) (0, 1) = qO
  szo : sz qO ≤ 90000
  m3 : settleM Ml 17 0 = M3
  one3 : One17 M3 0 0
  e : canQ (got Ml 17 0).o = (0, 1)
  p : settleP Ml 17 0 = 1
  k : (got Ml 17 0).k = 0
  z : sz (got Ml 17 0).o ≤ 90000
theorem sz_can (q : Nat × Nat) : sz (canQ q) ≤ sz q + 2 := by
  have := sz_add (0, 1) q
  have h1 : sz (0, 1) = 1 := sz_one
  unfold canQ
  omega
theorem OkI.szg {n H O : Nat} {M : Stakes} (h : OkI n H O M) (hH : H ≤ 500) (hO : O ≤ 500) (d : Nat) : sz (got M 16 d).o ≤ 500 ∧ sz (got M 16 d).h ≤ 500 := by
  unfold got
  cases hm : M 16 d with
  | none => exact ⟨by show sz (0, 0) ≤ _; rw [sz_nil]; omega, by show sz (0, 0) ≤ _; rw [sz_nil]; omega⟩
  | some s => have := h.ok d s hm; exact ⟨Nat.le_trans this.2 hO, Nat.le_trans this.1 hH⟩
theorem ad_all {n A B t mid after : Nat} {M : Stakes} (h : OwI n 13 1 M) (h17 : One17 M 0 0) (hn : n ≤ 12) (hm : mid ≠ 0) (hl : OkI n 20 100 (MlA M A B t mid after)) (hr : OkI n 20 100 (MmA M A B t after)) :
    ∃ M3 qO, AdAll n (MlA M A B t mid after) (MmA M A B t after) M3 qO := by
  have h17l : One17 (MlA M A B t mid after) 0 0 := (((h17.all _).all _).all _).all _
  obtain ⟨M3, e1, e2, e3, e4, e5, e6, e7⟩ := h17l.settle
  have hnb : n ≤ B64 := by have := B64_eq; omega
  have same : ∀ d, d < n → tQ (got (MlA M A B t mid after) 16 d).o = tQ (got (MmA M A B t after) 16 d).o ∧ tQ (got (MlA M A B t mid after) 16 d).h = tQ (got (MmA M A B t after) 16 d).h := fun d hd => by
    obtain ⟨s, hs, -⟩ := h.some_ d hd
    obtain ⟨s1, s2, a1, a2, a3, a4⟩ := ad_same (A := A) (B := B) (t := t) (after := after) hm d s hs
    unfold got
    rw [a1, a2]
    exact ⟨a3, a4⟩
  have hsz : sz (owesR (MmA M A B t after) 16 n) ≤ 90000 := by
    have := sz_fold (fun d => (got (MmA M A B t after) 16 d).o) n 500 fun d _ => (hr.szg (by decide) (by decide) d).1
    have h2 : n * 501 ≤ 12 * 501 := Nat.mul_le_mul_right _ hn
    unfold owesR
    omega
  have e3' : ∀ d, got M3 16 d = got (MlA M A B t mid after) 16 d := fun d => by unfold got; rw [e3 d]
  refine ⟨M3, owesR (MmA M A B t after) 16 n, fun d s hs => (hl.ok d s hs).mono (by decide) (by decide), fun d s hs => (hr.ok d s hs).mono (by decide) (by decide), fun d s hs => by rw [e3 d] at hs; exact (hl.ok d s hs).mono (by decide) (by decide),
    fun d => hl.szg (by decide) (by decide) d, fun d => hr.szg (by decide) (by decide) d, fun d hd => Can.eq (can_canQ _) (can_canQ _) (by rw [tQ_can, tQ_can]; exact (same d hd).1), fun d hd => Can.eq (can_canQ _) (can_canQ _) (by rw [tQ_can, tQ_can]; exact (same d hd).2),
    fun ds hd => ?_, fun ds hd => owes_is hd hr.below hnb, hsz, e1, e2, e4, e5, e6, e7⟩
  rw [show (fun a d => uOwes a (got M3 16 d)) = fun a d => uOwes a (got (MlA M A B t mid after) 16 d) from by funext a d; rw [e3' d]]
  rw [owes_is (hd.congr e3) hl.below hnb]
  exact sumTo_can fun d hd => (same d hd).1

end Go.Proofs.YtimcnhlcepemjaaGreatDoor
