/- Decimal digits read: plain. -/
import Derived.Test.YtifoflicflodcaaGreatDoorText0
import Derived.Lib.ParseIntB
import Derived.Lib.SlTrimSet
namespace Go.Proofs.YtifoflicflodcaaGreatDoor
open Go.RowKit Go.Lib

def isDig (c : UInt8) : Bool := decide (48 ≤ c.toNat) && decide (c.toNat ≤ 57)
theorem isDig_iff {c : UInt8} : isDig c = true ↔ 48 ≤ c.toNat ∧ c.toNat ≤ 57 := by simp [isDig]
/-- The number that digits spell. -/
def dnumA (acc : Nat) (l : List UInt8) : Nat := l.foldl (fun v c => v * 10 + (c.toNat - 48)) acc
theorem dnumA_cons (acc : Nat) (c : UInt8) (r : List UInt8) : dnumA acc (c :: r) = dnumA (acc * 10 + (c.toNat - 48)) r := by
  unfold dnumA; rw [List.foldl_cons]
theorem dnumA_nil (acc : Nat) : dnumA acc [] = acc := by unfold dnumA; rw [List.foldl_nil]
def dnum (l : List UInt8) : Nat := dnumA 0 l
theorem dnumA_eq (l : List UInt8) : ∀ acc, dnumA acc l = acc * 10 ^ l.length + dnum l := by
  induction l with
  | nil => intro acc; unfold dnum; rw [dnumA_nil, dnumA_nil]; simp
  | cons c r ih =>
    intro acc
    unfold dnum
    rw [dnumA_cons, dnumA_cons, ih, ih (0 * 10 + (c.toNat - 48)), List.length_cons, Nat.pow_succ, Nat.add_mul, Nat.zero_mul, Nat.zero_add, Nat.mul_assoc, Nat.mul_comm 10, Nat.add_assoc]
theorem dnum_append (a b : List UInt8) : dnum (a ++ b) = dnum a * 10 ^ b.length + dnum b := by
  rw [← dnumA_eq]
  unfold dnum
  generalize 0 = z
  induction a generalizing z with
  | nil => rw [List.nil_append, dnumA_nil]
  | cons c r ih => rw [List.cons_append, dnumA_cons, dnumA_cons]; exact ih _
theorem dnum_one (c : UInt8) : dnum [c] = c.toNat - 48 := by unfold dnum; rw [dnumA_cons, dnumA_nil, Nat.zero_mul, Nat.zero_add]
theorem dnum_nil : dnum [] = 0 := dnumA_nil 0
theorem dnum_lt {l : List UInt8} (h : l.all isDig = true) : dnum l < 10 ^ l.length := by
  induction l with
  | nil => rw [dnum_nil]; decide
  | cons c r ih =>
    rw [List.all_cons, Bool.and_eq_true] at h
    have h1 := ih h.2
    have h2 := isDig_iff.1 h.1
    have e : dnum (c :: r) = dnum [c] * 10 ^ r.length + dnum r := dnum_append [c] r
    rw [e, dnum_one, List.length_cons, Nat.pow_succ]
    have h3 : (c.toNat - 48) * 10 ^ r.length ≤ 9 * 10 ^ r.length := Nat.mul_le_mul_right _ (by omega)
    omega
theorem parse_ok {M : Nat} (hM : M ≤ 18446744073709551615) : ∀ (l : List UInt8) (acc : Nat), l.all isDig = true → dnumA acc l ≤ M → parseUintM M acc l = .ok (dnumA acc l)
  | [], acc, _, _ => by rw [dnumA_nil]; rfl
  | c :: r, acc, h, hle => by
    rw [List.all_cons, Bool.and_eq_true] at h
    have h2 := isDig_iff.1 h.1
    have hge : acc * 10 + (c.toNat - 48) ≤ dnumA acc (c :: r) := by
      rw [dnumA_cons, dnumA_eq]
      have : 0 < 10 ^ r.length := Nat.pow_pos (by decide)
      have := Nat.le_mul_of_pos_right (acc * 10 + (c.toNat - 48)) this
      omega
    rw [dnumA_cons] at hle hge ⊢
    rw [parseUintM, if_pos h2, if_neg (by omega), if_neg (by omega)]
    exact parse_ok hM r _ h.2 hle
theorem parseB_ok {l : List UInt8} (h : l.all isDig = true) (h0 : l ≠ []) (hl : l.length ≤ 19) : parseUintB 64 l = .ok (dnum l) := by
  unfold parseUintB
  rw [if_neg h0]
  refine parse_ok (by decide) l 0 h ?_
  have h1 := dnum_lt h
  have h2 : 10 ^ l.length ≤ 10 ^ 19 := Nat.pow_le_pow_right (by decide) hl
  have h3 : (10 ^ 19 : Nat) ≤ 2 ^ 64 - 1 := by decide
  unfold dnum at h1
  omega

/-- Is it a row of digits as Text writes them? -/
def decForm (l : List UInt8) : Bool := decide (l ≠ []) && !(decide (l.head? = some 48) && decide (1 < l.length)) && l.all isDig
def digsSet : List UInt8 := [48, 49, 50, 51, 52, 53, 54, 55, 56, 57]
theorem digsSet_fin : ∀ n : Fin 256, digsSet.contains (UInt8.ofNat n.val) = isDig (UInt8.ofNat n.val) := by decide +kernel
theorem digsSet_has (c : UInt8) : digsSet.contains c = isDig c := by
  have := digsSet_fin ⟨c.toNat, c.toNat_lt⟩
  simpa using this
theorem dropWhile_nil_all {α : Type} (p : α → Bool) (l : List α) : l.dropWhile p = [] ↔ l.all p = true := by
  induction l with
  | nil => simp
  | cons x xs ih =>
    rw [List.dropWhile_cons, List.all_cons]
    cases h : p x
    · simp
    · simp [ih]
theorem dropWhile_cons_not {α : Type} (p : α → Bool) : ∀ (l : List α) (y : α) (t : List α), l.dropWhile p = y :: t → p y = false
  | [], y, t, h => by simp at h
  | x :: xs, y, t, h => by
    rw [List.dropWhile_cons] at h
    cases hx : p x
    · rw [hx] at h; simp at h; rw [← h.1]; exact hx
    · rw [hx] at h; exact dropWhile_cons_not p xs y t (by simpa using h)
theorem trimS_nil (l : List UInt8) : trimS l digsSet = [] ↔ l.all isDig = true := by
  have hp : (fun c => digsSet.contains c) = isDig := funext digsSet_has
  unfold trimS trimLeftS trimRightS
  rw [hp, dropWhile_nil_all, List.all_reverse]
  constructor
  · intro h
    cases hd : l.reverse.dropWhile isDig with
    | nil =>
      have := (dropWhile_nil_all _ _).1 hd
      rwa [List.all_reverse] at this
    | cons y t =>
      rw [hd, List.all_cons, Bool.and_eq_true] at h
      rw [dropWhile_cons_not _ _ _ _ hd] at h
      exact absurd h.1 (by decide)
  · intro h
    have := (dropWhile_nil_all isDig l.reverse).2 (by rw [List.all_reverse]; exact h)
    rw [this]; rfl

/-- The digits that are written are those that are read. -/
theorem decDigits_spec (n : Nat) : dnum (decDigits n) = n ∧ (decDigits n).all isDig = true ∧ decDigits n ≠ [] ∧ (n ≠ 0 → (decDigits n).head? ≠ some 48) := by
  induction n using Nat.strongRecOn with
  | ind n ih =>
    have hd : ∀ d, d < 10 → (UInt8.ofNat (48 + d)).toNat = 48 + d := fun d h => by
      rw [UInt8.toNat_ofNat']; omega
    by_cases h : n < 10
    · rw [decDigits_small h]
      refine ⟨by rw [dnum_one, hd n h]; omega, by rw [List.all_cons, List.all_nil, Bool.and_true, isDig_iff, hd n h]; omega, by simp, fun h0 he => ?_⟩
      simp only [List.head?_cons, Option.some.injEq] at he
      have := hd n h
      rw [he] at this
      have h2 : (48 : UInt8).toNat = 48 := rfl
      omega
    · rw [decDigits_big h]
      obtain ⟨i1, i2, i3, i4⟩ := ih (n / 10) (by omega)
      have hm := hd (n % 10) (by omega)
      refine ⟨?_, ?_, by simp, fun _ => ?_⟩
      · rw [dnum_append, i1, dnum_one, hm, List.length_singleton]; omega
      · rw [List.all_append, i2, List.all_cons, List.all_nil, Bool.and_true, Bool.true_and, isDig_iff, hm]; omega
      · rw [List.head?_append]
        cases hq : decDigits (n / 10) with
        | nil => exact absurd hq i3
        | cons y t =>
          have := i4 (by omega)
          rw [hq] at this
          simpa using this
theorem decDigits_form (n : Nat) : decForm (decDigits n) = true := by
  obtain ⟨_, i2, i3, i4⟩ := decDigits_spec n
  unfold decForm
  rw [i2, decide_eq_true i3, Bool.true_and, Bool.and_true]
  by_cases h0 : n = 0
  · subst h0
    rw [decDigits_small (by decide)]; rfl
  · rw [decide_eq_false (i4 h0)]; rfl

/-- What Parse's loop keeps: q bytes are read. -/
structure ParInv (l : List UInt8) (q v : Nat) : Prop where
  le : q ≤ l.length
  eq : v = dnum (l.take q)
  mul : q = 0 ∨ (l.length - q) % 19 = 0
def grp (l : List UInt8) (q : Nat) : Nat := (l.length - q - 1) % 19 + 1
theorem ParInv.step {l : List UInt8} {q v : Nat} (h : ParInv l q v) (hq : q < l.length) :
    grp l q ≤ 19 ∧ 0 < grp l q ∧ q + grp l q ≤ l.length ∧ ParInv l (q + grp l q) (v * 10000000000000000000 + dnum ((l.drop q).take (grp l q))) := by
  have h1 : q + grp l q ≤ l.length := by unfold grp; omega
  refine ⟨by unfold grp; omega, by unfold grp; omega, h1, h1, ?_, .inr (by unfold grp; omega)⟩
  rw [List.take_add, dnum_append, ← h.eq, List.length_take, List.length_drop, Nat.min_eq_left (by omega)]
  rcases h.mul with h0 | h0
  · have : v = 0 := by rw [h.eq, h0, List.take_zero, dnum_nil]
    rw [this, Nat.zero_mul, Nat.zero_mul]
  · rw [show grp l q = 19 by unfold grp; omega]
theorem ParInv.fin {l : List UInt8} {v : Nat} (h : ParInv l l.length v) : v = dnum l := by rw [h.eq, List.take_length]
theorem str_from (l : List UInt8) (k : Nat) : (⟨l.toArray⟩ : ByteArray).extract k l.length = ⟨(l.drop k).toArray⟩ := by
  have h : ((⟨l.toArray⟩ : ByteArray).extract k l.length).data = (l.drop k).toArray := by
    apply Array.ext'
    simp [List.take_of_length_le]
  exact ByteArray.ext h
theorem str_upto (l : List UInt8) (k : Nat) : (⟨l.toArray⟩ : ByteArray).extract 0 k = ⟨(l.take k).toArray⟩ := by
  have h : ((⟨l.toArray⟩ : ByteArray).extract 0 k).data = (l.take k).toArray := by
    apply Array.ext'
    simp
  exact ByteArray.ext h

end Go.Proofs.YtifoflicflodcaaGreatDoor
