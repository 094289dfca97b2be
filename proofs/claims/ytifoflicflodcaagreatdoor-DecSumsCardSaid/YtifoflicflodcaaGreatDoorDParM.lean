/- Decimals read: plain. -/
import Derived.Test.YtifoflicflodcaaGreatDoorParM
import Derived.Lib.CutLaws
namespace Go.Proofs.YtifoflicflodcaaGreatDoor
open Go.RowKit Go.Lib

/-- What may stand behind the point. -/
def decTail (b : List UInt8) : Bool := decide (b ≠ []) && decide (b.length ≤ 36) && !decide (b.getLast? = some 48) && b.all isDig
theorem decTail_iff {b : List UInt8} : decTail b = true ↔ b ≠ [] ∧ b.length ≤ 36 ∧ b.getLast? ≠ some 48 ∧ b.all isDig = true := by
  unfold decTail
  simp only [Bool.and_eq_true, decide_eq_true_iff, Bool.not_eq_true', decide_eq_false_iff_not, and_assoc]
/-- What Parse hands to nat.Parse. -/
def decPad (b : List UInt8) : List UInt8 := trimLeftB b 48 ++ List.replicate (36 - b.length) 48
theorem dnum_cons (c : UInt8) (r : List UInt8) : dnum (c :: r) = (c.toNat - 48) * 10 ^ r.length + dnum r := by
  have e : dnum (c :: r) = dnum [c] * 10 ^ r.length + dnum r := dnum_append [c] r
  rw [e, dnum_one]
theorem dnum_zeros (k : Nat) : dnum (List.replicate k 48) = 0 := by
  induction k with
  | zero => exact dnum_nil
  | succ k ih => rw [List.replicate_succ, dnum_cons, ih, show (48 : UInt8).toNat - 48 = 0 from rfl, Nat.zero_mul]
theorem dnum_trimLeft (l : List UInt8) : dnum (trimLeftB l 48) = dnum l := by
  unfold trimLeftB
  induction l with
  | nil => rfl
  | cons c r ih =>
    rw [List.dropWhile_cons]
    by_cases h : c = 48
    · subst h
      rw [if_pos (by decide), ih, dnum_cons]
      show _ = (48 - 48) * _ + _
      omega
    · rw [if_neg (by simpa using h)]
theorem dnum_decPad (b : List UInt8) : dnum (decPad b) = dnum b * 10 ^ (36 - b.length) := by
  unfold decPad
  rw [dnum_append, dnum_zeros, List.length_replicate, dnum_trimLeft, Nat.add_zero]
theorem trimLeftB_all {b : List UInt8} {c : UInt8} {p : UInt8 → Bool} (h : b.all p = true) : (trimLeftB b c).all p = true := by
  rw [List.all_eq_true] at h ⊢
  intro x hx
  exact h x ((List.dropWhile_sublist _).subset hx)
theorem decPad_form {b : List UInt8} (h : decTail b = true) : decForm (decPad b) = true := by
  obtain ⟨h0, h1, h2, h3⟩ := decTail_iff.1 h
  obtain ⟨t, ht⟩ : ∃ t, trimLeftB b 48 = t := ⟨_, rfl⟩
  have hall : t.all isDig = true := by rw [← ht]; exact trimLeftB_all h3
  have hne : t ≠ [] := by
    intro h4
    rw [h4] at ht
    unfold trimLeftB at ht
    have h5 := (dropWhile_nil_all _ _).1 ht
    rw [List.all_eq_true] at h5
    apply h2
    rw [List.getLast?_eq_some_getLast h0]
    have := h5 _ (List.getLast_mem h0)
    simp at this
    rw [this]
  cases t with
  | nil => exact absurd rfl hne
  | cons y r =>
    unfold trimLeftB at ht
    have hy := dropWhile_cons_not _ _ _ _ ht
    have hy' : y ≠ 48 := by simpa using hy
    unfold decPad
    rw [show trimLeftB b 48 = y :: r from ht]
    unfold decForm
    rw [List.all_append, hall]
    simp [hy']
    exact Or.inr (by decide)
theorem decPad_len (b : List UInt8) (h : b.length ≤ 36) : (decPad b).length ≤ 36 := by
  unfold decPad
  rw [List.length_append, List.length_replicate]
  have : (trimLeftB b 48).length ≤ b.length := by unfold trimLeftB; exact (List.dropWhile_sublist _).length_le
  omega
theorem decTail_lt {b : List UInt8} (h : decTail b = true) : dnum b * 10 ^ (36 - b.length) < 10 ^ 36 := by
  obtain ⟨h0, h1, h2, h3⟩ := decTail_iff.1 h
  have h4 := dnum_lt h3
  calc dnum b * 10 ^ (36 - b.length) < 10 ^ b.length * 10 ^ (36 - b.length) := Nat.mul_lt_mul_of_pos_right h4 (Nat.pow_pos (by decide))
    _ = 10 ^ 36 := by rw [← Nat.pow_add]; congr 1; omega
theorem cut_len (l s : List UInt8) : (cut l s).1.length ≤ l.length ∧ (cut l s).2.1.length ≤ l.length := by
  unfold cut
  split
  · exact ⟨by rw [List.length_take]; omega, by rw [List.length_drop]; omega⟩
  · exact ⟨Nat.le_refl _, Nat.zero_le _⟩

end Go.Proofs.YtifoflicflodcaaGreatDoor
