/- Decimals: plain numbers. -/
import Derived.Test.YtifoflicflodcaaGreatDoorMath2
namespace Go.Proofs.YtifoflicflodcaaGreatDoor

theorem quo_low (a U b : Nat) : a * U / b * b ≤ a * U := Nat.div_mul_le_self _ _
theorem quo_high (a U : Nat) {b : Nat} (hb : 0 < b) : a * U < (a * U / b + 1) * b := by
  have h := Nat.lt_div_mul_add hb (a := a * U)
  rw [Nat.add_mul, Nat.one_mul]; omega
theorem steps_low (a b : Nat) {c U : Nat} (hc : 0 < c) (hU : 0 < U) : a * U / c * b / U ≤ a * b / c := by
  obtain ⟨q, hq⟩ : ∃ q, a * U / c = q := ⟨_, rfl⟩
  obtain ⟨t, ht⟩ : ∃ t, q * b / U = t := ⟨_, rfl⟩
  have h1 : q * c ≤ a * U := by rw [← hq]; exact Nat.div_mul_le_self _ _
  have h2 : t * U ≤ q * b := by rw [← ht]; exact Nat.div_mul_le_self _ _
  rw [hq, ht, Nat.le_div_iff_mul_le hc]
  have h3 : t * U * c ≤ a * b * U := by
    calc t * U * c ≤ q * b * c := Nat.mul_le_mul_right c h2
      _ = q * c * b := by grind
      _ ≤ a * U * b := Nat.mul_le_mul_right b h1
      _ = a * b * U := by grind
  have h4 : t * c * U ≤ a * b * U := by rw [show t * c * U = t * U * c by grind]; exact h3
  exact Nat.le_of_mul_le_mul_right h4 hU
theorem steps_high (a b : Nat) {c U : Nat} (hc : 0 < c) (hU : 0 < U) : a * b / c ≤ a * U / c * b / U + (b / U + 2) := by
  obtain ⟨q, hq⟩ : ∃ q, a * U / c = q := ⟨_, rfl⟩
  obtain ⟨t, ht⟩ : ∃ t, q * b / U = t := ⟨_, rfl⟩
  obtain ⟨o, ho⟩ : ∃ o, a * b / c = o := ⟨_, rfl⟩
  obtain ⟨r, hr⟩ : ∃ r, b / U = r := ⟨_, rfl⟩
  have h1 : a * U < (q + 1) * c := by rw [← hq]; exact quo_high a U hc
  have h2 : q * b < t * U + U := by rw [← ht]; exact Nat.lt_div_mul_add hU
  have h3 : b < r * U + U := by rw [← hr]; exact Nat.lt_div_mul_add hU
  have h4 : o * c ≤ a * b := by rw [← ho]; exact Nat.div_mul_le_self _ _
  rw [hq, ht, ho, hr]
  have h5 : o * U * c ≤ (q + 1) * b * c := by
    calc o * U * c = o * c * U := by grind
      _ ≤ a * b * U := Nat.mul_le_mul_right U h4
      _ = a * U * b := by grind
      _ ≤ (q + 1) * c * b := Nat.mul_le_mul_right b (Nat.le_of_lt h1)
      _ = (q + 1) * b * c := by grind
  have h6 : o * U ≤ (q + 1) * b := Nat.le_of_mul_le_mul_right h5 hc
  have h7 : o * U < (t + r + 2) * U := by
    have e1 : (q + 1) * b = q * b + b := by grind
    have e2 : (t + r + 2) * U = t * U + r * U + U + U := by grind
    omega
  have h8 : o < t + r + 2 := Nat.lt_of_mul_lt_mul_right h7
  omega
theorem mul_unit (a n : Nat) {U : Nat} (hU : 0 < U) : a * (n * U) / U = a * n := by
  rw [← Nat.mul_assoc]; exact Nat.mul_div_cancel _ hU
theorem over_times (a : Nat) {n : Nat} (hn : 0 < n) : a * n * 1 / n = a := by rw [Nat.mul_one]; exact Nat.mul_div_cancel _ hn
theorem whole_rest (a U : Nat) : a / U * U + a % U = a := by rw [Nat.mul_comm]; exact Nat.div_add_mod a U
theorem up_exact {P Z : Nat} : P / Z * Z = P ↔ P % Z = 0 := by
  have h := Nat.div_add_mod P Z
  rw [Nat.mul_comm] at h
  omega
/-- Parts, each rounded down. -/
def partSum (a : Nat) (all : Nat) (ss : List Nat) : Nat := (ss.map fun s => a * s / all).sum
theorem partSum_le {a all : Nat} (ss : List Nat) : partSum a all ss * all ≤ a * ss.sum := by
  induction ss with
  | nil => simp [partSum]
  | cons s ss ih =>
    have h1 : a * s / all * all ≤ a * s := Nat.div_mul_le_self _ _
    have e1 : partSum a all (s :: ss) = a * s / all + partSum a all ss := by simp [partSum]
    have e2 : (s :: ss).sum = s + ss.sum := by simp
    rw [e1, e2, Nat.add_mul, Nat.mul_add]
    omega
theorem partSum_gt {a all : Nat} (ha : 0 < all) (ss : List Nat) : a * ss.sum ≤ partSum a all ss * all + ss.length * all := by
  induction ss with
  | nil => simp [partSum]
  | cons s ss ih =>
    have h1 : a * s < a * s / all * all + all := Nat.lt_div_mul_add ha
    have e1 : partSum a all (s :: ss) = a * s / all + partSum a all ss := by simp [partSum]
    have e2 : (s :: ss).sum = s + ss.sum := by simp
    rw [e1, e2, Nat.add_mul, Nat.mul_add, List.length_cons, Nat.add_mul, Nat.one_mul]
    omega
theorem partSum_gt' {a all : Nat} (ha : 0 < all) (ss : List Nat) (h : ss ≠ []) : a * ss.sum < partSum a all ss * all + ss.length * all := by
  cases ss with
  | nil => exact absurd rfl h
  | cons s ss =>
    have ih := partSum_gt (a := a) ha ss
    have h1 : a * s < a * s / all * all + all := Nat.lt_div_mul_add ha
    have e1 : partSum a all (s :: ss) = a * s / all + partSum a all ss := by simp [partSum]
    have e2 : (s :: ss).sum = s + ss.sum := by simp
    rw [e1, e2, Nat.add_mul, Nat.mul_add, List.length_cons, Nat.add_mul, Nat.one_mul]
    omega
/-- Parts of the whole: at most it, and less than one place each below it. -/
theorem parts_whole {a : Nat} {ss : List Nat} (h : 0 < ss.sum) : partSum a ss.sum ss ≤ a ∧ a - partSum a ss.sum ss < ss.length := by
  have h1 := partSum_le (a := a) (all := ss.sum) ss
  have hne : ss ≠ [] := by rintro rfl; simp at h
  have h2 := partSum_gt' (a := a) h ss hne
  have h3 : partSum a ss.sum ss ≤ a := Nat.le_of_mul_le_mul_right h1 h
  refine ⟨h3, ?_⟩
  have h4 : a * ss.sum < (partSum a ss.sum ss + ss.length) * ss.sum := by rw [Nat.add_mul]; exact h2
  have h5 := Nat.lt_of_mul_lt_mul_right h4
  omega

end Go.Proofs.YtifoflicflodcaaGreatDoor
