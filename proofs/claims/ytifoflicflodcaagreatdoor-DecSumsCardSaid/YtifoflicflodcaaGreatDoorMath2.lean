/- Plain arithmetic of rows of digits, more: what the loops of sums, differences, products, short and long quotients and shifts keep. No program is in sight here. -/
import Derived.Test.YtifoflicflodcaaGreatDoorMath
namespace Go.Proofs.YtifoflicflodcaaGreatDoor

theorem getD_of_lt {xs : List Nat} {i : Nat} (h : i < xs.length) : xs.getD i 0 = xs[i] := by
  rw [List.getD_eq_getElem?_getD, List.getElem?_eq_getElem h]; rfl
theorem getD_of_ge {xs : List Nat} {i : Nat} (h : xs.length ≤ i) : xs.getD i 0 = 0 := by
  rw [List.getD_eq_getElem?_getD, List.getElem?_eq_none h]; rfl

theorem nv_take_succ' (b : Nat) (xs : List Nat) (i : Nat) : nv b (xs.take (i + 1)) = nv b (xs.take i) + b ^ i * xs.getD i 0 := by
  by_cases h : i < xs.length
  · rw [nv_take_succ b xs i h, getD_of_lt h]
  · rw [List.take_of_length_le (by omega), List.take_of_length_le (by omega), getD_of_ge (by omega)]; simp
theorem nv_take_of_le (b : Nat) (xs : List Nat) (i : Nat) (h : xs.length ≤ i) : nv b (xs.take i) = nv b xs := by rw [List.take_of_length_le h]
theorem take_set_self {α : Type} (xs : List α) (i : Nat) (x : α) (h : i < xs.length) : (xs.set i x).take (i + 1) = xs.take i ++ [x] := by
  induction xs generalizing i with
  | nil => simp at h
  | cons y ys ih => cases i with
    | zero => simp
    | succ i => simpa using ih i (by simpa using h)
theorem take_set_lo {α : Type} (xs : List α) (i j : Nat) (x : α) (h : i ≤ j) : (xs.set j x).take i = xs.take i := by
  rw [List.take_set]; apply List.set_eq_of_length_le; rw [List.length_take]; omega
theorem drop_set_lo {α : Type} (xs : List α) (i j : Nat) (x : α) (h : j < i) : (xs.set j x).drop i = xs.drop i := by
  rw [List.drop_set]; rw [if_pos h]
theorem nv_take_set (b : Nat) (xs : List Nat) (i x : Nat) (h : i < xs.length) : nv b ((xs.set i x).take (i + 1)) = nv b (xs.take i) + b ^ i * x := by
  rw [take_set_self xs i x h, nv_append, List.length_take, Nat.min_eq_left (by omega)]; simp

/-- A digit's carry: what is kept and what is handed on make the sum. -/
theorem split_digit (b s : Nat) : s % b + b * (s / b) = s := Nat.mod_add_div s b

/-- One round of a sum. -/
theorem add_round {b p A C r c x y s c' : Nat} (h : r + p * c = A + C) (hs : s + b * c' = x + y + c) : r + p * s + p * b * c' = (A + p * x) + (C + p * y) := by
  have e : p * (s + b * c') = p * (x + y + c) := by rw [hs]
  rw [Nat.mul_add, Nat.mul_add, Nat.mul_add, ← Nat.mul_assoc] at e
  omega
/-- One round of a difference. -/
theorem sub_round {b p A C r c x y s c' : Nat} (h : r + C = A + p * c) (hs : s + y + c = x + b * c') : r + p * s + (C + p * y) = (A + p * x) + p * b * c' := by
  have e : p * (s + y + c) = p * (x + b * c') := by rw [hs]
  rw [Nat.mul_add, Nat.mul_add, Nat.mul_add, ← Nat.mul_assoc] at e
  omega
/-- A difference's borrow, in the model's own form. -/
theorem sub64_step {b x y c : Nat} (hx : x < b) (hy : y < b) (hc : c ≤ 1) : (x + b - y - c) % b + y + c = x + b * (if x < y + c then 1 else 0) := by
  by_cases h : x < y + c
  · rw [if_pos h, Nat.mod_eq_of_lt (by omega)]; omega
  · rw [if_neg h]
    have e : x + b - y - c = (x - y - c) + b := by omega
    rw [e, Nat.add_mod_right, Nat.mod_eq_of_lt (by omega)]; omega

theorem pow_pos' {b : Nat} (hb : 0 < b) (n : Nat) : 0 < b ^ n := Nat.pow_pos hb

/-- A product of two digits and two more fit into two digits. -/
theorem mul_add_add_lt {b x y u v : Nat} (hx : x < b) (hy : y < b) (hu : u < b) (hv : v < b) : x * y + u + v < b * b := by
  have h1 : x * y ≤ (b - 1) * (b - 1) := Nat.mul_le_mul (by omega) (by omega)
  have hb : b = (b - 1) + 1 := by omega
  have h2 : b * b = (b - 1) * (b - 1) + 2 * (b - 1) + 1 := by
    conv => lhs; rw [hb]
    rw [Nat.add_mul, Nat.mul_add]; omega
  omega
theorem mul_add_lt {b x y u : Nat} (hx : x < b) (hy : y < b) (hu : u < b) : x * y + u < b * b := by
  have := mul_add_add_lt hx hy hu (v := 0) (by omega); omega
theorem mul_lt_sq {b x y : Nat} (hx : x < b) (hy : y < b) : x * y < b * b := by
  have := mul_add_add_lt hx hy (u := 0) (v := 0) (by omega) (by omega); omega

/-- Quotient and rest, told by what they make. -/
theorem div_unique {a b q r : Nat} (h : a = b * q + r) (hr : r < b) : q = a / b ∧ r = a % b := by
  subst h
  have hb : 0 < b := by omega
  constructor
  · rw [Nat.mul_add_div hb, Nat.div_eq_of_lt hr]; rfl
  · rw [Nat.mul_add_mod, Nat.mod_eq_of_lt hr]

/-- One round of a quotient by one digit, from the highest on: p is the place, hi what is left above, x the digit. -/
theorem short_round {b d hi x q r : Nat} (h : hi * b + x = d * q + r) (hr : r < d) : q = (hi * b + x) / d ∧ r = (hi * b + x) % d := by
  have := div_unique h hr; exact this

/-- The highest three digits T of what is left against the two highest V of the divisor bound the digit of the quotient. -/
theorem guess_bounds {P T V a d lo lo' : Nat} (ha : a = T * P + lo) (hlo : lo < P) (hd : d = V * P + lo') (hlo' : lo' < P) (hV : 0 < V) (hq : T / V ≤ V) (hP : 0 < P) :
    a / d ≤ T / V ∧ T / V ≤ a / d + 1 := by
  have hd0 : 0 < d := by
    rw [hd]; have : 0 < V * P := Nat.mul_pos hV hP; omega
  have hTV := Nat.div_add_mod T V
  have hTm := Nat.mod_lt T hV
  have e5 : T / V * V ≤ T := Nat.div_mul_le_self T V
  generalize T / V = Q at *
  generalize T % V = R at *
  constructor
  · have h1 : T + 1 ≤ (Q + 1) * V := by rw [Nat.add_mul, Nat.mul_comm Q V]; omega
    have h2 : (T + 1) * P ≤ (Q + 1) * V * P := Nat.mul_le_mul_right P h1
    have h3 : (Q + 1) * V * P ≤ (Q + 1) * d := by
      rw [Nat.mul_assoc]; exact Nat.mul_le_mul_left _ (by omega)
    rw [Nat.add_mul] at h2
    have h5 : a < (Q + 1) * d := by omega
    have := (Nat.div_lt_iff_lt_mul hd0).2 h5
    omega
  · cases Q with
    | zero => exact Nat.zero_le _
    | succ Q =>
      have h1 : Q * d ≤ a := by
        have e1 : Q * d ≤ Q * (V * P + P) := Nat.mul_le_mul_left _ (by omega)
        have e2 : Q * (V * P + P) = (Q * V + Q) * P := by
          rw [Nat.mul_add, Nat.add_mul, Nat.mul_assoc]
        have e3 : Q * V + Q ≤ T := by
          rw [Nat.add_mul] at e5; omega
        have e6 : (Q * V + Q) * P ≤ T * P := Nat.mul_le_mul_right P e3
        omega
      have := (Nat.le_div_iff_mul_le hd0).2 h1
      omega

theorem gcd_odd_left {m : Nat} (h : m % 2 = 1) (k n : Nat) : Nat.gcd m (2 ^ k * n) = Nat.gcd m n := by
  have h2 : Nat.gcd m (2 ^ k) = 1 := by
    have : Nat.Coprime m 2 := by
      have : Nat.gcd m 2 = Nat.gcd (m % 2) 2 := by rw [Nat.gcd_comm m 2, Nat.gcd_rec 2 m]
      unfold Nat.Coprime
      rw [this, h]; rfl
    exact Nat.Coprime.pow_right k this
  exact Nat.Coprime.gcd_mul_left_cancel_right n (by unfold Nat.Coprime; rw [Nat.gcd_comm]; exact h2)

end Go.Proofs.YtifoflicflodcaaGreatDoor
