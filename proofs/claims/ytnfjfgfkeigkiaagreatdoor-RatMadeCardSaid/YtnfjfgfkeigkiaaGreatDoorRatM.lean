/- Fractions: plain numbers. -/
import Derived.Test.YtnfjfgfkeigkiaaGreatDoorGcdM
namespace Go.Proofs.YtnfjfgfkeigkiaaGreatDoor

/-- A fraction, reduced. -/
def rN (X Y : Nat) : Nat := X / Nat.gcd X Y
def rD (X Y : Nat) : Nat := Y / Nat.gcd X Y
/-- A fraction as it is read: without a denominator it is 0. -/
def dN (X Y : Nat) : Nat := if Y = 0 then 0 else X
def dD (Y : Nat) : Nat := if Y = 0 then 1 else Y
theorem dD_pos (Y : Nat) : 0 < dD Y := by unfold dD; split <;> omega

theorem gcd_posR {X Y : Nat} (h : 0 < Y) : 0 < Nat.gcd X Y := Nat.gcd_pos_of_pos_right _ h
theorem rN_mul (X Y : Nat) : rN X Y * Nat.gcd X Y = X := Nat.div_mul_cancel (Nat.gcd_dvd_left X Y)
theorem rD_mul (X Y : Nat) : rD X Y * Nat.gcd X Y = Y := Nat.div_mul_cancel (Nat.gcd_dvd_right X Y)
theorem rD_pos {X Y : Nat} (h : 0 < Y) : 0 < rD X Y := by
  rcases Nat.eq_zero_or_pos (rD X Y) with h0 | h0
  · have := rD_mul X Y
    rw [h0] at this; omega
  · exact h0
theorem r_cross (X Y : Nat) : rN X Y * Y = X * rD X Y := by
  have h1 := rN_mul X Y
  have h2 := rD_mul X Y
  generalize rN X Y = x at *
  generalize rD X Y = y at *
  generalize Nat.gcd X Y = g at *
  subst h1 h2
  grind
theorem r_cop {X Y : Nat} (h : 0 < Y) : Nat.gcd (rN X Y) (rD X Y) = 1 := by
  have h1 := rN_mul X Y
  have h2 := rD_mul X Y
  have hg := gcd_posR (X := X) h
  have e : Nat.gcd (rN X Y) (rD X Y) * Nat.gcd X Y = 1 * Nat.gcd X Y := by
    rw [← Nat.gcd_mul_right, h1, h2, Nat.one_mul]
  exact Nat.eq_of_mul_eq_mul_right hg e
theorem r_le (X Y : Nat) : rN X Y ≤ X ∧ rD X Y ≤ Y := ⟨Nat.div_le_self _ _, Nat.div_le_self _ _⟩
theorem r_uniq {X Y X' Y' : Nat} (h : 0 < Y) (h' : 0 < Y') (e : X * Y' = X' * Y) : rN X Y = rN X' Y' ∧ rD X Y = rD X' Y' := by
  have c1 := r_cross X Y
  have c2 := r_cross X' Y'
  have g1 : Nat.Coprime (rN X Y) (rD X Y) := r_cop h
  have g2 : Nat.Coprime (rN X' Y') (rD X' Y') := r_cop h'
  generalize rN X Y = x at *
  generalize rD X Y = y at *
  generalize rN X' Y' = x' at *
  generalize rD X' Y' = y' at *
  have k : x * y' = x' * y := by
    have : x * y' * (Y * Y') = x' * y * (Y * Y') := by grind
    exact Nat.eq_of_mul_eq_mul_right (Nat.mul_pos h h') this
  constructor
  · exact Nat.dvd_antisymm (g1.dvd_of_dvd_mul_right ⟨y', k.symm⟩) (g2.dvd_of_dvd_mul_right ⟨y, k⟩)
  · exact Nat.dvd_antisymm (g1.symm.dvd_of_dvd_mul_left ⟨x', by rw [k, Nat.mul_comm]⟩) (g2.symm.dvd_of_dvd_mul_left ⟨x, by rw [← k, Nat.mul_comm]⟩)
theorem r_same {X Y X' Y' : Nat} (h : 0 < Y) (hN : rN X Y = rN X' Y') (hD : rD X Y = rD X' Y') : X * Y' = X' * Y := by
  have c1 := r_cross X Y
  have c2 := r_cross X' Y'
  have hp := rD_pos (X := X) h
  rw [← hN, ← hD] at c2
  generalize rN X Y = x at *
  generalize rD X Y = y at *
  have : X * Y' * y = X' * Y * y := by grind
  exact Nat.eq_of_mul_eq_mul_right hp this
theorem r_id {X Y : Nat} (h : Nat.gcd X Y = 1) : rN X Y = X ∧ rD X Y = Y := by
  unfold rN rD; rw [h]; simp
theorem r_one (X : Nat) : rN X 1 = X ∧ rD X 1 = 1 := r_id (Nat.gcd_one_right X)

theorem cmpN_scale {a b k : Nat} (hk : 0 < k) : cmpN (a * k) (b * k) = cmpN a b := by
  rcases Nat.lt_trichotomy a b with h | h | h
  · rw [cmpN_lt h, cmpN_lt (Nat.mul_lt_mul_of_pos_right h hk)]
  · rw [cmpN_eq h, cmpN_eq (by rw [h])]
  · rw [cmpN_gt h, cmpN_gt (Nat.mul_lt_mul_of_pos_right h hk)]
theorem cmpN_addr {a b c : Nat} : cmpN (a + c) (b + c) = cmpN a b := by
  rcases Nat.lt_trichotomy a b with h | h | h
  · rw [cmpN_lt h, cmpN_lt (by omega)]
  · rw [cmpN_eq h, cmpN_eq (by omega)]
  · rw [cmpN_gt h, cmpN_gt (by omega)]
theorem cmpN_neg (a b : Nat) : cmpN a b = - cmpN b a := by
  rcases Nat.lt_trichotomy a b with h | h | h
  · rw [cmpN_lt h, cmpN_gt h]
  · rw [cmpN_eq h, cmpN_eq h.symm]; rfl
  · rw [cmpN_gt h, cmpN_lt h]; rfl
theorem cmpN_via {a b a' b' k : Nat} (hk : 0 < k) (h1 : a * k = a') (h2 : b * k = b') : cmpN a b = cmpN a' b' := by
  rw [← h1, ← h2, cmpN_scale hk]

/-- A quotient of a fraction's parts, times a number, is the fraction's own. -/
theorem frac_div {x y X Y K : Nat} (hy : 0 < y) (hY : 0 < Y) (h : x * Y = X * y) : x * K / y = X * K / Y := by
  have e1 : x * K / y = (x * K * Y) / (y * Y) := (Nat.mul_div_mul_right _ _ hY).symm
  have e2 : X * K / Y = (X * K * y) / (Y * y) := (Nat.mul_div_mul_right _ _ hy).symm
  rw [e1, e2]
  congr 1
  · grind
  · grind

/-! The laws. -/
theorem add_comm' {X1 Y1 X2 Y2 : Nat} : rN (X1 * Y2 + X2 * Y1) (Y1 * Y2) = rN (X2 * Y1 + X1 * Y2) (Y2 * Y1) ∧ rD (X1 * Y2 + X2 * Y1) (Y1 * Y2) = rD (X2 * Y1 + X1 * Y2) (Y2 * Y1) := by
  rw [Nat.add_comm, Nat.mul_comm Y1]; exact ⟨rfl, rfl⟩
/-- A sum with one that is a sum. -/
theorem add_via {X Y sx sy X3 Y3 : Nat} (hY : 0 < Y) (hs : 0 < sy) (h3 : 0 < Y3) (h : sx * Y = X * sy) :
    rN (sx * Y3 + X3 * sy) (sy * Y3) = rN (X * Y3 + X3 * Y) (Y * Y3) ∧ rD (sx * Y3 + X3 * sy) (sy * Y3) = rD (X * Y3 + X3 * Y) (Y * Y3) :=
  r_uniq (Nat.mul_pos hs h3) (Nat.mul_pos hY h3) (by grind)
theorem add_via2 {X Y sx sy X3 Y3 : Nat} (hY : 0 < Y) (hs : 0 < sy) (h3 : 0 < Y3) (h : sx * Y = X * sy) :
    rN (X3 * sy + sx * Y3) (Y3 * sy) = rN (X3 * Y + X * Y3) (Y3 * Y) ∧ rD (X3 * sy + sx * Y3) (Y3 * sy) = rD (X3 * Y + X * Y3) (Y3 * Y) :=
  r_uniq (Nat.mul_pos h3 hs) (Nat.mul_pos h3 hY) (by grind)
theorem mul_via {X Y sx sy X3 Y3 : Nat} (hY : 0 < Y) (hs : 0 < sy) (h3 : 0 < Y3) (h : sx * Y = X * sy) :
    rN (X3 * sx) (Y3 * sy) = rN (X3 * X) (Y3 * Y) ∧ rD (X3 * sx) (Y3 * sy) = rD (X3 * X) (Y3 * Y) :=
  r_uniq (Nat.mul_pos h3 hs) (Nat.mul_pos h3 hY) (by grind)
end Go.Proofs.YtnfjfgfkeigkiaaGreatDoor
