/- share: plain numbers. What the laws of layer 10 say of them. -/
import Derived.Test.YtpfhifjkecoahaaGreatDoorShare0
namespace Go.Proofs.YtpfhifjkecoahaaGreatDoor

theorem U36_pos : 0 < U36 := by unfold U36; exact Nat.pow_pos (by decide)

def issZ (T S t : Nat) : Nat := S * (t * U36) / (T * U36)
def most54 : Nat := 10 ^ 54 * U36
def issE (T S t : Nat) : Int := if t = 0 then 101 else if S = 0 then 0 else if T = 0 then 100 else if issZ T S t = 0 then 101 else if most54 < S + issZ T S t then 103 else 0
def issV (T S t : Nat) : Nat := if issE T S t = 0 then (if S = 0 then t * U36 else issZ T S t) else 0
def redE (S x : Nat) : Int := if S < x then 102 else 0
def redV (T S x : Nat) : Nat := if S < x then 0 else if x = S then T else x * (T * U36) / S / U36
def needE (T t : Nat) : Int := if T < t then 102 else if T = 0 then 100 else 0
def needV (T S t : Nat) : Nat := if needE T t = 0 then rdV true (S * (t * U36)) (T * U36) else 0
def worV (T S x : Nat) : Nat := if S = 0 then 0 else x * (T * U36) / S
def cutV (n p : Nat) : Nat := n * min p 10000 / 10000

theorem issZ_eq (T S t : Nat) : issZ T S t = S * t / T := by
  unfold issZ
  rw [← Nat.mul_assoc, Nat.mul_div_mul_right _ _ U36_pos]
theorem red_in (T S x : Nat) : x * (T * U36) / S / U36 = x * T / S := by
  rw [Nat.div_div_eq_div_mul, ← Nat.mul_assoc, Nat.mul_div_mul_right _ _ U36_pos]
theorem red_lt {T S x : Nat} (h : x < S) : x * (T * U36) / S / U36 ≤ T := by
  rw [red_in]
  apply Nat.div_le_of_le_mul
  exact Nat.mul_le_mul_right T (Nat.le_of_lt h)
theorem redV_le (T S x : Nat) : redV T S x ≤ T := by
  unfold redV
  split
  · omega
  · split
    · exact Nat.le_refl _
    · exact red_lt (by omega)
theorem ceil_ge (P Z : Nat) (hZ : 0 < Z) : P ≤ rdV true P Z * Z := by
  unfold rdV
  have h := Nat.div_add_mod P Z
  have hm := Nat.mod_lt P hZ
  by_cases h0 : P % Z = 0
  · rw [if_neg (by simp [h0]), Nat.add_zero, Nat.mul_comm]; omega
  · rw [if_pos ⟨rfl, h0⟩, Nat.add_mul, Nat.one_mul, Nat.mul_comm (P / Z) Z]; omega

/-- What Need takes gives t at least. -/
theorem back_need {T S t : Nat} (he : needE T t = 0) (hx : needV T S t ≤ S) : redE S (needV T S t) = 0 ∧ t ≤ redV T S (needV T S t) := by
  have hle : t ≤ T ∧ 0 < T := by
    unfold needE at he
    by_cases h1 : T < t
    · rw [if_pos h1] at he; cases he
    · rw [if_neg h1] at he
      by_cases h2 : T = 0
      · rw [if_pos h2] at he; cases he
      · exact ⟨by omega, by omega⟩
  have hv : needV T S t = rdV true (S * (t * U36)) (T * U36) := by unfold needV; rw [if_pos he]
  have hc := ceil_ge (S * (t * U36)) (T * U36) (Nat.mul_pos hle.2 U36_pos)
  rw [← hv] at hc
  generalize needV T S t = x at *
  have hc' : S * t ≤ x * T := by
    rw [← Nat.mul_assoc, ← Nat.mul_assoc] at hc
    exact Nat.le_of_mul_le_mul_right hc U36_pos
  refine ⟨by unfold redE; rw [if_neg (by omega)], ?_⟩
  unfold redV
  rw [if_neg (by omega)]
  by_cases hxs : x = S
  · rw [if_pos hxs]; exact hle.1
  · rw [if_neg hxs, red_in, Nat.le_div_iff_mul_le (by omega), Nat.mul_comm]; exact hc'

theorem issE_pos {T S t : Nat} (he : issE T S t = 0) : t ≠ 0 ∧ (S = 0 ∨ (T ≠ 0 ∧ issZ T S t ≠ 0 ∧ S + issZ T S t ≤ most54)) := by
  unfold issE at he
  by_cases h1 : t = 0
  · rw [if_pos h1] at he; cases he
  rw [if_neg h1] at he
  refine ⟨h1, ?_⟩
  by_cases h2 : S = 0
  · exact .inl h2
  rw [if_neg h2] at he
  by_cases h3 : T = 0
  · rw [if_pos h3] at he; cases he
  rw [if_neg h3] at he
  by_cases h4 : issZ T S t = 0
  · rw [if_pos h4] at he; cases he
  rw [if_neg h4] at he
  by_cases h5 : most54 < S + issZ T S t
  · rw [if_pos h5] at he; cases he
  exact .inr ⟨h3, h4, by omega⟩
theorem issV_ok {T S t : Nat} (he : issE T S t = 0) (hS : S ≠ 0) : issV T S t = S * t / T := by
  unfold issV; rw [if_pos he, if_neg hS, issZ_eq]
theorem issV_ok0 {T t : Nat} (he : issE T 0 t = 0) : issV T 0 t = t * U36 := by
  unfold issV; rw [if_pos he, if_pos rfl]

/-- What Issue gave gives, right behind it, t at most. -/
theorem back_issue {T S t : Nat} (he : issE T S t = 0) (h0 : S = 0 → T = 0) : redE (S + issV T S t) (issV T S t) = 0 ∧ redV (T + t) (S + issV T S t) (issV T S t) ≤ t := by
  refine ⟨by unfold redE; rw [if_neg (by omega)], ?_⟩
  unfold redV
  rw [if_neg (by omega)]
  by_cases hS : S = 0
  · subst hS
    rw [if_pos (by omega), h0 rfl]; omega
  · have hv := issV_ok he hS
    have hp := issE_pos he
    have hT : T ≠ 0 := by rcases hp.2 with h | h; exact absurd h hS; exact h.1
    generalize issV T S t = z at *
    rw [if_neg (by omega), red_in]
    have hz : z * T ≤ S * t := by rw [hv]; exact Nat.div_mul_le_self _ _
    apply Nat.div_le_of_le_mul
    rw [Nat.mul_add, Nat.add_mul]
    omega

/-- Who joins in two steps has no more. -/
theorem two_steps {T S t u : Nat} (hT : T ≠ 0) : S * t / T + (S + S * t / T) * u / (T + t) ≤ S * (t + u) / T := by
  have hT' : 0 < T := by omega
  have ha : S * t / T * T ≤ S * t := Nat.div_mul_le_self _ _
  generalize S * t / T = a at *
  rw [Nat.le_div_iff_mul_le hT']
  have hb : (S + a) * u / (T + t) * (T + t) ≤ (S + a) * u := Nat.div_mul_le_self _ _
  generalize (S + a) * u / (T + t) = b at *
  apply Nat.le_of_mul_le_mul_right _ (show 0 < T + t by omega)
  have e1 : (a + b) * T * (T + t) = a * T * (T + t) + T * (b * (T + t)) := by
    rw [Nat.add_mul, Nat.add_mul]; congr 1; rw [Nat.mul_comm b T, Nat.mul_assoc]
  rw [e1]
  have e2 : T * (b * (T + t)) ≤ T * ((S + a) * u) := Nat.mul_le_mul_left T hb
  have e3 : a * T * (T + t) ≤ a * T * T + S * t * t + (a * T * t - a * T * t) := by
    have : a * T * t ≤ S * t * t := Nat.mul_le_mul_right t ha
    rw [Nat.mul_add]; omega
  have e4 : T * ((S + a) * u) = T * S * u + a * T * u := by
    rw [Nat.add_mul, Nat.mul_add, Nat.mul_assoc, ← Nat.mul_assoc T a u, Nat.mul_comm T a]
  have e5 : a * T * u ≤ S * t * u := Nat.mul_le_mul_right u ha
  have e6 : a * T * T ≤ S * t * T := Nat.mul_le_mul_right T ha
  have e7 : S * (t + u) * (T + t) = S * t * T + S * t * t + (T * S * u + S * t * u) := by
    rw [Nat.mul_add S, Nat.add_mul, Nat.mul_add, Nat.mul_add]
    congr 1
    rw [Nat.mul_right_comm S u T, Nat.mul_comm S T, Nat.mul_right_comm S u t]
  rw [e7]
  have e8 : a * T * (T + t) = a * T * T + a * T * t := Nat.mul_add ..
  have e9 : a * T * t ≤ S * t * t := Nat.mul_le_mul_right t ha
  omega

/-- Who leaves in two steps takes no more. -/
theorem leave_two {T S x y : Nat} (hx : x < S) (hy : y ≤ S - x) :
    redV T S x + redV (T - redV T S x) (S - x) y ≤ redV T S (x + y) ∧ (y = S - x → redV T S x + redV (T - redV T S x) (S - x) y = redV T S (x + y)) := by
  have haT := redV_le T S x
  have ha : redV T S x = x * T / S := by unfold redV; rw [if_neg (by omega), if_neg (by omega), red_in]
  by_cases hy2 : y = S - x
  · have h1 : redV (T - redV T S x) (S - x) y = T - redV T S x := by
      unfold redV; rw [if_neg (by omega), if_pos hy2]
    have h2 : redV T S (x + y) = T := by
      unfold redV; rw [if_neg (by omega), if_pos (by omega)]
    rw [h1, h2]
    exact ⟨by omega, fun _ => by omega⟩
  · refine ⟨?_, fun h => absurd h hy2⟩
    have hb : redV (T - redV T S x) (S - x) y = y * (T - redV T S x) / (S - x) := by
      rw [redV, if_neg (by omega), if_neg hy2, red_in]
    have hc : redV T S (x + y) = (x + y) * T / S := by
      unfold redV; rw [if_neg (by omega), if_neg (by omega), red_in]
    rw [hb, hc]
    have hS : 0 < S := by omega
    have haS : redV T S x * S ≤ x * T := by rw [ha]; exact Nat.div_mul_le_self _ _
    generalize redV T S x = a at *
    obtain ⟨D, rfl⟩ : ∃ D, S = x + y + (D + 1) := ⟨S - x - y - 1, by omega⟩
    obtain ⟨R, rfl⟩ : ∃ R, T = a + R := ⟨T - a, by omega⟩
    rw [Nat.add_sub_cancel_left] at *
    rw [show x + y + (D + 1) - x = y + (D + 1) by omega]
    have hbm : y * R / (y + (D + 1)) * (y + (D + 1)) ≤ y * R := Nat.div_mul_le_self _ _
    generalize y * R / (y + (D + 1)) = b at *
    rw [Nat.le_div_iff_mul_le hS]
    generalize D + 1 = E at *
    -- a (x+y+E) ≤ x (a+R), so a (y+E) ≤ x R
    have h1 : a * (y + E) ≤ x * R := by
      have e1 : a * (x + y + E) = x * a + a * (y + E) := by rw [Nat.add_assoc, Nat.mul_add, Nat.mul_comm a x]
      have e2 : x * (a + R) = x * a + x * R := Nat.mul_add ..
      omega
    rcases Nat.eq_zero_or_pos (y + E) with h0 | h0
    · have hy0 : y = 0 := by omega
      have hE0 : E = 0 := by omega
      omega
    apply Nat.le_of_mul_le_mul_right _ h0
    -- (a+b)(x+y+E)(y+E) ≤ (x+y)(a+R)(y+E)
    have h2 : b * (y + E) * (x + y + E) ≤ y * R * (x + y + E) := Nat.mul_le_mul_right _ hbm
    have h3 : a * (y + E) * E ≤ x * R * E := Nat.mul_le_mul_right _ h1
    have l : (a + b) * (x + y + E) * (y + E) = a * (y + E) * (x + y) + a * (y + E) * E + b * (y + E) * (x + y + E) := by
      simp only [Nat.add_mul, Nat.mul_add, Nat.mul_comm, Nat.mul_left_comm, Nat.mul_assoc]
      omega
    have r : (x + y) * (a + R) * (y + E) = a * (y + E) * (x + y) + x * R * E + y * R * (x + y + E) := by
      simp only [Nat.add_mul, Nat.mul_add, Nat.mul_comm, Nat.mul_left_comm, Nat.mul_assoc]
      omega
    rw [l, r]
    omega

theorem cutV_le (n p : Nat) : cutV n p ≤ n := by
  unfold cutV
  apply Nat.div_le_of_le_mul
  rw [Nat.mul_comm]
  exact Nat.mul_le_mul_right n (Nat.min_le_right _ _)
theorem cutV_mono (n : Nat) {p q : Nat} (h : p ≤ q) : cutV n p ≤ cutV n q := by
  unfold cutV
  apply Nat.div_le_div_right
  apply Nat.mul_le_mul_left
  omega
theorem cutV_all (n : Nat) : cutV n 10000 = n := by unfold cutV; rw [Nat.min_self, Nat.mul_div_cancel _ (by decide)]
theorem cutV_zero (n : Nat) : cutV n 0 = 0 := by unfold cutV; simp

theorem redV_mono (T S : Nat) {x y : Nat} (h : x ≤ y) (hy : y ≤ S) : redV T S x ≤ redV T S y := by
  have h0 : ¬ S < x := by omega
  have h0' : ¬ S < y := by omega
  unfold redV
  rw [if_neg h0, if_neg h0']
  by_cases h1 : y = S
  · rw [if_pos h1]
    by_cases h2 : x = S
    · rw [if_pos h2]; exact Nat.le_refl _
    · rw [if_neg h2]; exact red_lt (by omega)
  · have h2 : ¬ x = S := by omega
    rw [if_neg h1, if_neg h2, red_in, red_in]
    exact Nat.div_le_div_right (Nat.mul_le_mul_right T h)
theorem worV_sum (T S : Nat) (xs : List Nat) (h : xs.sum = S) : (xs.map (worV T S)).sum ≤ T * U36 := by
  by_cases hS : S = 0
  · have : ∀ l : List Nat, (l.map (worV T S)).sum = 0 := by
      intro l
      induction l with
      | nil => rfl
      | cons x l ih => rw [List.map_cons, List.sum_cons, ih]; unfold worV; rw [if_pos hS]
    rw [this]; omega
  · have : ∀ l : List Nat, (l.map (worV T S)).sum * S ≤ l.sum * (T * U36) := by
      intro l
      induction l with
      | nil => simp
      | cons x l ih =>
        rw [List.map_cons, List.sum_cons, List.sum_cons, Nat.add_mul, Nat.add_mul]
        have : worV T S x * S ≤ x * (T * U36) := by unfold worV; rw [if_neg hS]; exact Nat.div_mul_le_self _ _
        omega
    have h2 := this xs
    rw [h, Nat.mul_comm S] at h2
    exact Nat.le_of_mul_le_mul_right h2 (by omega)
theorem worV_whole {T S x : Nat} (h : x < S) : worV T S x / U36 = redV T S x := by
  unfold worV redV; rw [if_neg (by omega), if_neg (by omega), if_neg (by omega)]

end Go.Proofs.YtpfhifjkecoahaaGreatDoor
