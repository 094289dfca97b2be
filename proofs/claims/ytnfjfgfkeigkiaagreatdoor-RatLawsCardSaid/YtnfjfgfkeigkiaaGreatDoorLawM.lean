/- gleanlaw3.RatLaws: its numbers. -/
import Derived.Test.YtnfjfgfkeigkiaaGreatDoorOrdR
namespace Go.Proofs.YtnfjfgfkeigkiaaGreatDoor

/-- The sum's, the product's parts, reduced. -/
def sN (N1 D1 N2 D2 : Nat) : Nat := rN (N1 * D2 + N2 * D1) (D1 * D2)
def sD (N1 D1 N2 D2 : Nat) : Nat := rD (N1 * D2 + N2 * D1) (D1 * D2)
def pN (N1 D1 N2 D2 : Nat) : Nat := rN (N1 * N2) (D1 * D2)
def pD (N1 D1 N2 D2 : Nat) : Nat := rD (N1 * N2) (D1 * D2)
theorem sD_pos {N1 D1 N2 D2 : Nat} (h1 : 0 < D1) (h2 : 0 < D2) : 0 < sD N1 D1 N2 D2 := rD_pos (Nat.mul_pos h1 h2)
theorem pD_pos {N1 D1 N2 D2 : Nat} (h1 : 0 < D1) (h2 : 0 < D2) : 0 < pD N1 D1 N2 D2 := rD_pos (Nat.mul_pos h1 h2)
theorem s_cross (N1 D1 N2 D2 : Nat) : sN N1 D1 N2 D2 * (D1 * D2) = (N1 * D2 + N2 * D1) * sD N1 D1 N2 D2 := r_cross _ _
theorem p_cross (N1 D1 N2 D2 : Nat) : pN N1 D1 N2 D2 * (D1 * D2) = N1 * N2 * pD N1 D1 N2 D2 := r_cross _ _
theorem s_comm (N1 D1 N2 D2 : Nat) : sN N2 D2 N1 D1 = sN N1 D1 N2 D2 ∧ sD N2 D2 N1 D1 = sD N1 D1 N2 D2 := by
  unfold sN sD; rw [Nat.add_comm, Nat.mul_comm D2 D1]; exact ⟨rfl, rfl⟩
theorem p_comm (N1 D1 N2 D2 : Nat) : pN N2 D2 N1 D1 = pN N1 D1 N2 D2 ∧ pD N2 D2 N1 D1 = pD N1 D1 N2 D2 := by
  unfold pN pD; rw [Nat.mul_comm N2, Nat.mul_comm D2 D1]; exact ⟨rfl, rfl⟩
/-- Sums in any order of brackets. -/
theorem s_assoc {N1 D1 N2 D2 N3 D3 : Nat} (h1 : 0 < D1) (h2 : 0 < D2) (h3 : 0 < D3) :
    sN N1 D1 (sN N2 D2 N3 D3) (sD N2 D2 N3 D3) = sN (sN N1 D1 N2 D2) (sD N1 D1 N2 D2) N3 D3 ∧ sD N1 D1 (sN N2 D2 N3 D3) (sD N2 D2 N3 D3) = sD (sN N1 D1 N2 D2) (sD N1 D1 N2 D2) N3 D3 := by
  have c1 := s_cross N1 D1 N2 D2
  have c2 := s_cross N2 D2 N3 D3
  have p1 := sD_pos (N1 := N1) (N2 := N2) h1 h2
  have p2 := sD_pos (N1 := N2) (N2 := N3) h2 h3
  generalize sN N1 D1 N2 D2 = x at *
  generalize sD N1 D1 N2 D2 = y at *
  generalize sN N2 D2 N3 D3 = u at *
  generalize sD N2 D2 N3 D3 = v at *
  unfold sN sD
  refine r_uniq (Nat.mul_pos h1 p2) (Nat.mul_pos p1 h3) ?_
  have k : 0 < D1 * D2 * D3 := Nat.mul_pos (Nat.mul_pos h1 h2) h3
  refine Nat.eq_of_mul_eq_mul_right k ?_
  calc (N1 * v + u * D1) * (y * D3) * (D1 * D2 * D3) = y * D3 * D1 * (N1 * v * D2 * D3 + u * (D2 * D3) * D1) := by grind
    _ = y * D3 * D1 * (N1 * v * D2 * D3 + (N2 * D3 + N3 * D2) * v * D1) := by rw [c2]
    _ = D1 * v * D3 * ((N1 * D2 + N2 * D1) * y * D3 + N3 * y * (D1 * D2)) := by grind
    _ = D1 * v * D3 * (x * (D1 * D2) * D3 + N3 * y * (D1 * D2)) := by rw [← c1]
    _ = (x * D3 + N3 * y) * (D1 * v) * (D1 * D2 * D3) := by grind
/-- A product goes through a sum. -/
theorem p_dist {N1 D1 N2 D2 N3 D3 : Nat} (h1 : 0 < D1) (h2 : 0 < D2) (h3 : 0 < D3) :
    sN (pN N3 D3 N1 D1) (pD N3 D3 N1 D1) (pN N3 D3 N2 D2) (pD N3 D3 N2 D2) = pN N3 D3 (sN N1 D1 N2 D2) (sD N1 D1 N2 D2) ∧ sD (pN N3 D3 N1 D1) (pD N3 D3 N1 D1) (pN N3 D3 N2 D2) (pD N3 D3 N2 D2) = pD N3 D3 (sN N1 D1 N2 D2) (sD N1 D1 N2 D2) := by
  have c1 := s_cross N1 D1 N2 D2
  have c2 := p_cross N3 D3 N1 D1
  have c3 := p_cross N3 D3 N2 D2
  have p1 := sD_pos (N1 := N1) (N2 := N2) h1 h2
  have p2 := pD_pos (N1 := N3) (N2 := N1) h3 h1
  have p3 := pD_pos (N1 := N3) (N2 := N2) h3 h2
  generalize sN N1 D1 N2 D2 = x at *
  generalize sD N1 D1 N2 D2 = y at *
  generalize pN N3 D3 N1 D1 = u at *
  generalize pD N3 D3 N1 D1 = v at *
  generalize pN N3 D3 N2 D2 = s at *
  generalize pD N3 D3 N2 D2 = t at *
  unfold sN sD pN pD
  refine r_uniq (Nat.mul_pos p2 p3) (Nat.mul_pos h3 p1) ?_
  have k : 0 < D3 * (D1 * D2) := Nat.mul_pos h3 (Nat.mul_pos h1 h2)
  refine Nat.eq_of_mul_eq_mul_right k ?_
  calc (u * t + s * v) * (D3 * y) * (D3 * (D1 * D2)) = D3 * y * (u * (D3 * D1) * t * D2 + s * (D3 * D2) * v * D1) := by grind
    _ = D3 * y * (N3 * N1 * v * t * D2 + N3 * N2 * t * v * D1) := by rw [c2, c3]
    _ = D3 * N3 * v * t * ((N1 * D2 + N2 * D1) * y) := by grind
    _ = D3 * N3 * v * t * (x * (D1 * D2)) := by rw [c1]
    _ = N3 * x * (v * t) * (D3 * (D1 * D2)) := by grind
/-- What was added is taken away again. -/
theorem s_back {N1 D1 N2 D2 : Nat} (h1 : 0 < D1) (h2 : 0 < D2) : N2 * sD N1 D1 N2 D2 ≤ sN N1 D1 N2 D2 * D2 ∧
    rN (sN N1 D1 N2 D2 * D2 - N2 * sD N1 D1 N2 D2) (sD N1 D1 N2 D2 * D2) = rN N1 D1 ∧ rD (sN N1 D1 N2 D2 * D2 - N2 * sD N1 D1 N2 D2) (sD N1 D1 N2 D2 * D2) = rD N1 D1 := by
  have c := s_cross N1 D1 N2 D2
  have p := sD_pos (N1 := N1) (N2 := N2) h1 h2
  generalize sN N1 D1 N2 D2 = x at *
  generalize sD N1 D1 N2 D2 = y at *
  have hle : N2 * y ≤ x * D2 := by
    have e : N2 * y * D1 ≤ x * D2 * D1 := by
      calc N2 * y * D1 ≤ N2 * y * D1 + N1 * D2 * y := Nat.le_add_right _ _
        _ = (N1 * D2 + N2 * D1) * y := by grind
        _ = x * (D1 * D2) := c.symm
        _ = x * D2 * D1 := by grind
    exact Nat.le_of_mul_le_mul_right e h1
  refine ⟨hle, ?_⟩
  obtain ⟨z, hz⟩ : ∃ z, x * D2 = N2 * y + z := ⟨x * D2 - N2 * y, by omega⟩
  rw [hz, Nat.add_sub_cancel_left]
  refine r_uniq (Nat.mul_pos p h2) h1 ?_
  grind
/-- What was multiplied is divided again. -/
theorem p_back {N1 D1 N2 D2 : Nat} (h1 : 0 < D1) (h2 : 0 < D2) (h : 0 < N2) :
    rN (pN N1 D1 N2 D2 * D2) (pD N1 D1 N2 D2 * N2) = rN N1 D1 ∧ rD (pN N1 D1 N2 D2 * D2) (pD N1 D1 N2 D2 * N2) = rD N1 D1 := by
  have c := p_cross N1 D1 N2 D2
  have p := pD_pos (N1 := N1) (N2 := N2) h1 h2
  generalize pN N1 D1 N2 D2 = x at *
  generalize pD N1 D1 N2 D2 = y at *
  refine r_uniq (Nat.mul_pos p h) h1 ?_
  grind
theorem own_add (N1 D1 : Nat) : rN (N1 * 1 + 0 * D1) (D1 * 1) = rN N1 D1 ∧ rD (N1 * 1 + 0 * D1) (D1 * 1) = rD N1 D1 := by
  rw [Nat.mul_one, Nat.zero_mul, Nat.add_zero, Nat.mul_one]; exact ⟨rfl, rfl⟩
theorem lim_inj {m n : Nat} (h : lim m = lim n) : m = n := by
  have := congrArg val h
  rwa [val_lim, val_lim] at this
theorem own_eq {N1 D1 N2 D2 : Nat} (h1 : 0 < D1) (h2 : 0 < D2) : decide (lim (rN N1 D1) = lim (rN N2 D2) ∧ lim (rD N1 D1) = lim (rD N2 D2)) = (cmpN (N1 * D2) (N2 * D1) == 0) := by
  rw [Bool.eq_iff_iff, decide_eq_true_iff, beq_iff_eq]
  constructor
  · rintro ⟨e1, e2⟩
    exact cmpN_eq (r_same h1 (lim_inj e1) (lim_inj e2))
  · intro h
    have e : N1 * D2 = N2 * D1 := by
      rcases Nat.lt_trichotomy (N1 * D2) (N2 * D1) with k | k | k
      · rw [cmpN_lt k] at h; exact absurd h (by decide)
      · exact k
      · rw [cmpN_gt k] at h; exact absurd h (by decide)
    have := r_uniq h1 h2 e
    rw [this.1, this.2]; exact ⟨rfl, rfl⟩
theorem sub_zero {N1 D1 N2 D2 : Nat} (h1 : 0 < D1) (h2 : 0 < D2) (hle : N2 * D1 ≤ N1 * D2) :
    (cmpN (N1 * D2) (N2 * D1) == 1) = !decide (dN (rN (N1 * D2 - N2 * D1) (D1 * D2)) (rD (N1 * D2 - N2 * D1) (D1 * D2)) = 0) := by
  have c := r_cross (N1 * D2 - N2 * D1) (D1 * D2)
  have p := rD_pos (X := N1 * D2 - N2 * D1) (Nat.mul_pos h1 h2)
  have pd := Nat.mul_pos h1 h2
  rw [dN_pos p]
  rcases Nat.lt_or_eq_of_le hle with h | h
  · rw [cmpN_gt h]
    have hz : rN (N1 * D2 - N2 * D1) (D1 * D2) ≠ 0 := by
      intro h0
      rw [h0, Nat.zero_mul] at c
      have : 0 < (N1 * D2 - N2 * D1) * rD (N1 * D2 - N2 * D1) (D1 * D2) := Nat.mul_pos (by omega) p
      omega
    rw [decide_eq_false hz]; rfl
  · rw [cmpN_eq h.symm]
    have hz : rN (N1 * D2 - N2 * D1) (D1 * D2) = 0 := by
      rw [h, Nat.sub_self]
      unfold rN
      rw [Nat.zero_div]
    rw [decide_eq_true hz]; rfl
end Go.Proofs.YtnfjfgfkeigkiaaGreatDoor
