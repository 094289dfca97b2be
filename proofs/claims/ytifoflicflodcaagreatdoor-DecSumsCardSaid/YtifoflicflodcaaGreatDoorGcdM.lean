/- Greatest common divisors: plain numbers. -/
import Derived.Test.YtifoflicflodcaaGreatDoorDivMod
namespace Go.Proofs.YtifoflicflodcaaGreatDoor

theorem gcd_two_odd {N : Nat} (h : N % 2 = 1) : Nat.gcd 2 N = 1 := by
  rw [Nat.gcd_rec, h]; rfl
theorem gcd_pow_odd {N : Nat} (h : N % 2 = 1) (e M : Nat) : Nat.gcd (2 ^ e * M) N = Nat.gcd M N := by
  have hc : Nat.Coprime (2 ^ e) N := Nat.Coprime.pow_left e (gcd_two_odd h)
  exact Nat.Coprime.gcd_mul_left_cancel M hc
theorem gcd_odd_parts {e f M N : Nat} (hM : M % 2 = 1) (hN : N % 2 = 1) : Nat.gcd (2 ^ e * M) (2 ^ f * N) = 2 ^ min e f * Nat.gcd M N := by
  rcases Nat.le_total e f with h | h
  · obtain ⟨d, rfl⟩ : ∃ d, f = e + d := ⟨f - e, by omega⟩
    rw [Nat.min_eq_left h, Nat.pow_add, Nat.mul_assoc, Nat.gcd_mul_left, Nat.gcd_comm M, gcd_pow_odd hM, Nat.gcd_comm]
  · obtain ⟨d, rfl⟩ : ∃ d, e = f + d := ⟨e - f, by omega⟩
    rw [Nat.min_eq_right h, Nat.pow_add, Nat.mul_assoc, Nat.gcd_mul_left, gcd_pow_odd hN]
theorem gcd_less {M N : Nat} (h : N ≤ M) : Nat.gcd (M - N) N = Nat.gcd M N := by
  have e : M = (M - N) + N := by omega
  rw [e, Nat.gcd_add_self_left, Nat.add_sub_cancel]
theorem gcd_round {M N K e : Nat} (hN : N % 2 = 1) (hlt : N < M) (hK : M - N = 2 ^ e * K) : Nat.gcd K N = Nat.gcd M N := by
  rw [← gcd_less (by omega : N ≤ M), hK, gcd_pow_odd hN]
theorem odd_le {X e M : Nat} (h : X = 2 ^ e * M) : M ≤ X := by
  rw [h]; exact Nat.le_mul_of_pos_left _ (Nat.two_pow_pos e)

theorem B64_pow (k : Nat) : B64 ^ k = 2 ^ (64 * k) := by
  rw [Nat.pow_mul]; rfl
theorem odd_at {us : List Nat} {k u few m : Nat} (hk : k < us.length) (hz : nv B64 (us.take k) = 0) (hu : us.getD k 0 = u) (hm : u = 2 ^ few * (2 * m + 1)) (hf : few < 64) :
    ∃ M, M % 2 = 1 ∧ val (us.drop k) / 2 ^ few = M ∧ val us = 2 ^ (64 * k + few) * M := by
  have e1 := nv_drop_getD B64 us k
  have e2 := nv_take_drop B64 us k (by omega)
  have e3 : B64 = 2 ^ few * (2 * 2 ^ (63 - few)) := by
    rw [← Nat.pow_succ', ← Nat.pow_add, show few + (63 - few + 1) = 64 by omega]; rfl
  obtain ⟨r, hr⟩ : ∃ r, nv B64 (us.drop (k + 1)) = r := ⟨_, rfl⟩
  have e4 : nv B64 (us.drop k) = 2 ^ few * (2 * m + 1 + 2 * (2 ^ (63 - few) * r)) := by
    rw [e1, hr, hu, hm, Nat.mul_add (2 ^ few) (2 * m + 1)]
    congr 1
    conv => lhs; rw [e3]
    rw [Nat.mul_assoc, Nat.mul_assoc]
  refine ⟨2 * m + 1 + 2 * (2 ^ (63 - few) * r), by omega, ?_, ?_⟩
  · unfold val
    rw [e4, Nat.mul_div_cancel_left _ (Nat.two_pow_pos few)]
  · unfold val
    rw [e2, hz, Nat.zero_add, e4, B64_pow, Nat.pow_add, Nat.mul_assoc]
theorem odd_more {us : List Nat} {k : Nat} (_hk : k < us.length) (hz : nv B64 (us.take k) = 0) (hu : us.getD k 0 = 0) (hp : 0 < val us) : nv B64 (us.take (k + 1)) = 0 ∧ k + 1 < us.length := by
  have e := nv_take_succ' B64 us k
  rw [hu, hz, Nat.mul_zero, Nat.add_zero] at e
  refine ⟨e, ?_⟩
  rcases Nat.lt_or_ge (k + 1) us.length with h | h
  · exact h
  · rw [nv_take_of_le B64 us _ h] at e
    unfold val at hp
    omega
theorem val_zeros (z : Nat) (ls : List Nat) : val (List.replicate z 0 ++ ls) = B64 ^ z * val ls := by
  unfold val
  rw [nv_append, List.length_replicate]
  rw [nv_replicate, Nat.zero_add]
theorem gcd_fin {n X : Nat} {ls : List Nat} (h : val ls = X * 2 ^ (n % 64)) : val (List.replicate (n / 64) 0 ++ ls) = 2 ^ n * X := by
  rw [val_zeros, h, B64_pow, Nat.mul_comm X, ← Nat.mul_assoc, ← Nat.pow_add, Nat.div_add_mod]
end Go.Proofs.YtifoflicflodcaaGreatDoor
