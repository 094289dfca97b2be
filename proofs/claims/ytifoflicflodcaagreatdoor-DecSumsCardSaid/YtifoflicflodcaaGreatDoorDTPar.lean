/- Decimals: what Text writes is read back; plain. -/
import Derived.Test.YtifoflicflodcaaGreatDoorDParM
import Derived.Test.YtifoflicflodcaaGreatDoorDText
namespace Go.Proofs.YtifoflicflodcaaGreatDoor
open Go.RowKit Go.Lib

/-- What Parse reads. -/
def decRead (l : List UInt8) : Option Nat :=
  if decForm (cut l [46]).1 = false then none
  else if (cut l [46]).2.2 = false then some (dnum (cut l [46]).1 * U36)
  else if decTail (cut l [46]).2.1 = false then none
  else some (dnum (cut l [46]).1 * U36 + dnum (cut l [46]).2.1 * 10 ^ (36 - (cut l [46]).2.1.length))

theorem indexByte_at (c : UInt8) (r : List UInt8) : ∀ d : List UInt8, (∀ x ∈ d, x ≠ c) → indexByte (d ++ c :: r) c = d.length
  | [], _ => by simp [indexByte]
  | x :: d, h => by
    have ih := indexByte_at c r d (fun y hy => h y (List.mem_cons_of_mem _ hy))
    have hx : (x == c) = false := by rw [beq_eq_false_iff_ne]; exact h x List.mem_cons_self
    rw [List.cons_append, indexByte, hx, ih]
    have : ((d.length : Int) == -1) = false := by rw [beq_eq_false_iff_ne]; omega
    rw [this]
    simp
theorem indexByte_no (c : UInt8) : ∀ d : List UInt8, (∀ x ∈ d, x ≠ c) → indexByte d c = -1
  | [], _ => rfl
  | x :: d, h => by
    have ih := indexByte_no c d (fun y hy => h y (List.mem_cons_of_mem _ hy))
    have hx : (x == c) = false := by rw [beq_eq_false_iff_ne]; exact h x List.mem_cons_self
    rw [indexByte, hx, ih]
    rfl
theorem dig_no_point {d : List UInt8} (h : d.all isDig = true) : ∀ x ∈ d, x ≠ 46 := by
  rw [List.all_eq_true] at h
  rintro x hx rfl
  exact absurd (h _ hx) (by decide)
theorem cut_at {d : List UInt8} (h : d.all isDig = true) (r : List UInt8) : cut (d ++ [46] ++ r) [46] = (d, r, true) := by
  have e : d ++ [46] ++ r = d ++ 46 :: r := by simp
  have hi : index (d ++ 46 :: r) [46] = d.length := by rw [index_one]; exact indexByte_at 46 r d (dig_no_point h)
  unfold cut
  rw [e, hi, if_pos (by omega)]
  simp
theorem cut_no {d : List UInt8} (h : d.all isDig = true) : cut d [46] = (d, [], false) := by
  have hi : index d [46] = -1 := by rw [index_one]; exact indexByte_no 46 d (dig_no_point h)
  unfold cut
  rw [hi, if_neg (by omega)]
theorem padk_dig : ∀ (k n : Nat), (padk k n).all isDig = true ∧ (n < 10 ^ k → dnum (padk k n) = n)
  | 0, n => ⟨rfl, fun h => by rw [show padk 0 n = [] from rfl, dnum_nil]; simp at h; omega⟩
  | k + 1, n => by
    obtain ⟨h1, h2⟩ := padk_dig k (n / 10)
    have hm : n % 10 < 10 := Nat.mod_lt _ (by decide)
    have ht : (UInt8.ofNat (48 + n % 10)).toNat = 48 + n % 10 := by rw [UInt8.toNat_ofNat']; omega
    have hd : isDig (UInt8.ofNat (48 + n % 10)) = true := by rw [isDig_iff, ht]; omega
    have e : padk (k + 1) n = padk k (n / 10) ++ [UInt8.ofNat (48 + n % 10)] := rfl
    rw [e]
    refine ⟨by rw [List.all_append, h1, List.all_cons, hd]; rfl, fun h => ?_⟩
    rw [dnum_append, dnum_one, ht, h2 (by rw [Nat.pow_succ] at h; omega)]
    simp only [List.length_singleton]
    omega
theorem trimRight_tail {l : List UInt8} (h : l.length = 36) (hd : l.all isDig = true) (h0 : dnum l ≠ 0) :
    decTail (trimRightB l 48) = true ∧ dnum (trimRightB l 48) * 10 ^ (36 - (trimRightB l 48).length) = dnum l := by
  obtain ⟨t, ht⟩ : ∃ t, l.reverse.dropWhile (· == 48) = t := ⟨_, rfl⟩
  have hsplit : l.reverse = l.reverse.takeWhile (· == 48) ++ t := by rw [← ht]; exact (List.takeWhile_append_dropWhile).symm
  obtain ⟨z, hz⟩ : ∃ z, l.reverse.takeWhile (· == 48) = z := ⟨_, rfl⟩
  rw [hz] at hsplit
  have hzz : z = List.replicate z.length 48 := by
    rw [List.eq_replicate_iff]
    refine ⟨rfl, fun x hx => ?_⟩
    rw [← hz] at hx
    have hall : (l.reverse.takeWhile (· == 48)).all (· == 48) = true := List.all_takeWhile
    rw [List.all_eq_true] at hall
    exact beq_iff_eq.1 (hall x hx)
  have hl : l = t.reverse ++ List.replicate z.length 48 := by
    have := congrArg List.reverse hsplit
    rw [List.reverse_reverse, List.reverse_append] at this
    rw [this]
    congr 1
    rw [hzz]
    simp
  have hb : trimRightB l 48 = t.reverse := by unfold trimRightB; rw [ht]
  rw [hb]
  have hdn : dnum l = dnum t.reverse * 10 ^ z.length := by
    conv => lhs; rw [hl]
    rw [dnum_append, dnum_zeros, List.length_replicate, Nat.add_zero]
  have hlen : t.reverse.length + z.length = 36 := by
    rw [← h, hl]; simp
  have hne : t.reverse ≠ [] := by
    intro h1
    rw [h1, dnum_nil, Nat.zero_mul] at hdn
    exact h0 hdn
  refine ⟨decTail_iff.2 ⟨hne, by omega, ?_, ?_⟩, ?_⟩
  · cases t with
    | nil => simp at hne
    | cons y r =>
      have hy := dropWhile_cons_not _ _ _ _ ht
      rw [List.getLast?_reverse]
      simp only [List.head?_cons]
      intro e
      injection e with e
      subst e
      exact absurd hy (by decide)
  · rw [hl, List.all_append, Bool.and_eq_true] at hd
    exact hd.1
  · rw [hdn, show 36 - t.reverse.length = z.length by omega]
theorem decRead_text (X : Nat) : decRead (decText X) = some X := by
  have hU : 0 < U36 := Nat.pos_of_ne_zero U36_ne
  obtain ⟨s1, s2, s3, -⟩ := decDigits_spec (X / U36)
  have hf := decDigits_form (X / U36)
  have hX := Nat.div_add_mod X U36
  rw [Nat.mul_comm] at hX
  unfold decText
  by_cases h : X % U36 = 0
  · rw [if_pos h]
    unfold decRead
    rw [cut_no s2]
    simp only [hf]
    rw [if_neg (by decide), if_pos trivial, s1]
    rw [h, Nat.add_zero] at hX
    rw [hX]
  · rw [if_neg h]
    have hlt : X % U36 < 10 ^ 36 := Nat.mod_lt _ hU
    obtain ⟨p1, p2⟩ := padk_dig 36 (X % U36)
    obtain ⟨q1, q2⟩ := trimRight_tail (padk_length 36 (X % U36)) p1 (by rw [p2 hlt]; exact h)
    unfold decRead
    rw [cut_at s2]
    simp only [hf, q1]
    rw [if_neg (by decide), if_neg (by decide), if_neg (by decide), s1, q2, p2 hlt, hX]

end Go.Proofs.YtifoflicflodcaaGreatDoor
