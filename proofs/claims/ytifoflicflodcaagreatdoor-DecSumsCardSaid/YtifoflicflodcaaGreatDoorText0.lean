/- Decimal digits in groups of nineteen: plain. -/
import Derived.Test.YtifoflicflodcaaGreatDoorFmt
namespace Go.Proofs.YtifoflicflodcaaGreatDoor
open Go.RowKit Go.Lib

/-- k digits of a number, noughts ahead. -/
def padk : Nat → Nat → List UInt8
  | 0, _ => []
  | k + 1, n => padk k (n / 10) ++ [UInt8.ofNat (48 + n % 10)]
theorem padk_length : ∀ k n, (padk k n).length = k
  | 0, _ => rfl
  | k + 1, n => by rw [padk, List.length_append, padk_length k]; rfl
theorem padk_zero : ∀ k, padk k 0 = List.replicate k 48
  | 0 => rfl
  | k + 1 => by rw [padk, Nat.zero_div, padk_zero k, List.replicate_succ']; rfl
theorem decDigits_small {n : Nat} (h : n < 10) : decDigits n = [UInt8.ofNat (48 + n)] := by rw [decDigits, dif_pos h]
theorem decDigits_big {n : Nat} (h : ¬ n < 10) : decDigits n = decDigits (n / 10) ++ [UInt8.ofNat (48 + n % 10)] := by
  conv => lhs; rw [decDigits, dif_neg h]
theorem mod_pow_succ_div (n k : Nat) : n % 10 ^ (k + 1) / 10 = n / 10 % 10 ^ k := by
  rw [Nat.pow_succ', Nat.mod_mul_right_div_self]
theorem mod_pow_succ_mod (n k : Nat) : n % 10 ^ (k + 1) % 10 = n % 10 := by
  rw [Nat.pow_succ', Nat.mod_mul_right_mod]
theorem decDigits_split : ∀ (k n : Nat), 10 ^ k ≤ n → decDigits n = decDigits (n / 10 ^ k) ++ padk k (n % 10 ^ k)
  | 0, n, _ => by simp [padk]
  | k + 1, n, h => by
    have hp : 0 < 10 ^ k := Nat.pow_pos (by omega)
    have h10 : ¬ n < 10 := by rw [Nat.pow_succ] at h; omega
    have h1 : 10 ^ k ≤ n / 10 := by rw [Nat.le_div_iff_mul_le (by omega)]; rw [Nat.pow_succ] at h; exact h
    rw [decDigits_big h10, decDigits_split k (n / 10) h1, padk, mod_pow_succ_div, mod_pow_succ_mod, Nat.pow_succ', Nat.div_div_eq_div_mul, List.append_assoc]
theorem nDigits_le {n k : Nat} (hk : 1 ≤ k) (h : n < 10 ^ k) : nDigits n ≤ k := by
  induction k generalizing n with
  | zero => omega
  | succ k ih =>
    by_cases h10 : n < 10
    · rw [nDigits_small h10]; omega
    · rw [nDigits_big h10]
      have hk1 : 1 ≤ k := by
        rcases Nat.eq_zero_or_pos k with rfl | h'
        · simp at h; omega
        · exact h'
      have := ih hk1 (n := n / 10) (by rw [Nat.div_lt_iff_lt_mul (by omega)]; rw [Nat.pow_succ] at h; exact h)
      omega
/-- A group is the digits, with noughts ahead of them. -/
theorem padk_eq : ∀ (k n : Nat), 1 ≤ k → n < 10 ^ k → padk k n = List.replicate (k - nDigits n) 48 ++ decDigits n
  | 0, _, h, _ => by omega
  | k + 1, n, _, h => by
    rw [padk]
    by_cases h10 : n < 10
    · rw [nDigits_small h10, decDigits_small h10, Nat.div_eq_of_lt h10, padk_zero, Nat.mod_eq_of_lt h10]; rfl
    · have hk1 : 1 ≤ k := by
        rcases Nat.eq_zero_or_pos k with rfl | h'
        · simp at h; omega
        · exact h'
      rw [padk_eq k (n / 10) hk1 (by rw [Nat.div_lt_iff_lt_mul (by omega)]; rw [Nat.pow_succ] at h; exact h), nDigits_big h10, decDigits_big h10, ← List.append_assoc, Nat.add_sub_add_right]

/-- Ten to the nineteenth. -/
def P19 : Nat := 10000000000000000000
theorem P19_eq : P19 = 10 ^ 19 := rfl
theorem P19_pos : 0 < P19 := by decide
theorem P19_lt : P19 < B64 := by decide

attribute [irreducible] P19

/-- What the first loop keeps. -/
structure TextInv (V X : Nat) (gs : List (List UInt8)) : Prop where
  eq : decDigits V = decDigits X ++ gs.reverse.flatten
  len : ∀ g ∈ gs, g.length = 19
theorem TextInv.start (V : Nat) : TextInv V V [] := ⟨by simp, by simp⟩
theorem TextInv.step {V X : Nat} {gs : List (List UInt8)} (h : TextInv V X gs) (hx : P19 ≤ X) : TextInv V (X / P19) (gs ++ [padk 19 (X % P19)]) := by
  have hd := decDigits_split 19 X (by rw [← P19_eq]; exact hx)
  have hl := padk_length 19 (X % P19)
  rw [← P19_eq] at hd
  generalize padk 19 (X % P19) = g at *
  refine ⟨?_, ?_⟩
  · rw [h.eq, hd, List.append_assoc, List.reverse_append, List.flatten_append]
    simp
  · intro g' hg
    rcases List.mem_append.1 hg with h' | h'
    · exact h.len g' h'
    · rw [List.mem_singleton.1 h']; exact hl
theorem flatten_len {gs : List (List UInt8)} (h : ∀ g ∈ gs, g.length = 19) : gs.flatten.length = 19 * gs.length := by
  induction gs with
  | nil => rfl
  | cons g gs ih =>
    rw [List.flatten_cons, List.length_append, ih (fun g' h' => h g' (by simp [h'])), h g (by simp), List.length_cons]; omega
theorem TextInv.count {V X : Nat} {gs : List (List UInt8)} (h : TextInv V X gs) : 19 * gs.length + 1 ≤ nDigits V := by
  have := congrArg List.length h.eq
  rw [decDigits_length, List.length_append, decDigits_length, flatten_len (by intro g hg; exact h.len g (List.mem_reverse.1 hg)), List.length_reverse] at this
  have := nDigits_pos X
  omega
theorem nDigits_limbs {V k : Nat} (h : (lim V).length ≤ k) : nDigits V ≤ 20 * k + 1 := by
  refine Nat.le_trans (nDigits_le (k := 20 * k + 1) (by omega) ?_) (Nat.le_refl _)
  refine Nat.lt_of_lt_of_le (lim_lt V) ?_
  calc B64 ^ (lim V).length ≤ B64 ^ k := Nat.pow_le_pow_right B64_pos h
    _ ≤ (10 ^ 20) ^ k := Nat.pow_le_pow_left (by decide) k
    _ = 10 ^ (20 * k) := (Nat.pow_mul ..).symm
    _ ≤ _ := Nat.pow_le_pow_right (by omega) (by omega)

/-- What the second loop keeps. -/
def textOut (X : Nat) (gs : List (List UInt8)) (i : Nat) : List UInt8 := decDigits X ++ (gs.drop i).reverse.flatten
theorem textOut_start (X : Nat) (gs : List (List UInt8)) : textOut X gs gs.length = decDigits X := by simp [textOut]
theorem textOut_step (X : Nat) (gs : List (List UInt8)) (i : Nat) (h : i < gs.length) : textOut X gs (i + 1) ++ gs[i] = textOut X gs i := by
  unfold textOut
  rw [List.drop_eq_getElem_cons h, List.reverse_cons, List.flatten_append, List.append_assoc]
  simp
theorem TextInv.fin {V X : Nat} {gs : List (List UInt8)} (h : TextInv V X gs) : textOut X gs 0 = decDigits V := by rw [h.eq]; rfl
theorem textOut_len {X : Nat} {gs : List (List UInt8)} (h : ∀ g ∈ gs, g.length = 19) (hX : X < B64) (i : Nat) : (textOut X gs i).length ≤ 20 + 19 * gs.length := by
  unfold textOut
  rw [List.length_append, decDigits_length, flatten_len (by intro g hg; exact h g (List.mem_of_mem_drop (List.mem_reverse.1 hg))), List.length_reverse, List.length_drop]
  have := nDigits_le20 X hX
  omega

theorem repeatL_one (c : Nat) : repeatL [48] c = List.replicate c 48 := by
  induction c with
  | zero => rfl
  | succ c ih => rw [repeatL, ih]; rfl
theorem repeat_calls (c : Nat) (hc : c ≤ 1000) (w : World) : Calls Tryz.prog 65 #[.string ⟨#[48]⟩, .int .i64 (c : Int)] w (StrE (List.replicate c 48) w) := by
  by_cases h0 : c = 0
  · subst h0
    refine (Tryz.strings_Repeat_zero ⟨#[48]⟩ w).mono ?_
    rintro e w' ⟨rfl, rfl⟩
    exact ⟨rfl, Ext.refl _⟩
  by_cases h1 : c = 1
  · subst h1
    refine (Tryz.strings_Repeat_one ⟨#[48]⟩ w).mono ?_
    rintro e w' ⟨rfl, rfl⟩
    exact ⟨rfl, Ext.refl _⟩
  · refine (Tryz.strings_Repeat_main ⟨#[48]⟩ c w (by omega) (by omega) (by show 1 * c ≤ _; omega) (by decide)).mono ?_
    rintro e w' ⟨rfl, h⟩
    refine ⟨?_, h⟩
    rw [show (⟨#[48]⟩ : ByteArray).data.toList = [48] from rfl, repeatL_one]

end Go.Proofs.YtifoflicflodcaaGreatDoor
