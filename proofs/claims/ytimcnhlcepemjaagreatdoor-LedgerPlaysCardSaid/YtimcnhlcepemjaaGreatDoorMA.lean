
/- Numbers as lists of limbs; sums, differences, products, shifts of limbs. -/
import Derived.WalkKit
import Derived.WalkLawsBesides
import Derived.WalkSpells
import Derived.Lib.Hide
import Derived.BigQuiet
import Derived.Deep.QuietTactic
import Derived.Deep.LoopGhost
import Derived.Deep.RegionHeld3
import Derived.Test.YtimcnhlcepemjaaGreatDoorProg
import Derived.Laws.Externs
import Derived.Shelf.Bits.Mul64
import Derived.BigRegion

/- Plain arithmetic of rows of digits to a base: values, trailing noughts, normal rows, order. No program is in sight here. -/
namespace Go.Proofs.YtimcnhlcepemjaaGreatDoor

/-- The value of a row of digits to the base b, the lowest first. -/
def nv (b : Nat) : List Nat → Nat
  | [] => 0
  | x :: xs => x + b * nv b xs

/-- All digits are below b. -/
def Bd (b : Nat) (xs : List Nat) : Prop := ∀ x ∈ xs, x < b

/-- Without the noughts at the end. -/
def trimL : List Nat → List Nat
  | [] => []
  | x :: xs => match trimL xs with
    | [] => if x = 0 then [] else [x]
    | y :: ys => x :: y :: ys

/-- No nought at the end. -/
def Nrm (xs : List Nat) : Prop := xs.getLast? ≠ some 0

theorem Bd.nil (b : Nat) : Bd b [] := by intro x h; cases h
theorem Bd.cons {b x : Nat} {xs : List Nat} (h : x < b) (hs : Bd b xs) : Bd b (x :: xs) := by
  intro y hy; cases hy with
  | head => exact h
  | tail _ hy => exact hs y hy
theorem Bd.head {b x : Nat} {xs : List Nat} (h : Bd b (x :: xs)) : x < b := h x (by simp)
theorem Bd.tail {b x : Nat} {xs : List Nat} (h : Bd b (x :: xs)) : Bd b xs := fun y hy => h y (by simp [hy])
theorem Bd.append {b : Nat} {xs ys : List Nat} (h : Bd b xs) (k : Bd b ys) : Bd b (xs ++ ys) := by
  intro y hy; rcases List.mem_append.1 hy with hy | hy
  · exact h y hy
  · exact k y hy
theorem Bd.take {b : Nat} {xs : List Nat} (h : Bd b xs) (n : Nat) : Bd b (xs.take n) := fun y hy => h y (List.mem_of_mem_take hy)
theorem Bd.drop {b : Nat} {xs : List Nat} (h : Bd b xs) (n : Nat) : Bd b (xs.drop n) := fun y hy => h y (List.mem_of_mem_drop hy)
theorem Bd.set {b : Nat} {xs : List Nat} (h : Bd b xs) (i : Nat) {x : Nat} (hx : x < b) : Bd b (xs.set i x) := by
  intro y hy; rcases List.mem_or_eq_of_mem_set hy with hy | rfl
  · exact h y hy
  · exact hx
theorem Bd.getElem {b : Nat} {xs : List Nat} (h : Bd b xs) (i : Nat) (hi : i < xs.length) : xs[i] < b := h _ (List.getElem_mem hi)
theorem Bd.getD {b : Nat} {xs : List Nat} (h : Bd b xs) (hb : 0 < b) (i : Nat) : xs.getD i 0 < b := by
  by_cases hi : i < xs.length
  · rw [List.getD_eq_getElem?_getD, List.getElem?_eq_getElem hi]; exact h.getElem i hi
  · rw [List.getD_eq_getElem?_getD, List.getElem?_eq_none (by omega)]; exact hb
theorem Bd.replicate {b : Nat} (hb : 0 < b) (n : Nat) : Bd b (List.replicate n 0) := by
  intro y hy; rw [List.eq_of_mem_replicate hy]; exact hb

@[simp] theorem nv_nil (b : Nat) : nv b [] = 0 := rfl
@[simp] theorem nv_cons (b x : Nat) (xs : List Nat) : nv b (x :: xs) = x + b * nv b xs := rfl
theorem nv_append (b : Nat) (xs ys : List Nat) : nv b (xs ++ ys) = nv b xs + b ^ xs.length * nv b ys := by
  induction xs with
  | nil => simp
  | cons x xs ih =>
    simp only [List.cons_append, nv_cons, ih, List.length_cons, Nat.pow_succ, Nat.mul_add, Nat.add_assoc]
    rw [Nat.mul_comm (b ^ xs.length) b, Nat.mul_assoc]
theorem nv_replicate (b n : Nat) : nv b (List.replicate n 0) = 0 := by
  induction n with
  | zero => rfl
  | succ n ih => simp [List.replicate_succ, ih]
theorem nv_lt {b : Nat} {xs : List Nat} (h : Bd b xs) : nv b xs < b ^ xs.length := by
  induction xs with
  | nil => simp
  | cons x xs ih =>
    have h1 := ih h.tail
    have h2 := h.head
    simp only [nv_cons, List.length_cons, Nat.pow_succ]
    have h3 : b * (nv b xs + 1) ≤ b * b ^ xs.length := Nat.mul_le_mul_left b h1
    rw [Nat.mul_add, Nat.mul_one] at h3
    rw [Nat.mul_comm (b ^ xs.length) b]
    omega
theorem nv_take_drop (b : Nat) (xs : List Nat) (n : Nat) (h : n ≤ xs.length) : nv b xs = nv b (xs.take n) + b ^ n * nv b (xs.drop n) := by
  have := nv_append b (xs.take n) (xs.drop n)
  rw [List.take_append_drop, List.length_take, Nat.min_eq_left h] at this
  exact this
theorem nv_take_succ (b : Nat) (xs : List Nat) (i : Nat) (h : i < xs.length) : nv b (xs.take (i + 1)) = nv b (xs.take i) + b ^ i * xs[i] := by
  rw [List.take_succ_eq_append_getElem h, nv_append, List.length_take, Nat.min_eq_left (by omega)]
  simp
theorem nv_set (b : Nat) (xs : List Nat) (i x : Nat) (h : i < xs.length) : nv b (xs.set i x) + b ^ i * xs[i] = nv b xs + b ^ i * x := by
  induction xs generalizing i with
  | nil => simp at h
  | cons y ys ih =>
    cases i with
    | zero => simp; omega
    | succ i =>
      have := ih i (by simpa using h)
      simp only [List.set_cons_succ, nv_cons, List.getElem_cons_succ, Nat.pow_succ]
      rw [Nat.mul_comm (b ^ i) b, Nat.mul_assoc, Nat.mul_assoc]
      have e : b * (nv b (ys.set i x) + b ^ i * ys[i]'(by simpa using h)) = b * (nv b ys + b ^ i * x) := by rw [this]
      rw [Nat.mul_add, Nat.mul_add] at e
      omega

theorem digit_eq {b x y m n : Nat} (hx : x < b) (hy : y < b) (h : x + b * m = y + b * n) : x = y ∧ m = n := by
  have h1 : (x + b * m) % b = x := by rw [Nat.add_mul_mod_self_left]; exact Nat.mod_eq_of_lt hx
  have h2 : (y + b * n) % b = y := by rw [Nat.add_mul_mod_self_left]; exact Nat.mod_eq_of_lt hy
  have h3 : x = y := by rw [← h1, ← h2, h]
  subst h3
  have hb : 0 < b := by omega
  exact ⟨rfl, Nat.eq_of_mul_eq_mul_left hb (by omega)⟩

theorem nv_eq_zero {b : Nat} (hb : 0 < b) {xs : List Nat} : nv b xs = 0 ↔ ∀ x ∈ xs, x = 0 := by
  induction xs with
  | nil => simp
  | cons x xs ih =>
    simp only [nv_cons, Nat.add_eq_zero_iff, Nat.mul_eq_zero, List.mem_cons, forall_eq_or_imp, ih]
    constructor
    · rintro ⟨h1, h2 | h2⟩
      · omega
      · exact ⟨h1, h2⟩
    · rintro ⟨h1, h2⟩; exact ⟨h1, .inr h2⟩

theorem trimL_cons_nil {x : Nat} {xs : List Nat} (h : trimL xs = []) : trimL (x :: xs) = if x = 0 then [] else [x] := by simp [trimL, h]
theorem trimL_cons_ne {x : Nat} {xs : List Nat} (h : trimL xs ≠ []) : trimL (x :: xs) = x :: trimL xs := by
  cases e : trimL xs with
  | nil => exact absurd e h
  | cons y ys => simp [trimL, e]

theorem nv_trimL (b : Nat) (xs : List Nat) : nv b (trimL xs) = nv b xs := by
  induction xs with
  | nil => rfl
  | cons x xs ih =>
    by_cases h : trimL xs = []
    · rw [trimL_cons_nil h]
      rw [h] at ih
      simp only [nv_nil] at ih
      split
      · rename_i hx; simp [← ih, hx]
      · simp [← ih]
    · rw [trimL_cons_ne h]; simp [ih]
theorem trimL_mem {x : Nat} {xs : List Nat} (h : x ∈ trimL xs) : x ∈ xs := by
  induction xs with
  | nil => exact h
  | cons y ys ih =>
    by_cases e : trimL ys = []
    · rw [trimL_cons_nil e] at h
      split at h
      · cases h
      · simp at h; simp [h]
    · rw [trimL_cons_ne e] at h
      cases h with
      | head => simp
      | tail _ h => simp [ih h]
theorem Bd.trimL {b : Nat} {xs : List Nat} (h : Bd b xs) : Bd b (trimL xs) := fun x hx => h x (trimL_mem hx)
theorem trimL_nrm (xs : List Nat) : Nrm (trimL xs) := by
  unfold Nrm
  induction xs with
  | nil => simp [trimL]
  | cons x xs ih =>
    by_cases e : trimL xs = []
    · rw [trimL_cons_nil e]
      split
      · simp
      · rename_i h; simpa using h
    · rw [trimL_cons_ne e]
      cases h : trimL xs with
      | nil => exact absurd h e
      | cons y ys => rw [List.getLast?_cons_cons, ← h]; exact ih
theorem trimL_len (xs : List Nat) : (trimL xs).length ≤ xs.length := by
  induction xs with
  | nil => simp [trimL]
  | cons x xs ih =>
    by_cases e : trimL xs = []
    · rw [trimL_cons_nil e]; split <;> simp
    · rw [trimL_cons_ne e]; simpa using ih
theorem Nrm.nil : Nrm [] := by simp [Nrm]
theorem Nrm.tail {x y : Nat} {ys : List Nat} (h : Nrm (x :: y :: ys)) : Nrm (y :: ys) := by unfold Nrm at h ⊢; rwa [List.getLast?_cons_cons] at h
theorem nrm_zero {b : Nat} (hb : 0 < b) {xs : List Nat} (h : Nrm xs) (hz : nv b xs = 0) : xs = [] := by
  have := (nv_eq_zero hb).1 hz
  cases e : xs.getLast? with
  | none => simpa using e
  | some l =>
    exfalso
    have hm : l ∈ xs := List.mem_of_getLast? e
    rw [this l hm] at e
    exact h e
theorem nrm_inj {b : Nat} (hb : 0 < b) {xs ys : List Nat} (hx : Bd b xs) (hy : Bd b ys) (nx : Nrm xs) (ny : Nrm ys) (h : nv b xs = nv b ys) : xs = ys := by
  induction xs generalizing ys with
  | nil => exact (nrm_zero hb ny h.symm).symm
  | cons x xs ih =>
    cases ys with
    | nil => exact nrm_zero hb nx h
    | cons y ys =>
      obtain ⟨rfl, h2⟩ := digit_eq hx.head hy.head h
      have nx' : Nrm xs := by cases xs with
        | nil => exact Nrm.nil
        | cons => exact nx.tail
      have ny' : Nrm ys := by cases ys with
        | nil => exact Nrm.nil
        | cons => exact ny.tail
      rw [ih hx.tail hy.tail nx' ny' h2]

/-- The digits of a number to the base b, by fuel. -/
def digsF (b : Nat) : Nat → Nat → List Nat
  | 0, _ => []
  | f + 1, n => if n = 0 then [] else n % b :: digsF b f (n / b)
/-- The normal row of a number to the base b. -/
def digs (b n : Nat) : List Nat := digsF b n n

theorem nv_digsF {b : Nat} (hb : 2 ≤ b) : ∀ f n, n ≤ f → nv b (digsF b f n) = n
  | 0, n, h => by simp [digsF]; omega
  | f + 1, n, h => by
    unfold digsF
    split
    · rename_i h0; simp [h0]
    · have h1 : n / b < n := Nat.div_lt_self (by omega) hb
      rw [nv_cons, nv_digsF hb f (n / b) (by omega)]
      exact Nat.mod_add_div n b
theorem bd_digsF {b : Nat} (hb : 2 ≤ b) : ∀ f n, Bd b (digsF b f n)
  | 0, n => by simp [digsF]; exact Bd.nil b
  | f + 1, n => by
    unfold digsF
    split
    · exact Bd.nil b
    · exact Bd.cons (Nat.mod_lt _ (by omega)) (bd_digsF hb f _)
theorem nrm_digsF {b : Nat} (hb : 2 ≤ b) : ∀ f n, n ≤ f → Nrm (digsF b f n)
  | 0, n, h => by simp [digsF, Nrm]
  | f + 1, n, h => by
    unfold digsF
    split
    · exact Nrm.nil
    · rename_i h0
      have h1 : n / b < n := Nat.div_lt_self (by omega) hb
      have ih := nrm_digsF hb f (n / b) (by omega)
      have hv := nv_digsF hb f (n / b) (by omega)
      cases e : digsF b f (n / b) with
      | nil =>
        rw [e] at hv
        simp only [nv_nil] at hv
        have : n % b ≠ 0 := by
          intro hm
          have := Nat.mod_add_div n b
          rw [hm, ← hv] at this
          simp at this
          omega
        simpa [Nrm] using this
      | cons y ys =>
        rw [e] at ih
        unfold Nrm at ih ⊢
        rwa [List.getLast?_cons_cons]
theorem nv_digs {b : Nat} (hb : 2 ≤ b) (n : Nat) : nv b (digs b n) = n := nv_digsF hb n n (Nat.le_refl _)
theorem bd_digs {b : Nat} (hb : 2 ≤ b) (n : Nat) : Bd b (digs b n) := bd_digsF hb n n
theorem nrm_digs {b : Nat} (hb : 2 ≤ b) (n : Nat) : Nrm (digs b n) := nrm_digsF hb n n (Nat.le_refl _)
theorem digs_unique {b : Nat} (hb : 2 ≤ b) {xs : List Nat} {n : Nat} (hx : Bd b xs) (nx : Nrm xs) (h : nv b xs = n) : xs = digs b n :=
  nrm_inj (by omega) hx (bd_digs hb n) nx (nrm_digs hb n) (by rw [nv_digs hb, h])
theorem trimL_digs {b : Nat} (hb : 2 ≤ b) {xs : List Nat} (hx : Bd b xs) : trimL xs = digs b (nv b xs) :=
  digs_unique hb hx.trimL (trimL_nrm xs) (nv_trimL b xs)
theorem digs_zero (b : Nat) : digs b 0 = [] := rfl
theorem digs_nil {b : Nat} (hb : 2 ≤ b) {n : Nat} : digs b n = [] ↔ n = 0 :=
  ⟨fun h => by rw [← nv_digs hb n, h]; rfl, fun h => by rw [h]; rfl⟩

/-- A normal row that isn't empty is at least the place of its highest digit. -/
theorem nrm_ge {b : Nat} (_hb : 0 < b) {xs : List Nat} (hn : Nrm xs) (he : xs ≠ []) : b ^ (xs.length - 1) ≤ nv b xs := by
  induction xs with
  | nil => exact absurd rfl he
  | cons x xs ih =>
    cases xs with
    | nil => simp [Nrm] at hn; simp; omega
    | cons y ys =>
      have := ih hn.tail (by simp)
      simp only [List.length_cons, Nat.add_sub_cancel] at this ⊢
      rw [nv_cons, Nat.pow_succ, Nat.mul_comm]
      have := Nat.mul_le_mul_left b this
      omega
theorem digs_len_le {b : Nat} (hb : 2 ≤ b) {n k : Nat} (h : n < b ^ k) : (digs b n).length ≤ k := by
  by_cases he : digs b n = []
  · rw [he]; simp
  · have h1 := nrm_ge (by omega : 0 < b) (nrm_digs hb n) he
    rw [nv_digs hb] at h1
    have h2 : b ^ ((digs b n).length - 1) < b ^ k := by omega
    have := (Nat.pow_lt_pow_iff_right (by omega : 1 < b)).1 h2
    omega
theorem digs_lt_pow {b : Nat} (hb : 2 ≤ b) (n : Nat) : n < b ^ (digs b n).length := by
  have := nv_lt (bd_digs hb n)
  rwa [nv_digs hb] at this
theorem digs_len_mono {b : Nat} (hb : 2 ≤ b) {m n : Nat} (h : m ≤ n) : (digs b m).length ≤ (digs b n).length :=
  digs_len_le hb (Nat.lt_of_le_of_lt h (digs_lt_pow hb n))
theorem digs_len_lt {b : Nat} (hb : 2 ≤ b) {m n : Nat} (h : (digs b m).length < (digs b n).length) : m < n := by
  rcases Nat.lt_or_ge m n with h' | h'
  · exact h'
  · have := digs_len_mono hb h'; omega

/-- Two rows of one length, parted at the highest place where they differ. -/
theorem nv_lt_of_top {b : Nat} {xs ys : List Nat} (hx : Bd b xs) (hl : xs.length = ys.length) (i : Nat) (hi : i < xs.length) (hlt : xs[i] < ys[i]'(hl ▸ hi))
    (htop : xs.drop (i + 1) = ys.drop (i + 1)) : nv b xs < nv b ys := by
  rw [nv_take_drop b xs (i + 1) (by omega), nv_take_drop b ys (i + 1) (by omega), htop, nv_take_succ b xs i hi, nv_take_succ b ys i (by omega)]
  have h1 := nv_lt (hx.take i)
  rw [List.length_take, Nat.min_eq_left (by omega)] at h1
  have h2 : b ^ i * (xs[i] + 1) ≤ b ^ i * ys[i]'(hl ▸ hi) := Nat.mul_le_mul_left _ hlt
  rw [Nat.mul_add, Nat.mul_one] at h2
  omega

/-- Which one is greater: -1, 0, 1. -/
def cmpN (m n : Nat) : Int := if m < n then -1 else if m = n then 0 else 1
theorem cmpN_lt {m n : Nat} (h : m < n) : cmpN m n = -1 := by simp [cmpN, h]
theorem cmpN_eq {m n : Nat} (h : m = n) : cmpN m n = 0 := by simp [cmpN, h]
theorem cmpN_gt {m n : Nat} (h : n < m) : cmpN m n = 1 := by unfold cmpN; rw [if_neg (by omega), if_neg (by omega)]

end Go.Proofs.YtimcnhlcepemjaaGreatDoor

/- Plain arithmetic of rows of digits, more: what the loops of sums, differences, products, short and long quotients and shifts keep. No program is in sight here. -/
namespace Go.Proofs.YtimcnhlcepemjaaGreatDoor

theorem getD_of_lt {xs : List Nat} {i : Nat} (h : i < xs.length) : xs.getD i 0 = xs[i] := by
  rw [List.getD_eq_getElem?_getD, List.getElem?_eq_getElem h]; rfl
theorem getD_of_ge {xs : List Nat} {i : Nat} (h : xs.length ≤ i) : xs.getD i 0 = 0 := by
  rw [List.getD_eq_getElem?_getD, List.getElem?_eq_none h]; rfl

theorem nv_take_succ' (b : Nat) (xs : List Nat) (i : Nat) : nv b (xs.take (i + 1)) = nv b (xs.take i) + b ^ i * xs.getD i 0 := by
  by_cases h : i < xs.length
  · rw [nv_take_succ b xs i h, getD_of_lt h]
  · rw [List.take_of_length_le (by omega), List.take_of_length_le (by omega), getD_of_ge (by omega)]; simp
theorem nv_take_of_le (b : Nat) (xs : List Nat) (i : Nat) (h : xs.length ≤ i) : nv b (xs.take i) = nv b xs := by rw [List.take_of_length_le h]
theorem take_set_self {α : Type} (xs : List α) (i : Nat) (x : α) (h : i < xs.length) : (xs.set i x).take (i + 1) = xs.take i ++ [x] := by
  induction xs generalizing i with
  | nil => simp at h
  | cons y ys ih => cases i with
    | zero => simp
    | succ i => simpa using ih i (by simpa using h)
theorem drop_set_lo {α : Type} (xs : List α) (i j : Nat) (x : α) (h : j < i) : (xs.set j x).drop i = xs.drop i := by
  rw [List.drop_set]; rw [if_pos h]
theorem nv_take_set (b : Nat) (xs : List Nat) (i x : Nat) (h : i < xs.length) : nv b ((xs.set i x).take (i + 1)) = nv b (xs.take i) + b ^ i * x := by
  rw [take_set_self xs i x h, nv_append, List.length_take, Nat.min_eq_left (by omega)]; simp

/-- One round of a sum. -/
theorem add_round {b p A C r c x y s c' : Nat} (h : r + p * c = A + C) (hs : s + b * c' = x + y + c) : r + p * s + p * b * c' = (A + p * x) + (C + p * y) := by
  have e : p * (s + b * c') = p * (x + y + c) := by rw [hs]
  rw [Nat.mul_add, Nat.mul_add, Nat.mul_add, ← Nat.mul_assoc] at e
  omega
/-- One round of a difference. -/
theorem sub_round {b p A C r c x y s c' : Nat} (h : r + C = A + p * c) (hs : s + y + c = x + b * c') : r + p * s + (C + p * y) = (A + p * x) + p * b * c' := by
  have e : p * (s + y + c) = p * (x + b * c') := by rw [hs]
  rw [Nat.mul_add, Nat.mul_add, Nat.mul_add, ← Nat.mul_assoc] at e
  omega
/-- A difference's borrow, in the model's own form. -/
theorem sub64_step {b x y c : Nat} (hx : x < b) (hy : y < b) (hc : c ≤ 1) : (x + b - y - c) % b + y + c = x + b * (if x < y + c then 1 else 0) := by
  by_cases h : x < y + c
  · rw [if_pos h, Nat.mod_eq_of_lt (by omega)]; omega
  · rw [if_neg h]
    have e : x + b - y - c = (x - y - c) + b := by omega
    rw [e, Nat.add_mod_right, Nat.mod_eq_of_lt (by omega)]; omega

/-- A product of two digits and two more fit into two digits. -/
theorem mul_add_add_lt {b x y u v : Nat} (hx : x < b) (hy : y < b) (hu : u < b) (hv : v < b) : x * y + u + v < b * b := by
  have h1 : x * y ≤ (b - 1) * (b - 1) := Nat.mul_le_mul (by omega) (by omega)
  have hb : b = (b - 1) + 1 := by omega
  have h2 : b * b = (b - 1) * (b - 1) + 2 * (b - 1) + 1 := by
    conv => lhs; rw [hb]
    rw [Nat.add_mul, Nat.mul_add]; omega
  omega
theorem mul_add_lt {b x y u : Nat} (hx : x < b) (hy : y < b) (hu : u < b) : x * y + u < b * b := by
  have := mul_add_add_lt hx hy hu (v := 0) (by omega); omega
theorem mul_lt_sq {b x y : Nat} (hx : x < b) (hy : y < b) : x * y < b * b := by
  have := mul_add_add_lt hx hy (u := 0) (v := 0) (by omega) (by omega); omega

/-- Quotient and rest, told by what they make. -/
theorem div_unique {a b q r : Nat} (h : a = b * q + r) (hr : r < b) : q = a / b ∧ r = a % b := by
  subst h
  have hb : 0 < b := by omega
  constructor
  · rw [Nat.mul_add_div hb, Nat.div_eq_of_lt hr]; rfl
  · rw [Nat.mul_add_mod, Nat.mod_eq_of_lt hr]

/-- The highest three digits T of what is left against the two highest V of the divisor bound the digit of the quotient. -/
theorem guess_bounds {P T V a d lo lo' : Nat} (ha : a = T * P + lo) (hlo : lo < P) (hd : d = V * P + lo') (hlo' : lo' < P) (hV : 0 < V) (hq : T / V ≤ V) (hP : 0 < P) :
    a / d ≤ T / V ∧ T / V ≤ a / d + 1 := by
  have hd0 : 0 < d := by
    rw [hd]; have : 0 < V * P := Nat.mul_pos hV hP; omega
  have hTV := Nat.div_add_mod T V
  have hTm := Nat.mod_lt T hV
  have e5 : T / V * V ≤ T := Nat.div_mul_le_self T V
  generalize T / V = Q at *
  generalize T % V = R at *
  constructor
  · have h1 : T + 1 ≤ (Q + 1) * V := by rw [Nat.add_mul, Nat.mul_comm Q V]; omega
    have h2 : (T + 1) * P ≤ (Q + 1) * V * P := Nat.mul_le_mul_right P h1
    have h3 : (Q + 1) * V * P ≤ (Q + 1) * d := by
      rw [Nat.mul_assoc]; exact Nat.mul_le_mul_left _ (by omega)
    rw [Nat.add_mul] at h2
    have h5 : a < (Q + 1) * d := by omega
    have := (Nat.div_lt_iff_lt_mul hd0).2 h5
    omega
  · cases Q with
    | zero => exact Nat.zero_le _
    | succ Q =>
      have h1 : Q * d ≤ a := by
        have e1 : Q * d ≤ Q * (V * P + P) := Nat.mul_le_mul_left _ (by omega)
        have e2 : Q * (V * P + P) = (Q * V + Q) * P := by
          rw [Nat.mul_add, Nat.add_mul, Nat.mul_assoc]
        have e3 : Q * V + Q ≤ T := by
          rw [Nat.add_mul] at e5; omega
        have e6 : (Q * V + Q) * P ≤ T * P := Nat.mul_le_mul_right P e3
        omega
      have := (Nat.le_div_iff_mul_le hd0).2 h1
      omega

end Go.Proofs.YtimcnhlcepemjaaGreatDoor

/- Slices of 64-bit limbs as the walk meets them: what is read, what is owned, what a call leaves as it was. -/
namespace Go.Proofs.YtimcnhlcepemjaaGreatDoor
open Go.RowKit

/-- The base of the limbs. -/
def B64 : Nat := 18446744073709551616
theorem B64_eq : B64 = 18446744073709551616 := rfl
theorem B64_two : 2 ≤ B64 := by decide
theorem B64_pos : 0 < B64 := by decide
def val (xs : List Nat) : Nat := nv B64 xs
def lim (n : Nat) : List Nat := digs B64 n
theorem val_lim (n : Nat) : val (lim n) = n := nv_digs B64_two n
theorem bd_lim (n : Nat) : Bd B64 (lim n) := bd_digs B64_two n
theorem trimL_lim {xs : List Nat} (h : Bd B64 xs) : trimL xs = lim (val xs) := trimL_digs B64_two h
/-- The call returns v, and the world is as it was. -/
def Ret (v : Value) (w : World) (e : Ending) (w' : World) : Prop := e = .returned v ∧ w = w'

/-- The call returns v; at most draws were made. -/
def RetD (v : Value) (w : World) (e : Ending) (w' : World) : Prop := e = .returned v ∧ ∃ m, w' = w.drewN m
theorem Ret.quiet {P : Program} {f : FuncId} {args : Array Value} {w : World} {n : Nat} {v : Value} (h : Calls P f args (w.drewN n) (Ret v (w.drewN n))) :
    Calls P f args (w.drewN n) fun e w'' => e = .returned v ∧ ∃ m, w'' = w.drewN m := h.mono fun _ _ ⟨he, hm⟩ => ⟨he, n, hm.symm⟩
/-- Of what was there nothing has turned. -/
def Ext (w w' : World) : Prop := Below w.heap.size w w'
theorem Ext.refl (w : World) : Ext w w := Below.refl _ _
theorem Ext.trans {a b c : World} (h : Ext a b) (k : Ext b c) : Ext a c := Below.trans h (Below.mono k h.size)
theorem Ext.alloc {a b : World} (h : Ext a b) (o : Obj) : Ext a (b.alloc o) := Below.alloc h h.size o
theorem Ext.drew {a b : World} (h : Ext a b) : Ext a b.drew := Below.drew h
theorem Ext.drewN {a b : World} (h : Ext a b) (n : Nat) : Ext a (b.drewN n) := Below.trans h ⟨rfl, rfl, rfl, Nat.le_refl _, fun _ _ => rfl⟩
theorem Ext.size {a b : World} (h : Ext a b) : a.heap.size ≤ b.heap.size := Below.size h
theorem Ext.grown {a b : World} {row : Option Nat} (h : a.grownBy b row) (hr : ∀ k, row = some k → a.heap.size ≤ k) : Ext a b :=
  Below.grown (Below.refl _ _) h (Nat.le_refl _) hr
theorem Ext.by_ {a b : World} (h : Ext a b) (row : Option Nat) : a.grownBy b row := ⟨h.os, h.tape, h.output, h.size, fun k hk _ => h.block k hk⟩
theorem Ext.cell {a b : World} (h : Ext a b) {p : Addr} {v : Value} (hc : a.cell? p = some v) : b.cell? p = some v := by
  rw [Below.cell h (World.block_lt_of_cell? a p hc)]; exact hc

/-- The slice (a, n, c) of 64-bit numbers reads as xs. -/
structure Sl (w : World) (a : Option Addr) (n c : Nat) (xs : List Nat) : Prop where
  len : xs.length = n
  cap : n ≤ c
  big : c ≤ 9223372036854775807
  bd : Bd B64 xs
  at_ : (n = 0 ∧ c = 0) ∨ ∃ b off, a = some ⟨b, off, none⟩ ∧ ∀ i, i < n → w.cell? ⟨b, off + i, none⟩ = some (.int .u64 (xs.getD i 0))

/-- It lies in a block from B on, which may be written. -/
structure Own (B : Nat) (w : World) (a : Option Addr) (n c : Nat) (xs : List Nat) : Prop where
  sl : Sl w a n c xs
  row : a = none ∨ ∃ b off cur e, a = some ⟨b, off, none⟩ ∧ B ≤ b ∧ w.heap[b]? = some (.cells cur e (0, 0))

/-- The block of a slice. -/
def blk (a : Option Addr) : Option Nat := a.map (·.block)

theorem Sl.nil (w : World) : Sl w none 0 0 [] := ⟨rfl, Nat.le_refl _, by decide, Bd.nil _, .inl ⟨rfl, rfl⟩⟩
theorem Own.nil (B : Nat) (w : World) : Own B w none 0 0 [] := ⟨Sl.nil w, .inl rfl⟩
theorem Sl.none_len {w : World} {n c : Nat} {xs : List Nat} (h : Sl w none n c xs) : n = 0 := by
  rcases h.at_ with ⟨h, _⟩ | ⟨b, off, h, _⟩
  · exact h
  · cases h

theorem Sl.grown {w w' : World} {a : Option Addr} {n c : Nat} {xs : List Nat} {row : Option Nat} (h : Sl w a n c xs) (hg : w.grownBy w' row) (hne : n = 0 ∨ row = none ∨ blk a ≠ row) : Sl w' a n c xs := by
  refine ⟨h.len, h.cap, h.big, h.bd, ?_⟩
  rcases h.at_ with hn | ⟨b, off, rfl, hc⟩
  · exact .inl hn
  · refine .inr ⟨b, off, rfl, fun i hi => hg.cell (hc i hi) ?_⟩
    rcases hne with h0 | h0 | h0
    · omega
    · rw [h0]; simp
    · exact h0
theorem Sl.old {w w' : World} {a : Option Addr} {n c : Nat} {xs : List Nat} (h : Sl w a n c xs) (hg : Ext w w') : Sl w' a n c xs :=
  h.grown (hg.by_ none) (.inr (.inl rfl))
theorem Own.grown {B : Nat} {w w' : World} {a : Option Addr} {n c : Nat} {xs : List Nat} {row : Option Nat} (h : Own B w a n c xs) (hg : w.grownBy w' row) (hne : row = none ∨ blk a ≠ row) : Own B w' a n c xs := by
  refine ⟨h.sl.grown hg (.inr hne), ?_⟩
  rcases h.row with hn | ⟨b, off, cur, e, rfl, hB, hh⟩
  · exact .inl hn
  · refine .inr ⟨b, off, cur, e, rfl, hB, ?_⟩
    rw [hg.block b (Array.getElem?_eq_some_iff.1 hh).1 ?_]
    · exact hh
    · rcases hne with h0 | h0
      · rw [h0]; simp
      · exact h0
theorem Own.old {B : Nat} {w w' : World} {a : Option Addr} {n c : Nat} {xs : List Nat} (h : Own B w a n c xs) (hg : Ext w w') : Own B w' a n c xs :=
  h.grown (hg.by_ none) (.inl rfl)
theorem Own.mono {B B' : Nat} {w : World} {a : Option Addr} {n c : Nat} {xs : List Nat} (h : Own B w a n c xs) (hb : B' ≤ B) : Own B' w a n c xs := by
  refine ⟨h.sl, ?_⟩
  rcases h.row with hn | ⟨b, off, cur, e, ha, hB, hh⟩
  · exact .inl hn
  · exact .inr ⟨b, off, cur, e, ha, Nat.le_trans hb hB, hh⟩
theorem Own.ge {B : Nat} {w : World} {a : Option Addr} {n c : Nat} {xs : List Nat} (h : Own B w a n c xs) : ∀ k, blk a = some k → B ≤ k ∧ k < w.heap.size := by
  intro k hk
  rcases h.row with rfl | ⟨b, off, cur, e, rfl, hB, hh⟩
  · cases hk
  · simp only [blk, Option.map_some, Option.some.injEq] at hk
    subst hk
    exact ⟨hB, (Array.getElem?_eq_some_iff.1 hh).1⟩
/-- The block of what is read lies among those that are there. -/
theorem Sl.lt {w : World} {a : Option Addr} {n c : Nat} {xs : List Nat} (h : Sl w a n c xs) : n = 0 ∨ ∃ k, blk a = some k ∧ k < w.heap.size := by
  rcases h.at_ with ⟨h0, _⟩ | ⟨b, off, rfl, hc⟩
  · exact .inl h0
  · by_cases h0 : n = 0
    · exact .inl h0
    · exact .inr ⟨b, rfl, World.block_lt_of_cell? w _ (hc 0 (by omega))⟩
/-- Cut at its head. -/
theorem Sl.head {w : World} {a : Option Addr} {n c : Nat} {xs : List Nat} (h : Sl w a n c xs) (k d : Nat) (hk : k ≤ n) (hkd : k ≤ d) (hd : d ≤ c) : Sl w a k d (xs.take k) := by
  refine ⟨by rw [List.length_take, h.len]; omega, hkd, Nat.le_trans hd h.big, h.bd.take k, ?_⟩
  rcases h.at_ with ⟨h2, h3⟩ | ⟨b, off, h1, hc⟩
  · exact .inl ⟨by omega, by omega⟩
  · refine .inr ⟨b, off, h1, fun i hi => ?_⟩
    rw [hc i (by omega), List.getD_eq_getElem?_getD, List.getD_eq_getElem?_getD, List.getElem?_take, if_pos hi]
theorem trimL_eq_take (xs : List Nat) : trimL xs = xs.take (trimL xs).length := by
  induction xs with
  | nil => rfl
  | cons x xs ih =>
    by_cases e : trimL xs = []
    · rw [trimL_cons_nil e]; split <;> simp
    · rw [trimL_cons_ne e, List.length_cons, List.take_succ_cons, ← ih]
theorem Sl.trim {w : World} {a : Option Addr} {n c : Nat} {xs : List Nat} (h : Sl w a n c xs) : Sl w a (trimL xs).length (trimL xs).length (trimL xs) := by
  have hl := trimL_len xs
  have := h.head (trimL xs).length (trimL xs).length (by rw [← h.len]; exact hl) (Nat.le_refl _) (by have := h.cap; rw [← h.len] at this; omega)
  rw [← trimL_eq_take] at this
  exact this
theorem Sl.trimmed {w : World} {a : Option Addr} {n c : Nat} {xs : List Nat} (h : Sl w a n c xs) : Sl w a (lim (val xs)).length (lim (val xs)).length (lim (val xs)) := by
  have := h.trim
  rwa [trimL_lim h.bd] at this
theorem Own.trimmed {B : Nat} {w : World} {a : Option Addr} {n c : Nat} {xs : List Nat} (h : Own B w a n c xs) : Own B w a (lim (val xs)).length (lim (val xs)).length (lim (val xs)) :=
  ⟨h.sl.trimmed, h.row⟩
theorem Own.head {B : Nat} {w : World} {a : Option Addr} {n c : Nat} {xs : List Nat} (h : Own B w a n c xs) (k d : Nat) (hk : k ≤ n) (hkd : k ≤ d) (hd : d ≤ c) : Own B w a k d (xs.take k) :=
  ⟨h.sl.head k d hk hkd hd, h.row⟩
theorem Sl.trimmed_len {w : World} {a : Option Addr} {n c : Nat} {xs : List Nat} (h : Sl w a n c xs) : (lim (val xs)).length ≤ n := by
  rw [← h.len, ← trimL_lim h.bd]; exact trimL_len xs

theorem run_sizeOf {P : Program} {E : TypeId} {i : TypeInfo} (hi : P.info? E = some i) (w : World) : (sizeOf E).run P w = .ok i.size w := by
  simp [sizeOf, typeInfo, hi]

/-- What the walk wants of a slice that it indexes: where its places lie, and what they hold. -/
theorem Sl.ix {w : World} {a : Option Addr} {n c : Nat} {xs : List Nat} (h : Sl w a n c xs) {P : Program} {T E : TypeId} {i : TypeInfo}
    (hT : P.underlying T = some (.slice E)) (hi : P.info? E = some i) (hs : i.size = 1) :
    ∃ b off, (∀ k, k < n → ∀ w' : World, (Instr.indexAt T (.slice a n c) (.int .i64 (k : Int))).run P w' = .ok (.pointer (some ⟨b, off + k, none⟩)) w') ∧
      (∀ k, k < n → w.cell? ⟨b, off + k, none⟩ = some (.int .u64 (xs.getD k 0))) ∧ (0 < n → a = some ⟨b, off, none⟩) := by
  rcases h.at_ with ⟨rfl, rfl⟩ | ⟨b, off, rfl, hc⟩
  · exact ⟨0, 0, fun k hk => absurd hk (by omega), fun k hk => absurd hk (by omega), fun h => absurd h (by omega)⟩
  · refine ⟨b, off, fun k hk w' => ?_, hc, fun _ => rfl⟩
    have hr := run_sizeOf hi w'
    rw [hs] at hr
    simp only [Instr.indexAt, Sem.run_bind, run_underlying hT, Result.andThen_ok, asIntOf, Sem.run_pure]
    have h1 : (0 : Int) ≤ (k : Int) ∧ (k : Int) < (n : Int) := ⟨by omega, by omega⟩
    simp [hk, hr, Addr.add]
theorem Own.free {B : Nat} {w : World} {a : Option Addr} {n c : Nat} {xs : List Nat} (h : Own B w a n c xs) {b off : Nat} (ha : a = some ⟨b, off, none⟩) (k : Nat) : w.frozen? ⟨b, k, none⟩ = false := by
  rcases h.row with rfl | ⟨b', off', cur, e, rfl, hB, hh⟩
  · cases ha
  · cases ha
    exact frozen_of_row w b k cur e hh

/-- A store into it. -/
theorem Own.store {B : Nat} {w : World} {a : Option Addr} {n c : Nat} {xs : List Nat} (h : Own B w a n c xs) {b off : Nat} (ha : a = some ⟨b, off, none⟩) (k x : Nat) (hk : k < n) (hx : x < B64) :
    Own B (w.setCell ⟨b, off + k, none⟩ (.int .u64 (x : Int))) a n c (xs.set k x) ∧ w.grownBy (w.setCell ⟨b, off + k, none⟩ (.int .u64 (x : Int))) (blk a) := by
  subst ha
  have hc0 : ∀ i, i < n → w.cell? ⟨b, off + i, none⟩ = some (.int .u64 (xs.getD i 0)) := by
    rcases h.sl.at_ with ⟨h0, _⟩ | ⟨b', off', h0, hc⟩
    · omega
    · cases h0; exact hc
  refine ⟨⟨⟨by rw [List.length_set]; exact h.sl.len, h.sl.cap, h.sl.big, h.sl.bd.set k hx, .inr ⟨b, off, rfl, fun i hi => ?_⟩⟩, ?_⟩,
    ⟨rfl, rfl, rfl, by simp, fun j _ hj => heap_setCell_other w _ j _ (fun e => hj (by simp [blk, e]))⟩⟩
  · by_cases e : i = k
    · subst e
      rw [World.cell?_setCell_same w _ _ (hc0 i hi), List.getD_eq_getElem?_getD, List.getElem?_set_self (by rw [h.sl.len]; exact hi)]; rfl
    · rw [World.cell?_setCell_other w _ _ _ (fun e' => e (by injection e' with e1 e2 e3; omega)), hc0 i hi, List.getD_eq_getElem?_getD, List.getD_eq_getElem?_getD, List.getElem?_set_ne (fun e' => e e'.symm)]
  · rcases h.row with h0 | ⟨b', off', cur, e, h0, hB, hh⟩
    · cases h0
    · cases h0
      exact .inr ⟨b, off, _, e, rfl, hB, heap_setCell_same w b (off + k) cur e _ hh⟩

/-- 'a[:k:k]'. -/
theorem opt_add_zero (a : Option Addr) : a.map (·.add 0) = a := by cases a <;> rfl
theorem slice_head {P : Program} {T E : TypeId} {i : TypeInfo} (hT : P.underlying T = some (.slice E)) (hi : P.info? E = some i) (a : Option Addr) (n c k : Nat) (hk : k ≤ c) (w : World) :
    (Instr.slice T (.slice a n c) none (some (.int .i64 (k : Int))) (some (.int .i64 (k : Int)))).run P w = .ok (.slice a k k) w := by
  have hr := run_sizeOf hi w
  have h1 : (0 : Int) ≤ (k : Int) ∧ (k : Int) ≤ (c : Int) := ⟨by omega, by omega⟩
  simp [Instr.slice, run_underlying hT, Instr.sliceBounds, Instr.sliceBound, asIntOf, hk, hr, opt_add_zero]
theorem sliceAt_head {P : Program} {T E : TypeId} {i : TypeInfo} (hT : P.underlying T = some (.slice E)) (hi : P.info? E = some i) (a : Option Addr) (n c k : Nat) (hk : k ≤ c) (w : World) :
    (Instr.sliceAt T (.slice a n c) none (some (.int .i64 (k : Int))) (some (.int .i64 (k : Int)))).run P w = .ok (.slice a k k) w := by
  have := slice_head (P := P) hT hi a n c k hk w
  simp [Instr.sliceAt, run_underlying hT, this]

theorem oneCell_u64 (ys : List Nat) : ∀ u ∈ ys.map (fun x : Nat => Value.int .u64 (x : Int)), u.oneCell' = true := by
  intro u hu
  obtain ⟨x, _, rfl⟩ := List.mem_map.1 hu
  rfl

/-- A row that the call owns in the library's words, in ours. -/
theorem Own.of_row {B : Nat} {w : World} {e : TypeId} {v : Value} {n : Nat} {xs : List Nat} (h : w.ownsRow B e 1 v n (xs.map fun x : Nat => Value.int .u64 (x : Int))) (hbd : Bd B64 xs) :
    ∃ a c, v = .slice a n c ∧ Own B w a n c xs := by
  have hl : xs.length = n := by have := h.1; simpa using this
  rcases h.2 with ⟨rfl, rfl⟩ | ⟨g, cap, cur, rfl, hb, hg, hnc, hcm, hcs, htake⟩
  · have : xs = [] := List.eq_nil_of_length_eq_zero hl
    subst this
    exact ⟨none, 0, rfl, Own.nil B w⟩
  · refine ⟨some ⟨g, 0, none⟩, cap, rfl, ⟨hl, hnc, by unfold maxLen at hcm; omega, hbd, .inr ⟨g, 0, rfl, fun i hi => ?_⟩⟩, .inr ⟨g, 0, cur, e, rfl, hb, hg⟩⟩
    rw [cell_of_row w g (0 + i) cur e (0, 0) hg, Nat.zero_add]
    have e1 : cur.toList[i]? = (cur.toList.take (n * 1))[i]? := by rw [List.getElem?_take, if_pos (by omega)]
    rw [← Array.getElem?_toList, e1, htake, List.getElem?_map, List.getElem?_eq_getElem (by omega), getD_of_lt (by omega)]
    rfl

/-- 'make([]uint64, n)'. -/
theorem make_sl {P : Program} (w : World) {ops : Array Oper} {rest : List Oper} {o : Oper} {act : Act} {Q : Exit → Act → World → Prop}
    (hg : o.guard = none) (l c : Operand) (t : TypeId) (hop : o.op = Op.makeSlice t l c) (e : TypeId) (i : TypeInfo) (h1 : P.underlying t = some (.slice e)) (h2 : P.info? e = some i)
    (h3 : i.zero = some (.int .u64 0)) (h4 : i.size = 1) (h5 : i.bytes = 8) (L C : Int) (hl : act.eval l = .int .i64 L) (hc : act.eval c = .int .i64 C) (n : Nat) (hL : L = (n : Int)) (hC : C = (n : Int)) (hn : n ≤ 1099511627776)
    (hK : ∀ a w', Own w.heap.size w' a n n (List.replicate n 0) → Ext w w' → wpList P ops Q rest (act.put o.dst (.slice a n n)) w') :
    wpList P ops Q (o :: rest) act w := by
  refine wpList_make_full w hg l c t hop w.heap.size e i (.int .u64 0) 1 h1 h2 h3 h4 .i64 .i64 L C n hl hc hL hC (by rw [h5]; omega) (by unfold maxLen; omega) (Nat.le_refl _) ?_
  intro w' hown hgrow
  have e1 : (madeCells (Value.int .u64 0).cells (n * 1)).toList = (List.replicate n 0).map (fun x : Nat => Value.int .u64 (x : Int)) := by
    show (madeCells #[Value.int .u64 0] (n * 1)).toList = _
    rw [toList_madeCells_one]; simp
  rw [e1] at hown
  obtain ⟨a, c', hv, ho⟩ := Own.of_row hown (Bd.replicate B64_pos n)
  have hv' := hv
  injection hv' with h1 h2 h3
  subst h1 h3
  exact hK _ _ ho (Ext.grown hgrow (fun k h => by cases h))

/-- 'append([]uint64(nil), x...)'. -/
theorem append_nil_sl {P : Program} (w : World) {ops : Array Oper} {rest : List Oper} {o : Oper} {act : Act} {Q : Exit → Act → World → Prop} (hgd : o.guard = none) (s x : Operand) (t : TypeId)
    (ho : o.op = .call { callee := .builtin .append, args := #[s, x], argTypes := #[t, t] }) (e : TypeId) (i : TypeInfo) (h1 : P.underlying t = some (.slice e)) (h2 : P.info? e = some i)
    (h3 : i.zero = some (.int .u64 0)) (h4 : i.size = 1) (h5 : i.bytes = 8) (hs : act.eval s = .slice none 0 0) (a : Option Addr) (n c : Nat) (xs : List Nat) (hx : act.eval x = .slice a n c) (hsl : Sl w a n c xs) (hn : n ≤ 1099511627776)
    (hK : ∀ a' c' w', Own w.heap.size w' a' n c' xs → Ext w w' → wpList P ops Q rest (act.put o.dst (.slice a' n c')) w') :
    wpList P ops Q (o :: rest) act w := by
  cases a with
  | none =>
    obtain rfl : n = 0 := hsl.none_len
    obtain rfl : xs = [] := List.eq_nil_of_length_eq_zero hsl.len
    have hc : c = 0 := by
      rcases hsl.at_ with ⟨_, h⟩ | ⟨b, off, h, _⟩
      · exact h
      · cases h
    subst hc
    refine wpList_plain hgd fun K hK' => ?_
    have hr := run_append_owned_none (P := P) w w.heap.size t o.type e i 1 h1 h2 (.slice none 0 0) 0 [] (World.ownsRow_nil w _ e 1)
    unfold Oper.wp execOp
    simp only [ho, resolve, invoke, builtin, Sem.run_bind, Sem.run_pure, Result.andThen_ok, List.map_toArray, List.map_cons, List.map_nil, hs, hx, hr]
    exact hK' _ _ (hK none 0 w (Own.nil _ w) (Ext.refl w))
  | some ad =>
    have hcells : ∀ (j : Nat) u, (xs.map fun x : Nat => Value.int .u64 (x : Int))[j]? = some u → w.cell? (ad.add j) = some u := by
      intro j u hu
      rw [List.getElem?_map] at hu
      have hj : j < xs.length := by
        rcases Nat.lt_or_ge j xs.length with h | h
        · exact h
        · rw [List.getElem?_eq_none h] at hu; cases hu
      rw [List.getElem?_eq_getElem hj] at hu
      simp only [Option.map_some, Option.some.injEq] at hu
      subst hu
      rcases hsl.at_ with ⟨h, _⟩ | ⟨b, off, h, hc⟩
      · have := hsl.len; omega
      · cases h
        have hadd : (⟨b, off, none⟩ : Addr).add j = ⟨b, off + j, none⟩ := by unfold Addr.add; split <;> simp_all
        rw [hadd, hc j (by rw [← hsl.len]; exact hj), getD_of_lt hj]
    refine wpList_append_own w hgd s x t ho w.heap.size e i (.int .u64 0) 1 8 h1 h2 h3 h4 h5 rfl (by omega) (.slice none 0 0) 0 [] hs (World.ownsRow_nil w _ e 1) ad n c (xs.map fun x : Nat => Value.int .u64 (x : Int)) hx (by simp [hsl.len]) hcells (oneCell_u64 xs) (by unfold maxLen; omega) (by omega) (Nat.le_refl _) ?_
    · intro v' w' hown hgrow _
      simp only [Nat.zero_add, List.nil_append] at hown
      obtain ⟨a', c', rfl, ho'⟩ := Own.of_row hown hsl.bd
      exact hK a' c' w' ho' (Ext.grown hgrow (fun k h => by cases h))

end Go.Proofs.YtimcnhlcepemjaaGreatDoor

/- Contracts of small functions of Go's library: cmp.Compare, math/bits. -/
namespace Go.Proofs.YtimcnhlcepemjaaGreatDoor
open Go.RowKit

theorem info64 : (Tryz.prog.info? 31).map (fun i => (i.zero, i.size, i.bytes)) = some (some (.int .u64 0), 1, 8) := by kernel_rfl

set_option maxHeartbeats 400000 in
theorem cmpInt_calls (m n : Nat) (w : World) : Calls Tryz.prog 105 #[.int .i64 (m : Int), .int .i64 (n : Int)] w (Ret (.int .i64 (cmpN m n)) w) := by
  rcases Nat.lt_trichotomy m n with h | h | h
  · rw [cmpN_lt h]
    go_enter Tryz.func105, Tryz.ntmps105
    go_wp2
    go_ret
    exact ⟨rfl, rfl⟩
  · rw [cmpN_eq h]
    subst h
    go_enter Tryz.func105, Tryz.ntmps105
    go_wp2
    go_ret
    exact ⟨rfl, rfl⟩
  · rw [cmpN_gt h]
    have h' : ¬ m < n := by omega
    go_enter Tryz.func105, Tryz.ntmps105
    go_wp2
    go_ret
    exact ⟨rfl, rfl⟩
set_option maxHeartbeats 400000 in
theorem cmpU64_calls (m n : Nat) (w : World) : Calls Tryz.prog 106 #[.int .u64 (m : Int), .int .u64 (n : Int)] w (Ret (.int .i64 (cmpN m n)) w) := by
  rcases Nat.lt_trichotomy m n with h | h | h
  · rw [cmpN_lt h]
    go_enter Tryz.func106, Tryz.ntmps106
    go_wp2
    go_ret
    exact ⟨rfl, rfl⟩
  · rw [cmpN_eq h]
    subst h
    go_enter Tryz.func106, Tryz.ntmps106
    go_wp2
    go_ret
    exact ⟨rfl, rfl⟩
  · rw [cmpN_gt h]
    have h' : ¬ m < n := by omega
    go_enter Tryz.func106, Tryz.ntmps106
    go_wp2
    go_ret
    exact ⟨rfl, rfl⟩

/-- Sums and differences of limbs with a carry, behind names. -/
def addS (x y c : Nat) : Nat := (x + y + c) % B64
def addC (x y c : Nat) : Nat := (x + y + c) / B64
def subS (x y c : Nat) : Nat := (x + B64 - y - c) % B64
def subC (x y c : Nat) : Nat := if x < y + c then 1 else 0
theorem addS_lt (x y c : Nat) : addS x y c < B64 := Nat.mod_lt _ B64_pos
theorem addS_eq (x y c : Nat) : addS x y c + B64 * addC x y c = x + y + c := Nat.mod_add_div _ _
theorem addC_le {x y c : Nat} (hx : x < B64) (hy : y < B64) (hc : c ≤ 1) : addC x y c ≤ 1 := by
  unfold addC
  apply Nat.le_of_lt_succ
  rw [Nat.div_lt_iff_lt_mul B64_pos]
  omega
theorem subS_lt (x y c : Nat) : subS x y c < B64 := Nat.mod_lt _ B64_pos
theorem subC_le (x y c : Nat) : subC x y c ≤ 1 := by unfold subC; split <;> omega
theorem subS_eq {x y c : Nat} (hx : x < B64) (hy : y < B64) (hc : c ≤ 1) : subS x y c + y + c = x + B64 * subC x y c := sub64_step hx hy hc

theorem add64_run (x y c : Nat) (hc : c ≤ 1) (w : World) :
    (callFunc 101 #[.int .u64 (x : Int), .int .u64 (y : Int), .int .u64 (c : Int)]).run Tryz.prog w =
      .ok (.value (.tuple #[.int .u64 (addS x y c : Nat), .int .u64 (addC x y c : Nat)])) w := by
  rw [run_callFunc_extern Tryz.func101 (by kernel_rfl) (by kernel_rfl) (by kernel_rfl) (e := add64Entry) (by kernel_rfl), run_add64 x y c (by omega) (by omega) (by omega) (by omega)]
  simp only [Result.andThen, addS, addC, B64_eq]
  congr 5 <;> omega
theorem add64_run0 (x y : Nat) (w : World) :
    (callFunc 101 #[.int .u64 (x : Int), .int .u64 (y : Int), .int .u64 0]).run Tryz.prog w =
      .ok (.value (.tuple #[.int .u64 (addS x y 0 : Nat), .int .u64 (addC x y 0 : Nat)])) w := add64_run x y 0 (by omega) w
theorem add64_run1 (x c : Nat) (hc : c ≤ 1) (w : World) :
    (callFunc 101 #[.int .u64 (x : Int), .int .u64 0, .int .u64 (c : Int)]).run Tryz.prog w =
      .ok (.value (.tuple #[.int .u64 (addS x 0 c : Nat), .int .u64 (addC x 0 c : Nat)])) w := add64_run x 0 c hc w

/-- The model's entry for math/bits.Sub64. -/
def sub64Row : Array Value → Sem Value := fun args => do
  let (x, y, b) ← Extern.MathBitsCarry.three "Sub64" args
  pure (Extern.MathBitsCarry.pair ((x + Extern.MathBitsCarry.m64 - y - b) % Extern.MathBitsCarry.m64) (if x < y + b then 1 else 0))
theorem run_sub64Row {P : Program} (x y b : Nat) (hb : b ≤ 1) (w : World) :
    (sub64Row #[.int .u64 (x : Int), .int .u64 (y : Int), .int .u64 (b : Int)]).run P w =
      .ok (.tuple #[.int .u64 (subS x y b : Nat), .int .u64 (subC x y b : Nat)]) w := by
  have : b = 0 ∨ b = 1 := by omega
  rcases this with rfl | rfl <;> rfl
theorem sub64_run (x y c : Nat) (hc : c ≤ 1) (w : World) :
    (callFunc 140 #[.int .u64 (x : Int), .int .u64 (y : Int), .int .u64 (c : Int)]).run Tryz.prog w =
      .ok (.value (.tuple #[.int .u64 (subS x y c : Nat), .int .u64 (subC x y c : Nat)])) w := by
  rw [run_callFunc_extern Tryz.func140 (by kernel_rfl) (by kernel_rfl) (by kernel_rfl) (e := sub64Row) (by kernel_rfl), run_sub64Row x y c hc]
  rfl
theorem sub64_run1 (x c : Nat) (hc : c ≤ 1) (w : World) :
    (callFunc 140 #[.int .u64 (x : Int), .int .u64 0, .int .u64 (c : Int)]).run Tryz.prog w =
      .ok (.value (.tuple #[.int .u64 (subS x 0 c : Nat), .int .u64 (subC x 0 c : Nat)])) w := sub64_run x 0 c hc w

/-- The binary digits of a number. -/
def bitLen (n : Nat) : Nat := if n = 0 then 0 else n.log2 + 1

theorem bitLen_div (n k : Nat) (h : 2 ^ k ≤ n) : bitLen n = k + bitLen (n / 2 ^ k) := by
  have hp : 0 < 2 ^ k := Nat.two_pow_pos k
  have h1 : 0 < n / 2 ^ k := Nat.div_pos h hp
  unfold bitLen
  rw [if_neg (by omega), if_neg (by omega)]
  induction k generalizing n with
  | zero => simp
  | succ k ih =>
    have e : n / 2 ^ (k + 1) = (n / 2) / 2 ^ k := by rw [Nat.pow_succ, Nat.mul_comm, Nat.div_div_eq_div_mul]
    have h2 : 2 ^ k ≤ n / 2 := by rw [Nat.pow_succ] at h; omega
    have hp' : 0 < 2 ^ k := Nat.two_pow_pos k
    have := ih (n / 2) h2 hp' (by rw [← e]; exact h1)
    rw [e]
    rw [Nat.log2_def n, if_pos (by omega)]
    omega
end Go.Proofs.YtimcnhlcepemjaaGreatDoor

/- nat.trim, nat.Norm, nat.Of, nat.Add. -/
namespace Go.Proofs.YtimcnhlcepemjaaGreatDoor
open Go.RowKit

theorem trimL_len_eq (xs : List Nat) (k : Nat) (h1 : (trimL xs).length ≤ k) (hk : k ≤ xs.length) (h : k = 0 ∨ xs.getD (k - 1) 0 ≠ 0) : (trimL xs).length = k := by
  induction xs generalizing k with
  | nil => simp at hk; subst hk; simp [trimL]
  | cons x xs ih =>
    rcases h with h | h
    · omega
    · cases k with
      | zero => simp at h1; simp [h1]
      | succ k =>
        by_cases e : trimL xs = []
        · rw [trimL_cons_nil e] at h1 ⊢
          cases k with
          | zero =>
            simp at h
            rw [if_neg h]; rfl
          | succ k =>
            have h2 := ih (k + 1) (by rw [e]; simp) (by simpa using hk) (.inr (by simpa using h))
            rw [e] at h2; simp at h2
        · rw [trimL_cons_ne e] at h1 ⊢
          have := ih k (by simpa using h1) (by simpa using hk) (by
            cases k with
            | zero => exact .inl rfl
            | succ k => exact .inr (by simpa using h))
          simp [this]

theorem trimL_len_step (xs : List Nat) (k : Nat) (h1 : (trimL xs).length ≤ k + 1) (hk : k < xs.length) (h : xs.getD k 0 = 0) : (trimL xs).length ≤ k := by
  rcases Nat.lt_or_ge k (trimL xs).length with hlt | hge
  · exfalso
    have e : (trimL xs).length = k + 1 := by omega
    induction xs generalizing k with
    | nil => simp at hk
    | cons x xs ih =>
      by_cases e' : trimL xs = []
      · rw [trimL_cons_nil e'] at e
        split at e
        · simp at e
        · simp at e; subst e; rename_i hx; simp at h; exact hx h
      · rw [trimL_cons_ne e'] at e
        cases k with
        | zero => simp at e; exact e' e
        | succ k => 
          exact ih k (by simp at e; omega) (by simpa using hk) (by simpa using h) (by simp at e; omega) (by simp at e; omega)
  · exact hge


set_option maxHeartbeats 400000 in
theorem trim_calls {a : Option Addr} {n c : Nat} {xs : List Nat} {w : World} (h : Sl w a n c xs) :
    Calls Tryz.prog 99 #[.slice a n c] w (Ret (.slice a (trimL xs).length (trimL xs).length) w) := by
  obtain ⟨i0, hi, _, hs, _⟩ := info_parts info64
  obtain ⟨b, off, hix, hcell, -⟩ := h.ix Tryz.underlying33 hi hs
  have hn : n ≤ 9223372036854775807 := Nat.le_trans h.cap h.big
  have hnc := h.cap
  have HL := Lib.hid h.len
  have HC := Lib.hid hcell
  have HX := Lib.hid hix
  have HS := Lib.hid (sliceAt_head (P := Tryz.prog) Tryz.underlying33 hi a n c)
  have HI := Lib.hid hi
  have HH := Lib.hid hs
  clear hix hcell h hi hs
  go_enter Tryz.func99, Tryz.ntmps99
  go_wp2
  go_loop [3] (fun i => ∃ k : Nat, k ≤ n ∧ i = .int .i64 k ∧ (trimL xs).length ≤ k) (fun i => (intOf i).toNat)
  case atStart => exact ⟨n, Nat.le_refl _, rfl, by rw [← HL.out]; exact trimL_len xs⟩
  case round =>
    obtain ⟨k, hk, rfl, ht⟩ := hrel
    have HT := Lib.hid ht
    clear ht
    have hsl := HS.out k (by omega)
    by_cases h0 : k = 0
    · subst h0
      have e := Lib.hid (trimL_len_eq xs 0 HT.out (by omega) (.inl rfl))
      go_wp2
      go_ret
      exact ⟨by rw [e.out]; rfl, rfl⟩
    · have hc1 := HC.out (k - 1) (by omega)
      have hx1 := HX.out (k - 1) (by omega)
      rw [show ((k - 1 : Nat) : Int) = (k : Int) - 1 by omega] at hx1
      have hb1 : 0 < k := by omega
      by_cases hz : xs.getD (k - 1) 0 = 0
      · rw [hz] at hc1
        have HZ := Lib.hid hz
        clear hz
        go_wp2
        go_round
        case rel => exact ⟨k - 1, by omega, by go_num, trimL_len_step xs (k - 1) (by have := HT.out; omega) (by rw [HL.out]; omega) HZ.out⟩
        case measure => simp [intOf]; omega
      · have e := Lib.hid (trimL_len_eq xs k HT.out (by rw [HL.out]; exact hk) (.inr hz))
        have hz' : (((xs.getD (k - 1) 0 : Nat) : Int) == 0) = false := by rw [beq_eq_false_iff_ne]; omega
        clear hz
        generalize xs.getD (k - 1) 0 = z at *
        go_wp2
        go_ret
        exact ⟨by rw [e.out]; rfl, rfl⟩

/-- The call returns a new slice that reads as xs, of at most L limbs; of what was there nothing has turned. -/
def New (w : World) (L : Nat) (xs : List Nat) (e : Ending) (w' : World) : Prop :=
  ∃ a n c, e = .returned (.slice a n c) ∧ Own w.heap.size w' a n c xs ∧ Ext w w' ∧ n ≤ L

theorem trimmed_calls {a : Option Addr} {n c : Nat} {xs : List Nat} {w : World} (h : Sl w a n c xs) :
    Calls Tryz.prog 99 #[.slice a n c] w (Ret (.slice a (lim (val xs)).length (lim (val xs)).length) w) := by
  have := trim_calls h
  rwa [trimL_lim h.bd] at this

theorem sum_of_rounds {os xs ys : List Nat} {c n : Nat} (hx : xs.length = n) (hy : ys.length ≤ n) (hl : os.length = n + 1)
    (h : nv B64 (os.take n) + B64 ^ n * c = nv B64 (xs.take n) + nv B64 (ys.take n)) : val (os.set n c) = val xs + val ys := by
  unfold val
  have e := nv_take_set B64 os n c (by omega)
  rw [List.take_of_length_le (by rw [List.length_set]; omega)] at e
  rw [nv_take_of_le B64 xs n (by omega), nv_take_of_le B64 ys n hy] at h
  omega

/-- What a sum's loop keeps. -/
def AddRel (w : World) (o : Option Addr) (A : Nat) (us vs : List Nat) (cv iv : Value) (wr : World) : Prop :=
  ∃ (k cr : Nat) (os : List Nat), k ≤ A ∧ iv = .int .i64 k ∧ cv = .int .u64 cr ∧ cr ≤ 1 ∧ Own w.heap.size wr o (A + 1) (A + 1) os ∧ Ext w wr ∧
    nv B64 (os.take k) + B64 ^ k * cr = nv B64 (us.take k) + nv B64 (vs.take k)

set_option maxHeartbeats 1000000 in
set_option maxRecDepth 100000 in
theorem add_calls_ge {a b : Option Addr} {m n c d : Nat} {xs ys : List Nat} {w : World} (ha : Sl w a m c xs) (hb : Sl w b n d ys) (hm : m ≤ 1000000000) (hge : (lim (val ys)).length ≤ (lim (val xs)).length) :
    Calls Tryz.prog 70 #[.slice a m c, .slice b n d] w (New w (m + 1) (lim (val xs + val ys))) := by
  obtain ⟨i0, hi, hz0, hs, hby⟩ := info_parts info64
  have ca := trimmed_calls ha
  have cb := trimmed_calls hb
  have ha' := ha.trimmed
  have hb' := hb.trimmed
  have hla := ha.trimmed_len
  have hlb := hb.trimmed_len
  have hva := val_lim (val xs)
  have hvb := val_lim (val ys)
  generalize val xs = X at *
  generalize val ys = Y at *
  generalize lim X = us at *
  generalize lim Y = vs at *
  obtain ⟨A, hA⟩ : ∃ A, us.length = A := ⟨_, rfl⟩
  obtain ⟨E, hE⟩ : ∃ E, vs.length = E := ⟨_, rfl⟩
  rw [hA] at ca ha' hla hge
  rw [hE] at cb hb' hlb hge
  have CA := Lib.hid ca; have CB := Lib.hid cb
  have HA := Lib.hid hA; have HE := Lib.hid hE; have HVA := Lib.hid hva; have HVB := Lib.hid hvb
  have H1 := Lib.hid hi; have H2 := Lib.hid hz0; have H3 := Lib.hid hs; have H4 := Lib.hid hby
  clear ca cb hA hE hva hvb hi hz0 hs hby
  have hge' : ¬ A < E := by omega
  go_enter Tryz.func70, Tryz.ntmps70
  go_wp2_with fail
  refine CA.out.mono ?_
  rintro e w' ⟨rfl, rfl⟩
  go_wp2_with fail
  refine CB.out.mono ?_
  rintro e w' ⟨rfl, rfl⟩
  go_wp2_with (at_make; refine make_sl _ rfl _ _ _ rfl _ _ Tryz.underlying33 H1.out H2.out H3.out H4.out _ _ rfl rfl (A + 1) (by omega) (by omega) (by omega) ?_)
  intro o w1 ho hext
  go_wp2_with fail
  go_loopw [6, 26] (fun cv iv wr => AddRel w o A us vs cv iv wr) (fun _ iv _ => A - (intOf iv).toNat)
  case atStart => exact ⟨0, 0, _, by omega, rfl, rfl, by omega, ho, hext, by simp⟩
  case round =>
    obtain ⟨k, cr, os, hk, rfl, rfl, hcr, hown, hex, hval⟩ := hrel
    have HV := Lib.hid hval
    clear hval
    obtain ⟨bo, oo, hixo, hco, hao⟩ := hown.sl.ix (P := Tryz.prog) Tryz.underlying33 H1.out H3.out
    by_cases hlt : k < A
    · obtain ⟨ba, oa, hixa, hca, -⟩ := (ha'.old hex).ix (P := Tryz.prog) Tryz.underlying33 H1.out H3.out
      have x1 := hixa k hlt
      have x2 := hca k hlt
      have x3 := hixo k (by omega)
      have x5 := hown.free (hao (by omega)) (oo + k)
      have x4 := hco k (by omega)
      have HO := Lib.hid (hao (by omega))
      have q1 := ha'.bd.getD B64_pos k
      have q2 := hb'.bd.getD B64_pos k
      have HTX := Lib.hid (nv_take_succ' B64 us k)
      have HTY := Lib.hid (nv_take_succ' B64 vs k)
      clear hixa hca hixo hco hao
      by_cases hlt2 : k < E
      · obtain ⟨bb, ob, hixb, hcb, -⟩ := (hb'.old hex).ix (P := Tryz.prog) Tryz.underlying33 H1.out H3.out
        have x6 := hixb k hlt2
        have x7 := hcb k hlt2
        clear hixb hcb
        generalize us.getD k 0 = u at *
        generalize vs.getD k 0 = v at *
        generalize os.getD k 0 = z at *
        have x8 := add64_run u v cr hcr
        have hst := hown.store HO.out k (addS u v cr) (by omega) (addS_lt _ _ _)
        have HS := Lib.hid hst
        clear hst
        go_wp2
        go_roundw
        case rel => 
          refine ⟨k + 1, addC u v cr, os.set k (addS u v cr), by omega, by go_num, rfl, addC_le q1 q2 hcr, HS.out.1, ?_, ?_⟩
          · exact Below.grown hex HS.out.2 hex.size (fun j hj => (hown.ge j hj).1)
          · rw [HTX.out, HTY.out, nv_take_set _ _ _ _ (by rw [hown.sl.len]; omega), Nat.pow_succ]
            exact add_round HV.out (addS_eq u v cr)
        case measure => simp [intOf]; omega
      · have HZ := Lib.hid (getD_of_ge (xs := vs) (i := k) (by rw [HE.out]; omega))
        rw [HZ.out] at q2 HTY
        generalize us.getD k 0 = u at *
        generalize os.getD k 0 = z at *
        have x8 := add64_run1 u cr hcr
        have hst := hown.store HO.out k (addS u 0 cr) (by omega) (addS_lt _ _ _)
        have HS := Lib.hid hst
        clear hst
        go_wp2
        go_roundw
        case rel => 
          refine ⟨k + 1, addC u 0 cr, os.set k (addS u 0 cr), by omega, by go_num, rfl, addC_le q1 q2 hcr, HS.out.1, ?_, ?_⟩
          · exact Below.grown hex HS.out.2 hex.size (fun j hj => (hown.ge j hj).1)
          · rw [HTX.out, HTY.out, nv_take_set _ _ _ _ (by rw [hown.sl.len]; omega), Nat.pow_succ]
            exact add_round HV.out (addS_eq u 0 cr)
        case measure => simp [intOf]; omega
    · obtain rfl : k = A := by omega
      have x3 := hixo k (by omega)
      have x4 := hco k (by omega)
      have x5 := hown.free (hao (by omega)) (oo + k)
      have HO := Lib.hid (hao (by omega))
      clear hixo hco hao
      have HW := Lib.hid (sum_of_rounds HA.out (by rw [HE.out]; exact hge) hown.sl.len HV.out)
      generalize os.getD k 0 = z at *
      have HS := Lib.hid (hown.store HO.out k cr (by omega) (by rw [B64_eq]; omega))
      have CT := Lib.hid (trimmed_calls HS.out.1.sl)
      go_wp2_with fail
      refine CT.out.mono ?_
      rintro e w' ⟨rfl, rfl⟩
      go_wp2_with fail
      go_ret
      have hlen := HS.out.1.sl.trimmed_len
      have hfin := HS.out.1.trimmed
      rw [HW.out, HVA.out, HVB.out] at hlen hfin
      refine ⟨o, _, _, ?_, hfin, Below.grown hex HS.out.2 hex.size (fun j hj => (hown.ge j hj).1), by omega⟩
      rw [HW.out, HVA.out, HVB.out]; rfl

set_option maxHeartbeats 1000000 in
set_option maxRecDepth 100000 in
theorem add_calls_lt {a b : Option Addr} {m n c d : Nat} {xs ys : List Nat} {w : World} (ha : Sl w a m c xs) (hb : Sl w b n d ys) (hn : n ≤ 1000000000) (hge : (lim (val xs)).length < (lim (val ys)).length) :
    Calls Tryz.prog 70 #[.slice a m c, .slice b n d] w (New w (n + 1) (lim (val xs + val ys))) := by
  obtain ⟨i0, hi, hz0, hs, hby⟩ := info_parts info64
  have ca := trimmed_calls ha
  have cb := trimmed_calls hb
  have ha' := ha.trimmed
  have hb' := hb.trimmed
  have hla := ha.trimmed_len
  have hlb := hb.trimmed_len
  have hva := val_lim (val xs)
  have hvb := val_lim (val ys)
  generalize val xs = X at *
  generalize val ys = Y at *
  generalize lim X = us at *
  generalize lim Y = vs at *
  obtain ⟨A, hA⟩ : ∃ A, us.length = A := ⟨_, rfl⟩
  obtain ⟨E, hE⟩ : ∃ E, vs.length = E := ⟨_, rfl⟩
  rw [hA] at ca ha' hla hge
  rw [hE] at cb hb' hlb hge
  have CA := Lib.hid ca; have CB := Lib.hid cb
  have HA := Lib.hid hA; have HE := Lib.hid hE; have HVA := Lib.hid hva; have HVB := Lib.hid hvb
  have H1 := Lib.hid hi; have H2 := Lib.hid hz0; have H3 := Lib.hid hs; have H4 := Lib.hid hby
  clear ca cb hA hE hva hvb hi hz0 hs hby
  go_enter Tryz.func70, Tryz.ntmps70
  go_wp2_with fail
  refine CA.out.mono ?_
  rintro e w' ⟨rfl, rfl⟩
  go_wp2_with fail
  refine CB.out.mono ?_
  rintro e w' ⟨rfl, rfl⟩
  go_wp2_with (at_make; refine make_sl _ rfl _ _ _ rfl _ _ Tryz.underlying33 H1.out H2.out H3.out H4.out _ _ rfl rfl (E + 1) (by omega) (by omega) (by omega) ?_)
  intro o w1 ho hext
  go_wp2_with fail
  go_loopw [6, 26] (fun cv iv wr => AddRel w o E vs us cv iv wr) (fun _ iv _ => E - (intOf iv).toNat)
  case atStart => exact ⟨0, 0, _, by omega, rfl, rfl, by omega, ho, hext, by simp⟩
  case round =>
    obtain ⟨k, cr, os, hk, rfl, rfl, hcr, hown, hex, hval⟩ := hrel
    have HV := Lib.hid hval
    clear hval
    obtain ⟨bo, oo, hixo, hco, hao⟩ := hown.sl.ix (P := Tryz.prog) Tryz.underlying33 H1.out H3.out
    by_cases hlt : k < E
    · obtain ⟨ba, oa, hixa, hca, -⟩ := (hb'.old hex).ix (P := Tryz.prog) Tryz.underlying33 H1.out H3.out
      have x1 := hixa k hlt
      have x2 := hca k hlt
      have x3 := hixo k (by omega)
      have x5 := hown.free (hao (by omega)) (oo + k)
      have x4 := hco k (by omega)
      have HO := Lib.hid (hao (by omega))
      have q1 := hb'.bd.getD B64_pos k
      have q2 := ha'.bd.getD B64_pos k
      have HTX := Lib.hid (nv_take_succ' B64 vs k)
      have HTY := Lib.hid (nv_take_succ' B64 us k)
      clear hixa hca hixo hco hao
      by_cases hlt2 : k < A
      · obtain ⟨bb, ob, hixb, hcb, -⟩ := (ha'.old hex).ix (P := Tryz.prog) Tryz.underlying33 H1.out H3.out
        have x6 := hixb k hlt2
        have x7 := hcb k hlt2
        clear hixb hcb
        generalize vs.getD k 0 = u at *
        generalize us.getD k 0 = v at *
        generalize os.getD k 0 = z at *
        have x8 := add64_run u v cr hcr
        have hst := hown.store HO.out k (addS u v cr) (by omega) (addS_lt _ _ _)
        have HS := Lib.hid hst
        clear hst
        go_wp2
        go_roundw
        case rel => 
          refine ⟨k + 1, addC u v cr, os.set k (addS u v cr), by omega, by go_num, rfl, addC_le q1 q2 hcr, HS.out.1, ?_, ?_⟩
          · exact Below.grown hex HS.out.2 hex.size (fun j hj => (hown.ge j hj).1)
          · rw [HTX.out, HTY.out, nv_take_set _ _ _ _ (by rw [hown.sl.len]; omega), Nat.pow_succ]
            exact add_round HV.out (addS_eq u v cr)
        case measure => simp [intOf]; omega
      · have HZ := Lib.hid (getD_of_ge (xs := us) (i := k) (by rw [HA.out]; omega))
        rw [HZ.out] at q2 HTY
        generalize vs.getD k 0 = u at *
        generalize os.getD k 0 = z at *
        have x8 := add64_run1 u cr hcr
        have hst := hown.store HO.out k (addS u 0 cr) (by omega) (addS_lt _ _ _)
        have HS := Lib.hid hst
        clear hst
        go_wp2
        go_roundw
        case rel => 
          refine ⟨k + 1, addC u 0 cr, os.set k (addS u 0 cr), by omega, by go_num, rfl, addC_le q1 q2 hcr, HS.out.1, ?_, ?_⟩
          · exact Below.grown hex HS.out.2 hex.size (fun j hj => (hown.ge j hj).1)
          · rw [HTX.out, HTY.out, nv_take_set _ _ _ _ (by rw [hown.sl.len]; omega), Nat.pow_succ]
            exact add_round HV.out (addS_eq u 0 cr)
        case measure => simp [intOf]; omega
    · obtain rfl : k = E := by omega
      have x3 := hixo k (by omega)
      have x4 := hco k (by omega)
      have x5 := hown.free (hao (by omega)) (oo + k)
      have HO := Lib.hid (hao (by omega))
      clear hixo hco hao
      have HW := Lib.hid (sum_of_rounds HE.out (by rw [HA.out]; omega) hown.sl.len HV.out)
      generalize os.getD k 0 = z at *
      have HS := Lib.hid (hown.store HO.out k cr (by omega) (by rw [B64_eq]; omega))
      have CT := Lib.hid (trimmed_calls HS.out.1.sl)
      go_wp2_with fail
      refine CT.out.mono ?_
      rintro e w' ⟨rfl, rfl⟩
      go_wp2_with fail
      go_ret
      have hlen := HS.out.1.sl.trimmed_len
      have hfin := HS.out.1.trimmed
      rw [HW.out, HVB.out, HVA.out, Nat.add_comm Y X] at hlen hfin
      refine ⟨o, _, _, ?_, hfin, Below.grown hex HS.out.2 hex.size (fun j hj => (hown.ge j hj).1), by omega⟩
      rw [HW.out, HVB.out, HVA.out, Nat.add_comm Y X]; rfl

theorem add_calls {a b : Option Addr} {m n c d : Nat} {xs ys : List Nat} {w : World} (ha : Sl w a m c xs) (hb : Sl w b n d ys) (hm : m ≤ 1000000000) (hn : n ≤ 1000000000) :
    Calls Tryz.prog 70 #[.slice a m c, .slice b n d] w (New w (max m n + 1) (lim (val xs + val ys))) := by
  rcases Nat.lt_or_ge (lim (val xs)).length (lim (val ys)).length with h | h
  · exact (add_calls_lt ha hb hn h).mono fun e w' ⟨a, n, c, h1, h2, h3, h4⟩ => ⟨a, n, c, h1, h2, h3, by omega⟩
  · exact (add_calls_ge ha hb hm h).mono fun e w' ⟨a, n, c, h1, h2, h3, h4⟩ => ⟨a, n, c, h1, h2, h3, by omega⟩

end Go.Proofs.YtimcnhlcepemjaaGreatDoor

/- nat.Norm, nat.Of, nat.Small, nat.Cmp. -/
namespace Go.Proofs.YtimcnhlcepemjaaGreatDoor
open Go.RowKit

theorem lim_eq_of {xs : List Nat} {n : Nat} (hb : Bd B64 xs) (hn : Nrm xs) (h : val xs = n) : lim n = xs := (digs_unique B64_two hb hn h).symm
theorem lim_small {n : Nat} (h0 : 0 < n) (h : n < B64) : lim n = [n] :=
  lim_eq_of (Bd.cons h (Bd.nil _)) (by simp [Nrm]; omega) (by simp [val])
theorem lim_zero : lim 0 = [] := rfl
theorem lim_len_le {n k : Nat} (h : n < B64 ^ k) : (lim n).length ≤ k := digs_len_le B64_two h
theorem lim_lt (n : Nat) : n < B64 ^ (lim n).length := digs_lt_pow B64_two n
theorem lim_len_zero {n : Nat} (h : (lim n).length = 0) : n = 0 := by have := lim_lt n; rw [h] at this; simpa using this
theorem lim_len_one {n : Nat} (h : (lim n).length ≤ 1) : n < B64 := by
  have := lim_lt n
  have h2 : B64 ^ (lim n).length ≤ B64 ^ 1 := Nat.pow_le_pow_right B64_pos h
  rw [Nat.pow_one] at h2
  omega
set_option maxHeartbeats 1000000 in
set_option maxRecDepth 100000 in
theorem norm_calls {a : Option Addr} {n c : Nat} {xs : List Nat} {w : World} (h : Sl w a n c xs) (hn : n ≤ 1000000000) :
    Calls Tryz.prog 81 #[.slice a n c] w (New w n (lim (val xs))) := by
  obtain ⟨i0, hi, hz0, hs, hby⟩ := info_parts info64
  have CT := Lib.hid (trimmed_calls h)
  have hl := h.trimmed_len
  have ht := h.trimmed
  go_enter Tryz.func81, Tryz.ntmps81
  go_wp2_with fail
  refine CT.out.mono ?_
  rintro e w' ⟨rfl, rfl⟩
  go_wp2_with (at_builtin; refine append_nil_sl _ rfl _ _ _ rfl _ _ Tryz.underlying33 hi hz0 hs hby rfl _ _ _ _ rfl ht (by omega) ?_)
  intro a' c' w1 ho hext
  go_wp2_with fail
  go_ret
  exact ⟨a', _, c', rfl, ho, hext, hl⟩

set_option maxHeartbeats 1000000 in
set_option maxRecDepth 100000 in
theorem of_calls (x : Nat) (hx : x < B64) (w : World) :
    Calls Tryz.prog 44 #[.int .u64 (x : Int)] w (New w 1 (lim x)) := by
  by_cases h0 : x = 0
  · subst h0
    go_enter Tryz.func44, Tryz.ntmps44
    go_wp2_with fail
    go_ret
    exact ⟨none, 0, 0, rfl, by rw [lim_zero]; exact Own.nil _ _, Ext.refl _, by omega⟩
  · have h1 : ((x : Int) == 0) = false := by rw [beq_eq_false_iff_ne]; omega
    have HX := Lib.hid hx
    have H0 := Lib.hid h0
    clear hx h0
    go_enter Tryz.func44, Tryz.ntmps44
    go_wp2_with fail
    go_ret
    have hc : (w.alloc (.cells #[.int .u64 (x : Int)] 31 (0, 0))).heap[w.heap.size]? = some (.cells #[.int .u64 (x : Int)] 31 (0, 0)) := heap_alloc_new w _
    rw [lim_small (by have := H0.out; omega) HX.out]
    refine ⟨some ⟨w.heap.size, 0, none⟩, 1, 1, rfl, ⟨⟨rfl, Nat.le_refl _, by decide, Bd.cons HX.out (Bd.nil _), .inr ⟨_, _, rfl, ?_⟩⟩, .inr ⟨_, _, _, _, rfl, Nat.le_refl _, hc⟩⟩, (Ext.refl w).alloc _, Nat.le_refl _⟩
    intro i hi
    obtain rfl : i = 0 := by omega
    rw [cell_of_row _ _ _ _ _ _ hc]; rfl

end Go.Proofs.YtimcnhlcepemjaaGreatDoor

/- nat.Cmp, math/bits.Len64, nat.Bits. -/
namespace Go.Proofs.YtimcnhlcepemjaaGreatDoor
open Go.RowKit

/-- What a comparison's loop keeps: above place k the two are alike. -/
def CmpRel (w : World) (L : Nat) (us vs : List Nat) (iv : Value) (wr : World) : Prop :=
  ∃ k : Nat, k ≤ L ∧ iv = .int .i64 ((k : Int) - 1) ∧ us.drop k = vs.drop k ∧ ∃ m, wr = w.drewN m

theorem cmp_top {us vs : List Nat} {L k : Nat} (hu : us.length = L) (hv : vs.length = L) (bu : Bd B64 us) (bv : Bd B64 vs) (hk : k < L) (hd : us.drop (k + 1) = vs.drop (k + 1)) :
    (us.getD k 0 < vs.getD k 0 → val us < val vs) ∧ (vs.getD k 0 < us.getD k 0 → val vs < val us) ∧ (us.getD k 0 = vs.getD k 0 → us.drop k = vs.drop k) := by
  rw [getD_of_lt (by omega : k < us.length), getD_of_lt (by omega : k < vs.length)]
  refine ⟨fun h => nv_lt_of_top bu (by omega) k (by omega) h hd, fun h => nv_lt_of_top bv (by omega) k (by omega) h hd.symm, fun h => ?_⟩
  rw [List.drop_eq_getElem_cons (by omega : k < us.length), List.drop_eq_getElem_cons (by omega : k < vs.length), h, hd]

set_option maxHeartbeats 1000000 in
set_option maxRecDepth 100000 in
theorem cmp_calls {a b : Option Addr} {m n c d : Nat} {xs ys : List Nat} {w : World} (ha : Sl w a m c xs) (hb : Sl w b n d ys) (hm : m ≤ 1000000000) (_hn : n ≤ 1000000000) :
    Calls Tryz.prog 79 #[.slice a m c, .slice b n d] w (RetD (.int .i64 (cmpN (val xs) (val ys))) w) := by
  obtain ⟨i0, hi, hz0, hs, hby⟩ := info_parts info64
  have ca := trimmed_calls ha
  have cb := trimmed_calls hb
  have ha' := ha.trimmed
  have hb' := hb.trimmed
  have hla := ha.trimmed_len
  have hlb := hb.trimmed_len
  have hva := val_lim (val xs)
  have hvb := val_lim (val ys)
  have hlen1 := @digs_len_lt B64 B64_two (val xs) (val ys)
  have hlen2 := @digs_len_lt B64 B64_two (val ys) (val xs)
  change (lim (val xs)).length < (lim (val ys)).length → val xs < val ys at hlen1
  change (lim (val ys)).length < (lim (val xs)).length → val ys < val xs at hlen2
  generalize val xs = X at *
  generalize val ys = Y at *
  generalize lim X = us at *
  generalize lim Y = vs at *
  obtain ⟨A, hA⟩ : ∃ A, us.length = A := ⟨_, rfl⟩
  obtain ⟨E, hE⟩ : ∃ E, vs.length = E := ⟨_, rfl⟩
  rw [hA] at ca ha' hla hlen1 hlen2
  rw [hE] at cb hb' hlb hlen1 hlen2
  have CA := Lib.hid ca; have CB := Lib.hid cb
  have HA := Lib.hid hA; have HE := Lib.hid hE; have HVA := Lib.hid hva; have HVB := Lib.hid hvb
  have H1 := Lib.hid hi; have H2 := Lib.hid hz0; have H3 := Lib.hid hs; have H4 := Lib.hid hby
  have HL1 := Lib.hid hlen1; have HL2 := Lib.hid hlen2
  clear ca cb hA hE hva hvb hi hz0 hs hby hlen1 hlen2
  rcases Nat.lt_trichotomy A E with h | h | h
  · have HC := Lib.hid (cmpN_lt h)
    have HR := Lib.hid (cmpN_lt (HL1.out h))
    go_enter Tryz.func79, Tryz.ntmps79
    go_wp2_with fail
    refine CA.out.mono ?_
    rintro e w' ⟨rfl, rfl⟩
    go_wp2_with fail
    refine CB.out.mono ?_
    rintro e w' ⟨rfl, rfl⟩
    go_wp2_with fail
    refine (cmpInt_calls _ _ _).mono ?_
    rintro e w' ⟨rfl, rfl⟩
    rw [HC.out]
    go_wp2_with fail
    go_ret
    exact ⟨by rw [HR.out]; rfl, 0, rfl⟩
  · subst h
    have HC := Lib.hid (@cmpN_eq A A rfl)
    go_enter Tryz.func79, Tryz.ntmps79
    go_wp2_with fail
    refine CA.out.mono ?_
    rintro e w' ⟨rfl, rfl⟩
    go_wp2_with fail
    refine CB.out.mono ?_
    rintro e w' ⟨rfl, rfl⟩
    go_wp2_with fail
    refine (cmpInt_calls _ _ _).mono ?_
    rintro e w' ⟨rfl, rfl⟩
    rw [HC.out]
    go_wp2_with fail
    go_loopw [6] (fun iv wr => CmpRel w A us vs iv wr) (fun iv _ => (intOf iv + 1).toNat)
    case atStart => exact ⟨A, Nat.le_refl _, rfl, by rw [List.drop_of_length_le (by rw [HA.out]; omega), List.drop_of_length_le (by rw [HE.out]; omega)], 0, rfl⟩
    case round =>
      obtain ⟨k, hk, rfl, hdr, m0, hwr⟩ := hrel
      have HD := Lib.hid hdr
      have HW := Lib.hid hwr
      have hexr : Ext w wr := by rw [hwr]; exact (Ext.refl w).drewN m0
      clear hdr hwr
      by_cases hk0 : k = 0
      · subst hk0
        have he : us = vs := by have := HD.out; simpa using this
        have HR := Lib.hid (@cmpN_eq X Y (by rw [← HVA.out, ← HVB.out, he]))
        clear he
        go_wp2_with fail
        go_ret
        exact ⟨by rw [HR.out]; rfl, _, HW.out⟩
      · obtain ⟨j, rfl⟩ : ∃ j, k = j + 1 := ⟨k - 1, by omega⟩
        rw [show ((j + 1 : Nat) : Int) - 1 = (j : Int) by omega]
        obtain ⟨ba, oa, hixa, hca, -⟩  := (ha'.old hexr).ix (P := Tryz.prog) Tryz.underlying33 H1.out H3.out
        obtain ⟨bb, ob, hixb, hcb, -⟩  := (hb'.old hexr).ix (P := Tryz.prog) Tryz.underlying33 H1.out H3.out
        have x1 := hixa j (by omega)
        have x2 := hca j (by omega)
        have x3 := hixb j (by omega)
        have x4 := hcb j (by omega)
        have q1 := ha'.bd.getD B64_pos j
        have q2 := hb'.bd.getD B64_pos j
        have HT := Lib.hid (cmp_top HA.out HE.out ha'.bd hb'.bd (by omega) HD.out)
        clear hixa hca hixb hcb hk0
        have hj0 : (0 : Int) ≤ (j : Int) := by omega
        generalize us.getD j 0 = u at *
        generalize vs.getD j 0 = v at *
        rcases Nat.lt_trichotomy u v with h | h | h
        · have HC2 := Lib.hid (cmpN_lt h)
          have HR := Lib.hid (cmpN_lt (HT.out.1 h))
          go_wp2_with fail
          go_quiet ((go_at_call 106; exact Ret.quiet (cmpU64_calls _ _ _)))
          rw [HC2.out]
          go_wp2_with fail
          go_ret
          rw [HVA.out, HVB.out] at HR
          exact ⟨by rw [HR.out]; rfl, _, by rw [HW.out, World.drewN_drewN]⟩
        · subst h
          have HC2 := Lib.hid (@cmpN_eq u u rfl)
          have HN := Lib.hid (HT.out.2.2 rfl)
          go_wp2_with fail
          go_quiet ((go_at_call 106; exact Ret.quiet (cmpU64_calls _ _ _)))
          rw [HC2.out]
          go_wp2_with fail
          go_roundw
          case rel => exact ⟨j, by omega, by go_num, HN.out, _, by rw [HW.out, World.drewN_drewN]⟩
          case measure => simp [intOf]
        · have HC2 := Lib.hid (cmpN_gt h)
          have HR := Lib.hid (cmpN_gt (HT.out.2.1 h))
          go_wp2_with fail
          go_quiet ((go_at_call 106; exact Ret.quiet (cmpU64_calls _ _ _)))
          rw [HC2.out]
          go_wp2_with fail
          go_ret
          rw [HVA.out, HVB.out] at HR
          exact ⟨by rw [HR.out]; rfl, _, by rw [HW.out, World.drewN_drewN]⟩
  · have HC := Lib.hid (cmpN_gt h)
    have HR := Lib.hid (cmpN_gt (HL2.out h))
    go_enter Tryz.func79, Tryz.ntmps79
    go_wp2_with fail
    refine CA.out.mono ?_
    rintro e w' ⟨rfl, rfl⟩
    go_wp2_with fail
    refine CB.out.mono ?_
    rintro e w' ⟨rfl, rfl⟩
    go_wp2_with fail
    refine (cmpInt_calls _ _ _).mono ?_
    rintro e w' ⟨rfl, rfl⟩
    rw [HC.out]
    go_wp2_with fail
    go_ret
    exact ⟨by rw [HR.out]; rfl, 0, rfl⟩

end Go.Proofs.YtimcnhlcepemjaaGreatDoor

/- nat.less, nat.Sub. -/
namespace Go.Proofs.YtimcnhlcepemjaaGreatDoor
open Go.RowKit

/-- What a difference's loop keeps. -/
def LessRel (B : Nat) (w : World) (a : Option Addr) (m c : Nat) (xs ys : List Nat) (cv iv : Value) (wr : World) : Prop :=
  ∃ (k cr : Nat) (os : List Nat), k ≤ m ∧ iv = .int .i64 k ∧ cv = .int .u64 cr ∧ cr ≤ 1 ∧ Own B wr a m c os ∧ w.grownBy wr (blk a) ∧ os.drop k = xs.drop k ∧
    nv B64 (os.take k) + nv B64 (ys.take k) = nv B64 (xs.take k) + B64 ^ k * cr

theorem getD_of_drop {xs ys : List Nat} {k : Nat} (h : xs.drop k = ys.drop k) : xs.getD k 0 = ys.getD k 0 := by
  have := congrArg (fun l => l.getD 0 0) h
  simpa [List.getD_eq_getElem?_getD, List.getElem?_drop] using this
theorem drop_succ_of_drop {xs ys : List Nat} {k : Nat} (h : xs.drop k = ys.drop k) : xs.drop (k + 1) = ys.drop (k + 1) := by
  have := congrArg (List.drop 1) h
  simpa [List.drop_drop] using this

theorem grownBy_trans {a b c : World} {row : Option Nat} (h : a.grownBy b row) (k : b.grownBy c row) : a.grownBy c row :=
  ⟨k.os.trans h.os, k.tape.trans h.tape, k.output.trans h.output, Nat.le_trans h.size k.size, fun j hj hne => (k.block j (Nat.lt_of_lt_of_le hj h.size) hne).trans (h.block j hj hne)⟩
theorem grownBy_refl (w : World) (row : Option Nat) : w.grownBy w row := ⟨rfl, rfl, rfl, Nat.le_refl _, fun _ _ _ => rfl⟩
theorem Ext.grown' {B : Nat} {w wr w1 : World} {a : Option Addr} {n c : Nat} {xs : List Nat} (h : Ext w wr) (hown : Own B wr a n c xs) (hB : w.heap.size ≤ B) (hg : wr.grownBy w1 (blk a)) : Ext w w1 :=
  Below.grown h hg h.size (fun j hj => Nat.le_trans hB (hown.ge j hj).1)

/-- The call leaves in the slice (a, m, c) what reads as os, and turns nothing else. -/
def Left (B : Nat) (w : World) (a : Option Addr) (m c : Nat) (os : List Nat) (e : Ending) (w' : World) : Prop :=
  e = .returned (.tuple #[]) ∧ Own B w' a m c os ∧ w.grownBy w' (blk a)

theorem less_done {xs ys os : List Nat} {m cr : Nat} (hx : xs.length = m) (hy : ys.length ≤ m) (ho : os.length = m) (bo : Bd B64 os) (hcr : cr ≤ 1) (hle : val ys ≤ val xs)
    (h : nv B64 (os.take m) + nv B64 (ys.take m) = nv B64 (xs.take m) + B64 ^ m * cr) : val os = val xs - val ys := by
  rw [nv_take_of_le B64 os m (by omega), nv_take_of_le B64 xs m (by omega), nv_take_of_le B64 ys m hy] at h
  have h1 := nv_lt bo
  rw [ho] at h1
  unfold val at *
  rcases (by omega : cr = 0 ∨ cr = 1) with rfl | rfl
  · omega
  · exfalso; omega

set_option maxHeartbeats 1000000 in
set_option maxRecDepth 100000 in
theorem less_calls {B : Nat} {a b : Option Addr} {m n c d : Nat} {xs ys : List Nat} {w : World} (ha : Own B w a m c xs) (hb : Sl w b n d ys) (hap : n = 0 ∨ blk a = none ∨ blk b ≠ blk a) (hm : m ≤ 1000000000) (hnm : n ≤ m) (hle : val ys ≤ val xs) :
    Calls Tryz.prog 109 #[.slice a m c, .slice b n d] w (fun e w' => ∃ os, val os = val xs - val ys ∧ Left B w a m c os e w') := by
  obtain ⟨i0, hi, hz0, hs, hby⟩ := info_parts info64
  have H1 := Lib.hid hi; have H3 := Lib.hid hs; have HP := Lib.hid hap; have HLE := Lib.hid hle
  have HLX := Lib.hid ha.sl.len; have HLY := Lib.hid hb.len
  have q1 := ha.sl.big
  have q2 := ha.sl.cap
  have q3 := hb.big
  have q4 := hb.cap
  clear hi hz0 hs hby hap hle
  go_enter Tryz.func109, Tryz.ntmps109
  go_wp2_with fail
  go_loopw [4, 9] (fun cv iv wr => LessRel B w a m c xs ys cv iv wr) (fun _ iv _ => m - (intOf iv).toNat)
  case atStart => exact ⟨0, 0, xs, by omega, rfl, rfl, by omega, ha, grownBy_refl _ _, rfl, by simp⟩
  case round =>
    obtain ⟨k, cr, os, hk, rfl, rfl, hcr, hown, hgr, hdr, hval⟩ := hrel
    have HV := Lib.hid hval
    have HD := Lib.hid hdr
    clear hval hdr
    by_cases hlt : k < m
    · obtain ⟨ba, oa, hixa, hca, haa⟩ := hown.sl.ix (P := Tryz.prog) Tryz.underlying33 H1.out H3.out
      have x1 := hixa k hlt
      have x2 := hca k hlt
      have x5 := hown.free (haa (by omega)) (oa + k)
      have HO := Lib.hid (haa (by omega))
      have p1 := hown.sl.bd.getD B64_pos k
      have p2 := hb.bd.getD B64_pos k
      have HTX := Lib.hid (nv_take_succ' B64 xs k)
      have HTY := Lib.hid (nv_take_succ' B64 ys k)
      rw [← getD_of_drop HD.out] at HTX
      clear hixa hca haa
      by_cases hlt2 : k < n
      · obtain ⟨bb, ob, hixb, hcb, -⟩ := (hb.grown hgr HP.out).ix (P := Tryz.prog) Tryz.underlying33 H1.out H3.out
        have x6 := hixb k hlt2
        have x7 := hcb k hlt2
        clear hixb hcb
        generalize os.getD k 0 = u at *
        generalize ys.getD k 0 = v at *
        have x8 := sub64_run u v cr hcr
        have HS := Lib.hid (hown.store HO.out k (subS u v cr) (by omega) (subS_lt _ _ _))
        go_wp2
        go_roundw
        case rel =>
          refine ⟨k + 1, subC u v cr, os.set k (subS u v cr), by omega, by go_num, rfl, subC_le _ _ _, HS.out.1, grownBy_trans hgr HS.out.2, ?_, ?_⟩
          · rw [drop_set_lo _ _ _ _ (by omega)]; exact drop_succ_of_drop HD.out
          · rw [HTX.out, HTY.out, nv_take_set _ _ _ _ (by rw [hown.sl.len]; omega), Nat.pow_succ]
            exact sub_round HV.out (subS_eq p1 p2 hcr)
        case measure => simp [intOf]; omega
      · have HZ := Lib.hid (getD_of_ge (xs := ys) (i := k) (by rw [HLY.out]; omega))
        rw [HZ.out] at p2 HTY
        generalize os.getD k 0 = u at *
        have x8 := sub64_run1 u cr hcr
        have HS := Lib.hid (hown.store HO.out k (subS u 0 cr) (by omega) (subS_lt _ _ _))
        go_wp2
        go_roundw
        case rel =>
          refine ⟨k + 1, subC u 0 cr, os.set k (subS u 0 cr), by omega, by go_num, rfl, subC_le _ _ _, HS.out.1, grownBy_trans hgr HS.out.2, ?_, ?_⟩
          · rw [drop_set_lo _ _ _ _ (by omega)]; exact drop_succ_of_drop HD.out
          · rw [HTX.out, HTY.out, nv_take_set _ _ _ _ (by rw [hown.sl.len]; omega), Nat.pow_succ]
            exact sub_round HV.out (subS_eq p1 p2 hcr)
        case measure => simp [intOf]; omega
    · obtain rfl : k = m := by omega
      have HW := Lib.hid (less_done HLX.out (by rw [HLY.out]; exact hnm) hown.sl.len hown.sl.bd hcr HLE.out HV.out)
      go_wp2_with fail
      go_end0
      exact ⟨os, HW.out, rfl, hown, hgr⟩

/-- Two results: a new number, and an error that is a number. -/
def New2 (w : World) (L : Nat) (xs : List Nat) (er : Int) (e : Ending) (w' : World) : Prop :=
  ∃ a n c, e = .returned (.tuple #[.slice a n c, .int .i64 er]) ∧ Own w.heap.size w' a n c xs ∧ Ext w w' ∧ n ≤ L

end Go.Proofs.YtimcnhlcepemjaaGreatDoor

/- math/bits.Mul64, nat.Mul. -/
namespace Go.Proofs.YtimcnhlcepemjaaGreatDoor
open Go.RowKit

def mulH (x y : Nat) : Nat := x * y / B64
def mulL (x y : Nat) : Nat := x * y % B64
theorem mulL_lt (x y : Nat) : mulL x y < B64 := Nat.mod_lt _ B64_pos
theorem mulH_lt {x y : Nat} (hx : x < B64) (hy : y < B64) : mulH x y < B64 := by
  unfold mulH; rw [Nat.div_lt_iff_lt_mul B64_pos]; exact mul_lt_sq hx hy
theorem mul_eq (x y : Nat) : mulL x y + B64 * mulH x y = x * y := Nat.mod_add_div _ _

set_option maxHeartbeats 1000000 in
set_option maxRecDepth 100000 in
theorem mul64_calls (x y : Nat) (hx : x < B64) (hy : y < B64) (w : World) :
    Calls Tryz.prog 100 #[.int .u64 (x : Int), .int .u64 (y : Int)] w (Ret (.tuple #[.int .u64 (mulH x y : Nat), .int .u64 (mulL x y : Nat)]) w) := by
  unfold mulH mulL
  rw [B64_eq] at *
  obtain ⟨bd, bt, bw, hhi⟩ := Lib.mul64_hi x y hx hy
  have ba := Lib.half_mul_le (a := x / 4294967296) (b := y / 4294967296) (by omega) (by omega)
  have bb := Lib.half_mul_le (a := x / 4294967296) (b := y % 4294967296) (by omega) (by omega)
  have bc := Lib.half_mul_le (a := x % 4294967296) (b := y / 4294967296) (by omega) (by omega)
  have ba' : x / 4294967296 * (y / 4294967296) < 18446744073709551616 := by omega
  have bb' : x / 4294967296 * (y % 4294967296) < 18446744073709551616 := by omega
  have bc' : x % 4294967296 * (y / 4294967296) < 18446744073709551616 := by omega
  have bh1 : x / 4294967296 * (y / 4294967296) + (x / 4294967296 * (y % 4294967296) + x % 4294967296 * (y % 4294967296) / 4294967296) / 4294967296 < 18446744073709551616 := by omega
  have bh : x / 4294967296 * (y / 4294967296) + (x / 4294967296 * (y % 4294967296) + x % 4294967296 * (y % 4294967296) / 4294967296) / 4294967296 + ((x / 4294967296 * (y % 4294967296) + x % 4294967296 * (y % 4294967296) / 4294967296) % 4294967296 + x % 4294967296 * (y / 4294967296)) / 4294967296 < 18446744073709551616 := by omega
  go_enter Tryz.func100, Tryz.ntmps100
  go_wp2
  simp only [Mul64.maskN x hx, Mul64.maskN y hy, Mul64.divN, Mul64.mulN, Mul64.addN, Mul64.wrapN _ bd, Mul64.wrapN _ bb', Mul64.wrapN _ bt, Mul64.maskN _ bt, Mul64.wrapN _ bc', Mul64.wrapN _ bw, Mul64.wrapN _ ba', Mul64.wrapN _ bh1, Mul64.wrapN _ bh, Mul64.wrapM (x * y)]
  rw [hhi]
  go_ret2
  exact ⟨rfl, rfl⟩

/-- What the outer loop of a product keeps. -/
def MulRel (w : World) (o : Option Addr) (A E : Nat) (us vs : List Nat) (iv : Value) (wr : World) : Prop :=
  ∃ (k : Nat) (os : List Nat), k ≤ A ∧ iv = .int .i64 k ∧ Own w.heap.size wr o (A + E) (A + E) os ∧ Ext w wr ∧ nv B64 (os.take (k + E)) = nv B64 (us.take k) * nv B64 vs
/-- What its inner loop keeps. -/
def MulRel2 (w : World) (o : Option Addr) (A E k u : Nat) (vs old : List Nat) (cv jv : Value) (wr : World) : Prop :=
  ∃ (j cr : Nat) (os : List Nat), j ≤ E ∧ jv = .int .i64 j ∧ cv = .int .u64 cr ∧ cr < B64 ∧ Own w.heap.size wr o (A + E) (A + E) os ∧ Ext w wr ∧ os.drop (k + j) = old.drop (k + j) ∧
    nv B64 (os.take (k + j)) + B64 ^ (k + j) * cr = nv B64 (old.take (k + j)) + B64 ^ k * u * nv B64 (vs.take j)

theorem mul_round {b p O q r c o uv s c' : Nat} (h : r + p * c = O + q) (hs : s + b * c' = uv + o + c) : r + p * s + p * b * c' = (O + p * o) + (q + p * uv) := by
  have e : p * (s + b * c') = p * (uv + o + c) := by rw [hs]
  rw [Nat.mul_add, Nat.mul_add, Nat.mul_add, ← Nat.mul_assoc] at e
  omega
theorem mul_step {b k j u V v : Nat} : b ^ k * u * (V + b ^ j * v) = b ^ k * u * V + b ^ (k + j) * (u * v) := by
  rw [Nat.mul_add, Nat.pow_add]
  congr 1
  rw [Nat.mul_assoc, Nat.mul_assoc, Nat.mul_left_comm u]
theorem carry_parts {u v o cr h l s1 c1 s2 c2 : Nat} (hu : u < B64) (hv : v < B64) (ho : o < B64) (hc : cr < B64) (e1 : l + B64 * h = u * v) (e2 : s1 + B64 * c1 = l + o + 0) (e3 : s2 + B64 * c2 = s1 + cr + 0) :
    s2 + B64 * (h + c1 + c2) = u * v + o + cr ∧ h + c1 + c2 < B64 := by
  have h1 : s2 + B64 * (h + c1 + c2) = u * v + o + cr := by rw [Nat.mul_add, Nat.mul_add]; omega
  refine ⟨h1, ?_⟩
  have h2 := mul_add_add_lt hu hv ho hc
  rw [← h1] at h2
  exact Nat.lt_of_mul_lt_mul_left (a := B64) (by omega)
theorem mul_outer {b A E k : Nat} {us vs old os : List Nat} {u cr : Nat} (hu : us.getD k 0 = u) (hvl : vs.length = E) (hol : os.length = A + E) (hk : k < A) (ih : nv b (old.take (k + E)) = nv b (us.take k) * nv b vs)
    (h : nv b (os.take (k + E)) + b ^ (k + E) * cr = nv b (old.take (k + E)) + b ^ k * u * nv b (vs.take E)) :
    nv b ((os.set (k + E) cr).take (k + 1 + E)) = nv b (us.take (k + 1)) * nv b vs := by
  rw [show k + 1 + E = (k + E) + 1 by omega, nv_take_set b os (k + E) cr (by omega), h, ih, nv_take_of_le b vs E (by omega), nv_take_succ', hu, Nat.add_mul]

set_option maxHeartbeats 2000000 in
set_option maxRecDepth 100000 in
theorem mul_calls {a b : Option Addr} {m n c d : Nat} {xs ys : List Nat} {w : World} (ha : Sl w a m c xs) (hb : Sl w b n d ys) (hm : m ≤ 1000000000) (hn : n ≤ 1000000000) :
    Calls Tryz.prog 69 #[.slice a m c, .slice b n d] w (New w (m + n) (lim (val xs * val ys))) := by
  obtain ⟨i0, hi, hz0, hs, hby⟩ := info_parts info64
  have ca := trimmed_calls ha
  have cb := trimmed_calls hb
  have ha' := ha.trimmed
  have hb' := hb.trimmed
  have hla := ha.trimmed_len
  have hlb := hb.trimmed_len
  have hva := val_lim (val xs)
  have hvb := val_lim (val ys)
  generalize val xs = X at *
  generalize val ys = Y at *
  generalize lim X = us at *
  generalize lim Y = vs at *
  obtain ⟨A, hA⟩ : ∃ A, us.length = A := ⟨_, rfl⟩
  obtain ⟨E, hE⟩ : ∃ E, vs.length = E := ⟨_, rfl⟩
  rw [hA] at ca ha' hla
  rw [hE] at cb hb' hlb
  have CA := Lib.hid ca; have CB := Lib.hid cb
  have HA := Lib.hid hA; have HE := Lib.hid hE; have HVA := Lib.hid hva; have HVB := Lib.hid hvb
  have H1 := Lib.hid hi; have H2 := Lib.hid hz0; have H3 := Lib.hid hs; have H4 := Lib.hid hby
  clear ca cb hA hE hva hvb hi hz0 hs hby
  go_enter Tryz.func69, Tryz.ntmps69
  go_wp2_with fail
  refine CA.out.mono ?_
  rintro e w' ⟨rfl, rfl⟩
  go_wp2_with fail
  refine CB.out.mono ?_
  rintro e w' ⟨rfl, rfl⟩
  go_wp2_with (at_make; refine make_sl _ rfl _ _ _ rfl _ _ Tryz.underlying33 H1.out H2.out H3.out H4.out _ _ rfl rfl (A + E) (by omega) (by omega) (by omega) ?_)
  intro o w1 ho hext
  go_wp2_with fail
  go_loopw [24] (fun iv wr => MulRel w o A E us vs iv wr) (fun iv _ => A - (intOf iv).toNat)
  case atStart => exact ⟨0, _, by omega, rfl, ho, hext, by simp [List.take_replicate, nv_replicate]⟩
  case round =>
    obtain ⟨k, old, hk, rfl, hown, hex, hval⟩ := hrel
    have HV := Lib.hid hval
    clear hval
    by_cases hlt : k < A
    · obtain ⟨wo, rfl⟩ : ∃ wo : World, wo = wr := ⟨_, rfl⟩
      have q1 := ha'.bd.getD B64_pos k
      obtain ⟨u, hu⟩ : ∃ u, us.getD k 0 = u := ⟨_, rfl⟩
      rw [hu] at q1
      have HU := Lib.hid hu
      clear hu
      go_wp2_with fail
      go_loopw [7, 29] (fun cv jv wr => MulRel2 w o A E k u vs old cv jv wr) (fun _ jv _ => E - (intOf jv).toNat)
      case atStart => exact ⟨0, 0, old, by omega, rfl, rfl, B64_pos, hown, hex, rfl, by simp⟩
      case round =>
        obtain ⟨j, cr, os, hj, rfl, rfl, hcr, hown2, hex2, hdr, hval2⟩ := hrel
        have HV2 := Lib.hid hval2
        have HD := Lib.hid hdr
        clear hval2 hdr
        by_cases hlt2 : j < E
        · obtain ⟨bo, oo, hixo, hco, hao⟩ := hown2.sl.ix (P := Tryz.prog) Tryz.underlying33 H1.out H3.out
          obtain ⟨ba, oa, hixa, hca, -⟩ := (ha'.old hex2).ix (P := Tryz.prog) Tryz.underlying33 H1.out H3.out
          obtain ⟨bb, ob, hixb, hcb, -⟩ := (hb'.old hex2).ix (P := Tryz.prog) Tryz.underlying33 H1.out H3.out
          have x1 := hixa k hlt
          have x2 := hca k hlt
          rw [HU.out] at x2
          have x3 := hixb j hlt2
          have x4 := hcb j hlt2
          have x5 := hixo (k + j) (by omega)
          rw [show ((k + j : Nat) : Int) = (k : Int) + (j : Int) by omega] at x5
          have x6 := hco (k + j) (by omega)
          have x7 := hown2.free (hao (by omega)) (oo + (k + j))
          have HO := Lib.hid (hao (by omega))
          have p2 := hb'.bd.getD B64_pos j
          have p3 := hown2.sl.bd.getD B64_pos (k + j)
          have HTY := Lib.hid (nv_take_succ' B64 vs j)
          have HTO := Lib.hid (nv_take_succ' B64 old (k + j))
          rw [← getD_of_drop HD.out] at HTO
          clear hixa hca hixb hcb hixo hco hao
          generalize vs.getD j 0 = v at *
          generalize os.getD (k + j) 0 = z at *
          have cm := mul64_calls u v q1 p2
          have e1 := mul_eq u v
          have hl1 := mulL_lt u v
          generalize mulH u v = h at *
          generalize mulL u v = l at *
          have x8 := add64_run0 l z
          have e2 := addS_eq l z 0
          generalize addS l z 0 = s1 at *
          generalize addC l z 0 = c1 at *
          have x9 := add64_run0 s1 cr
          have e3 := addS_eq s1 cr 0
          have hs2 := addS_lt s1 cr 0
          generalize addS s1 cr 0 = s2 at *
          generalize addC s1 cr 0 = c2 at *
          obtain ⟨hsum, hbig⟩ := carry_parts q1 p2 p3 hcr e1 e2 e3
          have hbig2 : h + c1 + c2 < 18446744073709551616 := hbig
          have HSUM := Lib.hid hsum
          have CM := Lib.hid cm
          clear e1 e2 e3 hsum cm
          have HS := Lib.hid (fun n : Nat => (hown2.old ((Ext.refl _).drewN n)).store HO.out (k + j) s2 (by omega) hs2)
          go_wp2_with fail
          go_quiet ((go_at_call 100; exact Ret.quiet (CM.out _)))
          go_wp2_with fail
          go_roundw
          case rel =>
            refine ⟨j + 1, h + c1 + c2, os.set (k + j) s2, by omega, by go_num, rfl, hbig, (HS.out _).1, ?_, ?_, ?_⟩
            · exact (hex2.drewN _).grown' (hown2.old ((Ext.refl _).drewN _)) (Nat.le_refl _) (HS.out _).2
            · rw [← Nat.add_assoc, drop_set_lo _ _ _ _ (by omega)]; exact drop_succ_of_drop HD.out
            · rw [← Nat.add_assoc, HTO.out, HTY.out, nv_take_set _ _ _ _ (by rw [hown2.sl.len]; omega), Nat.pow_succ, mul_step]
              exact mul_round HV2.out HSUM.out
          case measure => simp [intOf]; omega
        · obtain rfl : j = E := by omega
          obtain ⟨bo, oo, hixo, hco, hao⟩ := hown2.sl.ix (P := Tryz.prog) Tryz.underlying33 H1.out H3.out
          have x5 := hixo (k + j) (by omega)
          rw [show ((k + j : Nat) : Int) = (k : Int) + (j : Int) by omega] at x5
          have x6 := hco (k + j) (by omega)
          have x7 := hown2.free (hao (by omega)) (oo + (k + j))
          have HO := Lib.hid (hao (by omega))
          have HW := Lib.hid (mul_outer HU.out HE.out hown2.sl.len hlt HV.out HV2.out)
          clear hixo hco hao
          generalize os.getD (k + j) 0 = z at *
          have HS := Lib.hid (hown2.store HO.out (k + j) cr (by omega) hcr)
          go_wp2_with fail
          go_roundw
          case rel =>
            exact ⟨k + 1, os.set (k + j) cr, by omega, by go_num, HS.out.1, hex2.grown' hown2 (Nat.le_refl _) HS.out.2, HW.out⟩
          case measure => simp [intOf]; omega
    · obtain rfl : k = A := by omega
      have CT := Lib.hid (trimmed_calls hown.sl)
      have hv : val old = X * Y := by
        have := HV.out
        rw [nv_take_of_le B64 old _ (by rw [hown.sl.len]; omega), nv_take_of_le B64 us _ (by rw [HA.out]; omega)] at this
        rw [← HVA.out, ← HVB.out]; exact this
      have HW := Lib.hid hv
      clear hv
      go_wp2_with fail
      refine CT.out.mono ?_
      rintro e w' ⟨rfl, rfl⟩
      go_wp2_with fail
      go_ret
      have hlen := hown.sl.trimmed_len
      have hfin := hown.trimmed
      rw [HW.out] at hlen hfin
      refine ⟨o, _, _, ?_, hfin, hex, by omega⟩
      rw [HW.out]; rfl

end Go.Proofs.YtimcnhlcepemjaaGreatDoor

/- nat.left, nat.right: shifts by fewer than 64 places. -/
namespace Go.Proofs.YtimcnhlcepemjaaGreatDoor
open Go.RowKit

theorem u64_wrap_nat (n : Nat) : IntKind.u64.wrap (n : Int) = ((n % B64 : Nat) : Int) := by rw [IntKind.wrap_u64, B64_eq]; omega
/-- u shifted up by n: the limb, and what goes over. -/
def shlS (u n : Nat) : Nat := u * 2 ^ n % B64
def shrS (u n : Nat) : Nat := u / 2 ^ n
theorem shl_eq {u n : Nat} (hn : n ≤ 64) : shlS u n + B64 * shrS u (64 - n) = u * 2 ^ n := by
  have e : B64 = 2 ^ (64 - n) * 2 ^ n := by rw [← Nat.pow_add, show 64 - n + n = 64 by omega]; rfl
  have h : u * 2 ^ n / B64 = u / 2 ^ (64 - n) := by
    rw [e, Nat.mul_div_mul_right _ _ (Nat.two_pow_pos n)]
  unfold shlS shrS
  rw [← h]; exact Nat.mod_add_div _ _
theorem shlS_lt (u n : Nat) : shlS u n < B64 := Nat.mod_lt _ B64_pos
theorem shrS_le (u n : Nat) : shrS u n ≤ u := Nat.div_le_self _ _
theorem shrS_lt {u n : Nat} (hu : u < B64) (hn : n ≤ 64) : shrS u (64 - n) < 2 ^ n := by
  unfold shrS
  rw [Nat.div_lt_iff_lt_mul (Nat.two_pow_pos _), ← Nat.pow_add, show n + (64 - n) = 64 by omega]
  exact hu
theorem or_shl {z u n : Nat} (hz : z < 2 ^ n) (hn : n ≤ 64) : z ||| shlS u n = z + shlS u n := by
  have e : shlS u n = 2 ^ n * (u % 2 ^ (64 - n)) := by
    unfold shlS
    have e : B64 = 2 ^ n * 2 ^ (64 - n) := by rw [← Nat.pow_add, show n + (64 - n) = 64 by omega]; rfl
    rw [e, Nat.mul_comm u, Nat.mul_mod_mul_left]
  rw [e, Nat.or_comm, ← Nat.two_pow_add_eq_or_of_lt hz, Nat.add_comm]

/-- What a shift's loop keeps. -/
def LeftRel (w : World) (o : Option Addr) (A : Nat) (us : List Nat) (n : Nat) (iv : Value) (wr : World) : Prop :=
  ∃ (k : Nat) (os : List Nat), k ≤ A ∧ iv = .int .i64 k ∧ Own w.heap.size wr o (A + 1) (A + 1) os ∧ Ext w wr ∧ os.getD k 0 < 2 ^ n ∧ nv B64 (os.take (k + 1)) = nv B64 (us.take k) * 2 ^ n

theorem left_round {os us : List Nat} {k n z u t s hi : Nat} (hk : k + 1 < os.length) (hz : os.getD k 0 = z) (hu : us.getD k 0 = u) (ht : t = z + s) (hs : s + B64 * hi = u * 2 ^ n)
    (h : nv B64 (os.take (k + 1)) = nv B64 (us.take k) * 2 ^ n) : nv B64 (((os.set k t).set (k + 1) hi).take (k + 1 + 1)) = nv B64 (us.take (k + 1)) * 2 ^ n := by
  rw [nv_take_set _ _ _ _ (by rw [List.length_set]; omega), nv_take_set _ _ _ _ (by omega), nv_take_succ' B64 us k, hu, Nat.add_mul, ← h, nv_take_succ' B64 os k, hz, ht, Nat.mul_assoc, ← hs, Nat.mul_add, Nat.mul_add, Nat.pow_succ, Nat.mul_assoc]
  omega

theorem set_getD_self {xs : List Nat} {i x : Nat} (h : i < xs.length) : (xs.set i x).getD i 0 = x := by
  rw [List.getD_eq_getElem?_getD, List.getElem?_set_self h]; rfl
set_option maxHeartbeats 2000000 in
set_option maxRecDepth 100000 in
theorem left_calls {a : Option Addr} {A c : Nat} {us : List Nat} {w : World} (ha : Sl w a A c us) (hm : A ≤ 1000000000) (n : Nat) (hn : n < 64) :
    Calls Tryz.prog 110 #[.slice a A c, .int .i64 (n : Int)] w (fun e w' => ∃ o os, val os = val us * 2 ^ n ∧ e = .returned (.slice o (A + 1) (A + 1)) ∧ Own w.heap.size w' o (A + 1) (A + 1) os ∧ Ext w w') := by
  obtain ⟨i0, hi, hz0, hs, hby⟩ := info_parts info64
  have H1 := Lib.hid hi; have H2 := Lib.hid hz0; have H3 := Lib.hid hs; have H4 := Lib.hid hby
  clear hi hz0 hs hby
  go_enter Tryz.func110, Tryz.ntmps110
  go_wp2_with (at_make; refine make_sl _ rfl _ _ _ rfl _ _ Tryz.underlying33 H1.out H2.out H3.out H4.out _ _ rfl rfl (A + 1) (by omega) (by omega) (by omega) ?_)
  intro o w1 ho hext
  go_wp2_with fail
  go_loopw [13] (fun iv wr => LeftRel w o A us n iv wr) (fun iv _ => A - (intOf iv).toNat)
  case atStart =>
    refine ⟨0, _, by omega, rfl, ho, hext, ?_, ?_⟩
    · have : (List.replicate (A + 1) 0).getD 0 0 = 0 := by simp [List.replicate_succ]
      rw [this]; exact Nat.two_pow_pos n
    · simp [List.take_replicate]
  case round =>
    obtain ⟨k, os, hk, rfl, hown, hex, htop, hval⟩ := hrel
    have HV := Lib.hid hval
    clear hval
    by_cases hlt : k < A
    · obtain ⟨bo, oo, hixo, hco, hao⟩ := hown.sl.ix (P := Tryz.prog) Tryz.underlying33 H1.out H3.out
      obtain ⟨ba, oa, hixa, hca, haa⟩ := (ha.old hex).ix (P := Tryz.prog) Tryz.underlying33 H1.out H3.out
      have hne : (⟨bo, oo + k, none⟩ : Addr) ≠ ⟨ba, oa + k, none⟩ := by
        intro e
        injection e with e1
        have h1 := (hown.ge bo (by rw [hao (by omega)]; rfl)).1
        have h2 := (ha.lt).resolve_left (by omega)
        obtain ⟨q, hq, hql⟩ := h2
        rw [haa (by omega)] at hq
        have h3 : ba = q := Option.some.inj hq
        omega
      have x1 := hixa k hlt
      have x2 := hca k hlt
      have x3 := hixo k (by omega)
      have x5 := hco k (by omega)
      have x6 := hixo (k + 1) (by omega)
      have x7 := hco (k + 1) (by omega)
      have x8 := hown.free (hao (by omega)) (oo + k)
      have x9 := hown.free (hao (by omega)) (oo + (k + 1))
      rw [show ((k + 1 : Nat) : Int) = (k : Int) + 1 by omega] at x6
      have x10 : ∀ v, (wr.setCell ⟨bo, oo + k, none⟩ v).cell? ⟨ba, oa + k, none⟩ = some (.int .u64 ((us.getD k 0 : Nat) : Int)) := fun v => by
        rw [World.cell?_setCell_other wr _ _ _ hne]; exact x2
      have HO := Lib.hid (hao (by omega))
      have q1 := ha.bd.getD B64_pos k
      have q2 := hown.sl.bd.getD B64_pos k
      have HU := Lib.hid (@rfl _ (us.getD k 0))
      obtain ⟨u, hu⟩ : ∃ u, us.getD k 0 = u := ⟨_, rfl⟩
      obtain ⟨z, hz⟩ : ∃ z, os.getD k 0 = z := ⟨_, rfl⟩
      rw [hu] at x2 x10 q1
      rw [hz] at x5 q2 htop
      have HUU := Lib.hid hu
      have HZ := Lib.hid hz
      clear hixo hixa hca hco hao hu hz hne haa HU
      generalize os.getD (k + 1) 0 = z1 at *
      have HSH := Lib.hid (shl_eq (u := u) (n := n) (by omega))
      have q3 := shlS_lt u n
      have HQ4 := Lib.hid (shrS_lt (u := u) (n := n) q1 (by omega))
      have hw1 : IntKind.u64.wrap ((u : Int) * 2 ^ n) = ((shlS u n : Nat) : Int) := by
        rw [show (u : Int) * 2 ^ n = ((u * 2 ^ n : Nat) : Int) by simp, u64_wrap_nat]; rfl
      have hw2 : (u : Int) / 2 ^ (min ((64 : Int) - (n : Int)).toNat 64) = ((shrS u (64 - n) : Nat) : Int) := by
        rw [show min ((64 : Int) - (n : Int)).toNat 64 = 64 - n by omega]; unfold shrS; simp
      have hw3 : (u : Int) / 2 ^ (64 - n) = ((shrS u (64 - n) : Nat) : Int) := by unfold shrS; simp
      have hw4 : bits BinOp.or IntKind.u64 (z : Int) ((shlS u n : Nat) : Int) = ((z ||| shlS u n : Nat) : Int) := bits_or_u64_nat z (shlS u n) q2 q3
      have HOR := Lib.hid (or_shl (u := u) htop (by omega))
      have hbt : z ||| shlS u n < B64 := Nat.or_lt_two_pow (n := 64) q2 q3
      have hbh : shrS u (64 - n) < B64 := Nat.lt_of_le_of_lt (shrS_le _ _) q1
      clear htop
      generalize z ||| shlS u n = t at *
      generalize shlS u n = s at *
      generalize shrS u (64 - n) = hi at *
      have HS := Lib.hid (hown.store HO.out k t (by omega) hbt)
      have hS2 := HS.out.1.store HO.out (k + 1) hi (by omega) hbh
      have HS2 := Lib.hid hS2
      clear hS2
      have HG := Lib.hid (HS.out.1.ge)
      go_wp2_with fail
      go_region
      go_wp2_with fail
      go_roundw
      case rel =>
        refine ⟨k + 1, (os.set k t).set (k + 1) hi, by omega, by go_num, (HS2.out.1).old ((Ext.refl _).drew), ((hex.grown' hown (Nat.le_refl _) HS.out.2).grown' HS.out.1 (Nat.le_refl _) HS2.out.2).drew, ?_, ?_⟩
        · rw [set_getD_self (by rw [List.length_set, hown.sl.len]; omega)]; exact HQ4.out
        · exact left_round (by rw [hown.sl.len]; omega) HZ.out HUU.out HOR.out HSH.out HV.out
      case measure => simp [intOf]; omega
    · obtain rfl : k = A := by omega
      have hv : val os = val us * 2 ^ n := by
        have := HV.out
        rw [nv_take_of_le B64 os _ (by rw [hown.sl.len]; omega), nv_take_of_le B64 us _ (by rw [ha.len]; omega)] at this
        exact this
      have HW := Lib.hid hv
      clear hv
      go_wp2_with fail
      go_ret
      exact ⟨o, os, HW.out, rfl, hown, hex⟩

/-- What the other shift's loop keeps: below place k all is shifted, from it on nothing is. -/
def RightRel (B : Nat) (w : World) (a : Option Addr) (A c : Nat) (us : List Nat) (n r0 : Nat) (iv : Value) (wr : World) : Prop :=
  ∃ (k : Nat) (os : List Nat), k ≤ A ∧ iv = .int .i64 k ∧ Own B wr a A c os ∧ w.grownBy wr (blk a) ∧ os.drop k = us.drop k ∧
    nv B64 (os.take k) * 2 ^ n + r0 = nv B64 (us.take k) + B64 ^ k * (us.getD k 0 % 2 ^ n)

theorem shl_low {v n : Nat} (hn : n ≤ 64) : shlS v (64 - n) = 2 ^ (64 - n) * (v % 2 ^ n) := by
  unfold shlS
  have e : B64 = 2 ^ (64 - n) * 2 ^ n := by rw [← Nat.pow_add, show 64 - n + n = 64 by omega]; rfl
  rw [e, Nat.mul_comm v, Nat.mul_mod_mul_left]
theorem right_limb {u v t n : Nat} (hn : n ≤ 64) (ht : t = u / 2 ^ n + shlS v (64 - n)) : t * 2 ^ n + u % 2 ^ n = u + B64 * (v % 2 ^ n) := by
  have e : B64 = 2 ^ (64 - n) * 2 ^ n := by rw [← Nat.pow_add, show 64 - n + n = 64 by omega]; rfl
  rw [ht, shl_low hn, Nat.add_mul, e]
  have h1 := Nat.div_add_mod u (2 ^ n)
  rw [Nat.mul_comm (2 ^ n) (u / 2 ^ n)] at h1
  have h2 : 2 ^ (64 - n) * (v % 2 ^ n) * 2 ^ n = 2 ^ (64 - n) * 2 ^ n * (v % 2 ^ n) := by rw [Nat.mul_assoc, Nat.mul_comm (v % 2 ^ n), ← Nat.mul_assoc]
  omega
theorem right_round {os us : List Nat} {k n u v t r0 : Nat} (hk : k < os.length) (hu : us.getD k 0 = u) (hv : us.getD (k + 1) 0 = v) (ht : t * 2 ^ n + u % 2 ^ n = u + B64 * (v % 2 ^ n))
    (h : nv B64 (os.take k) * 2 ^ n + r0 = nv B64 (us.take k) + B64 ^ k * (us.getD k 0 % 2 ^ n)) :
    nv B64 ((os.set k t).take (k + 1)) * 2 ^ n + r0 = nv B64 (us.take (k + 1)) + B64 ^ (k + 1) * (us.getD (k + 1) 0 % 2 ^ n) := by
  rw [hu] at h
  rw [nv_take_set _ _ _ _ hk, nv_take_succ' B64 us k, hu, hv, Nat.add_mul, Nat.mul_assoc]
  have e : B64 ^ k * (t * 2 ^ n + u % 2 ^ n) = B64 ^ k * (u + B64 * (v % 2 ^ n)) := by rw [ht]
  rw [Nat.mul_add, Nat.mul_add, ← Nat.mul_assoc (B64 ^ k) B64] at e
  rw [Nat.pow_succ]
  omega
theorem right_done {os us : List Nat} {A n r0 : Nat} (ho : os.length = A) (hu : us.length = A) (hr : r0 < 2 ^ n) (h : nv B64 (os.take A) * 2 ^ n + r0 = nv B64 (us.take A) + B64 ^ A * (us.getD A 0 % 2 ^ n)) :
    val os = val us / 2 ^ n := by
  rw [nv_take_of_le B64 os _ (by omega), nv_take_of_le B64 us _ (by omega), getD_of_ge (by omega)] at h
  simp only [Nat.zero_mod, Nat.mul_zero, Nat.add_zero] at h
  unfold val
  rw [← h, Nat.mul_comm]
  exact (div_unique rfl hr).1

/-- The call returns the slice's head, which reads as xs now; nothing else has turned. -/
def Head (B : Nat) (w : World) (a : Option Addr) (xs : List Nat) (e : Ending) (w' : World) : Prop :=
  e = .returned (.slice a xs.length xs.length) ∧ Own B w' a xs.length xs.length xs ∧ w.grownBy w' (blk a)

set_option maxHeartbeats 2000000 in
set_option maxRecDepth 100000 in
theorem right_calls {B : Nat} {a : Option Addr} {A c : Nat} {us : List Nat} {w : World} (ha : Own B w a A c us) (hm : A ≤ 1000000000) (n : Nat) (hn : n < 64) :
    Calls Tryz.prog 139 #[.slice a A c, .int .i64 (n : Int)] w (Head B w a (lim (val us / 2 ^ n))) := by
  obtain ⟨i0, hi, hz0, hs, hby⟩ := info_parts info64
  have H1 := Lib.hid hi; have H3 := Lib.hid hs
  have q0 := ha.sl.big
  have q00 := ha.sl.cap
  have HLU := Lib.hid ha.sl.len
  clear hi hz0 hs hby
  go_enter Tryz.func139, Tryz.ntmps139
  go_wp2_with fail
  go_loopw [8] (fun iv wr => RightRel B w a A c us n (us.getD 0 0 % 2 ^ n) iv wr) (fun iv _ => A - (intOf iv).toNat)
  case atStart => exact ⟨0, us, by omega, rfl, ha, grownBy_refl _ _, rfl, by simp⟩
  case round =>
    obtain ⟨k, os, hk, rfl, hown, hgr, hdr, hval⟩ := hrel
    have HV := Lib.hid hval
    have HD := Lib.hid hdr
    clear hval hdr
    by_cases hlt : k < A
    · obtain ⟨bo, oo, hixo, hco, hao⟩ := hown.sl.ix (P := Tryz.prog) Tryz.underlying33 H1.out H3.out
      have x3 := hixo k hlt
      have x5 := hco k hlt
      have x8 := hown.free (hao (by omega)) (oo + k)
      have HO := Lib.hid (hao (by omega))
      have q2 := hown.sl.bd.getD B64_pos k
      have hu := (getD_of_drop HD.out).symm
      have hv := (getD_of_drop (drop_succ_of_drop HD.out)).symm
      obtain ⟨u, hu'⟩ : ∃ u, os.getD k 0 = u := ⟨_, rfl⟩
      rw [hu'] at hu x5 q2
      have HU := Lib.hid hu
      have hw1 : (u : Int) / 2 ^ n = ((u / 2 ^ n : Nat) : Int) := by simp
      have q4 : u / 2 ^ n < B64 := Nat.lt_of_le_of_lt (Nat.div_le_self _ _) q2
      have HQ5 := Lib.hid (show u / 2 ^ n < 2 ^ (64 - n) by
        rw [Nat.div_lt_iff_lt_mul (Nat.two_pow_pos _), ← Nat.pow_add, show 64 - n + n = 64 by omega]; exact q2)
      obtain ⟨t1, ht1⟩ : ∃ t1, u / 2 ^ n = t1 := ⟨_, rfl⟩
      rw [ht1] at hw1 q4
      have HT1 := Lib.hid ht1
      have HS := Lib.hid (hown.store HO.out k t1 hlt q4)
      clear hu hu' ht1
      by_cases hlt2 : k + 1 < A
      · have x6 := hixo (k + 1) hlt2
        have x7 := hco (k + 1) hlt2
        rw [show ((k + 1 : Nat) : Int) = (k : Int) + 1 by omega] at x6
        have q6 := hown.sl.bd.getD B64_pos (k + 1)
        obtain ⟨v, hv'⟩ : ∃ v, os.getD (k + 1) 0 = v := ⟨_, rfl⟩
        rw [hv'] at hv x7 q6
        have HVV := Lib.hid hv
        clear hixo hco hao hv hv'
        have q3 := shlS_lt v (64 - n)
        have hw2 : IntKind.u64.wrap ((v : Int) * 2 ^ (64 - n)) = ((shlS v (64 - n) : Nat) : Int) := by
          rw [show (v : Int) * 2 ^ (64 - n) = ((v * 2 ^ (64 - n) : Nat) : Int) by simp, u64_wrap_nat]; rfl
        have hw3 : IntKind.u64.wrap ((v : Int) * 2 ^ (min ((64 : Int) - (n : Int)).toNat 64)) = ((shlS v (64 - n) : Nat) : Int) := by
          rw [show min ((64 : Int) - (n : Int)).toNat 64 = 64 - n by omega]; exact hw2
        have hw4 : bits BinOp.or IntKind.u64 (t1 : Int) ((shlS v (64 - n) : Nat) : Int) = ((t1 ||| shlS v (64 - n) : Nat) : Int) := bits_or_u64_nat t1 _ q4 q3
        have hbt : t1 ||| shlS v (64 - n) < B64 := Nat.or_lt_two_pow (n := 64) q4 q3
        have HR' := Lib.hid (right_limb (u := u) (v := v) (t := t1 ||| shlS v (64 - n)) (n := n) (by omega) (by rw [HT1.out]; exact or_shl (by rw [← HT1.out]; exact HQ5.out) (by omega)))
        generalize t1 ||| shlS v (64 - n) = t at *
        generalize shlS v (64 - n) = sv at *
        have HS2 := Lib.hid (HS.out.1.store HO.out k t hlt hbt)
        go_wp2_with fail
        go_region
        go_wp2_with fail
        go_roundw
        case rel =>
          refine ⟨k + 1, (os.set k t1).set k t, by omega, by go_num, HS2.out.1.old ((Ext.refl _).drew), grownBy_trans (grownBy_trans (grownBy_trans hgr HS.out.2) HS2.out.2) (((Ext.refl _).drew).by_ _), ?_, ?_⟩
          · rw [List.set_set, drop_set_lo _ _ _ _ (by omega)]; exact drop_succ_of_drop HD.out
          · rw [List.set_set]; exact right_round (by rw [hown.sl.len]; exact hlt) HU.out HVV.out HR'.out HV.out
        case measure => simp [intOf]; omega
      · have HVV := Lib.hid (getD_of_ge (xs := us) (i := k + 1) (by rw [HLU.out]; omega))
        clear hixo hco hao hv
        have HR := Lib.hid (right_limb (u := u) (v := 0) (t := t1) (n := n) (by omega) (by rw [HT1.out]; simp [shlS]))
        go_wp2_with fail
        go_roundw
        case rel =>
          refine ⟨k + 1, os.set k t1, by omega, by go_num, HS.out.1, grownBy_trans hgr HS.out.2, ?_, ?_⟩
          · rw [drop_set_lo _ _ _ _ (by omega)]; exact drop_succ_of_drop HD.out
          · exact right_round (by rw [hown.sl.len]; exact hlt) HU.out HVV.out HR.out HV.out
        case measure => simp [intOf]; omega
    · obtain rfl : k = A := by omega
      have HW := Lib.hid (right_done hown.sl.len HLU.out (Nat.mod_lt _ (Nat.two_pow_pos n)) HV.out)
      have CT := Lib.hid (trimmed_calls hown.sl)
      go_wp2_with fail
      refine CT.out.mono ?_
      rintro e w' ⟨rfl, rfl⟩
      go_wp2_with fail
      go_ret
      have hfin := hown.trimmed
      rw [HW.out] at hfin
      exact ⟨by rw [HW.out]; rfl, hfin, hgr⟩

end Go.Proofs.YtimcnhlcepemjaaGreatDoor
