/- Plain arithmetic of rows of digits to a base: values, trailing noughts, normal rows, order. No program is in sight here. -/
namespace Go.Proofs.YtifoflicflodcaaGreatDoor

/-- The value of a row of digits to the base b, the lowest first. -/
def nv (b : Nat) : List Nat → Nat
  | [] => 0
  | x :: xs => x + b * nv b xs

/-- All digits are below b. -/
def Bd (b : Nat) (xs : List Nat) : Prop := ∀ x ∈ xs, x < b

/-- Without the noughts at the end. -/
def trimL : List Nat → List Nat
  | [] => []
  | x :: xs => match trimL xs with
    | [] => if x = 0 then [] else [x]
    | y :: ys => x :: y :: ys

/-- No nought at the end. -/
def Nrm (xs : List Nat) : Prop := xs.getLast? ≠ some 0

theorem Bd.nil (b : Nat) : Bd b [] := by intro x h; cases h
theorem Bd.cons {b x : Nat} {xs : List Nat} (h : x < b) (hs : Bd b xs) : Bd b (x :: xs) := by
  intro y hy; cases hy with
  | head => exact h
  | tail _ hy => exact hs y hy
theorem Bd.head {b x : Nat} {xs : List Nat} (h : Bd b (x :: xs)) : x < b := h x (by simp)
theorem Bd.tail {b x : Nat} {xs : List Nat} (h : Bd b (x :: xs)) : Bd b xs := fun y hy => h y (by simp [hy])
theorem Bd.append {b : Nat} {xs ys : List Nat} (h : Bd b xs) (k : Bd b ys) : Bd b (xs ++ ys) := by
  intro y hy; rcases List.mem_append.1 hy with hy | hy
  · exact h y hy
  · exact k y hy
theorem Bd.left {b : Nat} {xs ys : List Nat} (h : Bd b (xs ++ ys)) : Bd b xs := fun y hy => h y (by simp [hy])
theorem Bd.right {b : Nat} {xs ys : List Nat} (h : Bd b (xs ++ ys)) : Bd b ys := fun y hy => h y (by simp [hy])
theorem Bd.take {b : Nat} {xs : List Nat} (h : Bd b xs) (n : Nat) : Bd b (xs.take n) := fun y hy => h y (List.mem_of_mem_take hy)
theorem Bd.drop {b : Nat} {xs : List Nat} (h : Bd b xs) (n : Nat) : Bd b (xs.drop n) := fun y hy => h y (List.mem_of_mem_drop hy)
theorem Bd.set {b : Nat} {xs : List Nat} (h : Bd b xs) (i : Nat) {x : Nat} (hx : x < b) : Bd b (xs.set i x) := by
  intro y hy; rcases List.mem_or_eq_of_mem_set hy with hy | rfl
  · exact h y hy
  · exact hx
theorem Bd.getElem {b : Nat} {xs : List Nat} (h : Bd b xs) (i : Nat) (hi : i < xs.length) : xs[i] < b := h _ (List.getElem_mem hi)
theorem Bd.getD {b : Nat} {xs : List Nat} (h : Bd b xs) (hb : 0 < b) (i : Nat) : xs.getD i 0 < b := by
  by_cases hi : i < xs.length
  · rw [List.getD_eq_getElem?_getD, List.getElem?_eq_getElem hi]; exact h.getElem i hi
  · rw [List.getD_eq_getElem?_getD, List.getElem?_eq_none (by omega)]; exact hb
theorem Bd.replicate {b : Nat} (hb : 0 < b) (n : Nat) : Bd b (List.replicate n 0) := by
  intro y hy; rw [List.eq_of_mem_replicate hy]; exact hb

@[simp] theorem nv_nil (b : Nat) : nv b [] = 0 := rfl
@[simp] theorem nv_cons (b x : Nat) (xs : List Nat) : nv b (x :: xs) = x + b * nv b xs := rfl
theorem nv_append (b : Nat) (xs ys : List Nat) : nv b (xs ++ ys) = nv b xs + b ^ xs.length * nv b ys := by
  induction xs with
  | nil => simp
  | cons x xs ih =>
    simp only [List.cons_append, nv_cons, ih, List.length_cons, Nat.pow_succ, Nat.mul_add, Nat.add_assoc]
    rw [Nat.mul_comm (b ^ xs.length) b, Nat.mul_assoc]
theorem nv_replicate (b n : Nat) : nv b (List.replicate n 0) = 0 := by
  induction n with
  | zero => rfl
  | succ n ih => simp [List.replicate_succ, ih]
theorem nv_lt {b : Nat} {xs : List Nat} (h : Bd b xs) : nv b xs < b ^ xs.length := by
  induction xs with
  | nil => simp
  | cons x xs ih =>
    have h1 := ih h.tail
    have h2 := h.head
    simp only [nv_cons, List.length_cons, Nat.pow_succ]
    have h3 : b * (nv b xs + 1) ≤ b * b ^ xs.length := Nat.mul_le_mul_left b h1
    rw [Nat.mul_add, Nat.mul_one] at h3
    rw [Nat.mul_comm (b ^ xs.length) b]
    omega
theorem nv_take_drop (b : Nat) (xs : List Nat) (n : Nat) (h : n ≤ xs.length) : nv b xs = nv b (xs.take n) + b ^ n * nv b (xs.drop n) := by
  have := nv_append b (xs.take n) (xs.drop n)
  rw [List.take_append_drop, List.length_take, Nat.min_eq_left h] at this
  exact this
theorem nv_take_succ (b : Nat) (xs : List Nat) (i : Nat) (h : i < xs.length) : nv b (xs.take (i + 1)) = nv b (xs.take i) + b ^ i * xs[i] := by
  rw [List.take_succ_eq_append_getElem h, nv_append, List.length_take, Nat.min_eq_left (by omega)]
  simp
theorem nv_set (b : Nat) (xs : List Nat) (i x : Nat) (h : i < xs.length) : nv b (xs.set i x) + b ^ i * xs[i] = nv b xs + b ^ i * x := by
  induction xs generalizing i with
  | nil => simp at h
  | cons y ys ih =>
    cases i with
    | zero => simp; omega
    | succ i =>
      have := ih i (by simpa using h)
      simp only [List.set_cons_succ, nv_cons, List.getElem_cons_succ, Nat.pow_succ]
      rw [Nat.mul_comm (b ^ i) b, Nat.mul_assoc, Nat.mul_assoc]
      have e : b * (nv b (ys.set i x) + b ^ i * ys[i]'(by simpa using h)) = b * (nv b ys + b ^ i * x) := by rw [this]
      rw [Nat.mul_add, Nat.mul_add] at e
      omega

theorem digit_eq {b x y m n : Nat} (hx : x < b) (hy : y < b) (h : x + b * m = y + b * n) : x = y ∧ m = n := by
  have h1 : (x + b * m) % b = x := by rw [Nat.add_mul_mod_self_left]; exact Nat.mod_eq_of_lt hx
  have h2 : (y + b * n) % b = y := by rw [Nat.add_mul_mod_self_left]; exact Nat.mod_eq_of_lt hy
  have h3 : x = y := by rw [← h1, ← h2, h]
  subst h3
  have hb : 0 < b := by omega
  exact ⟨rfl, Nat.eq_of_mul_eq_mul_left hb (by omega)⟩

theorem nv_inj_len {b : Nat} {xs ys : List Nat} (hx : Bd b xs) (hy : Bd b ys) (hl : xs.length = ys.length) (h : nv b xs = nv b ys) : xs = ys := by
  induction xs generalizing ys with
  | nil => cases ys with
    | nil => rfl
    | cons y ys => simp at hl
  | cons x xs ih => cases ys with
    | nil => simp at hl
    | cons y ys =>
      obtain ⟨rfl, h2⟩ := digit_eq hx.head hy.head h
      rw [ih hx.tail hy.tail (by simpa using hl) h2]

theorem nv_eq_zero {b : Nat} (hb : 0 < b) {xs : List Nat} : nv b xs = 0 ↔ ∀ x ∈ xs, x = 0 := by
  induction xs with
  | nil => simp
  | cons x xs ih =>
    simp only [nv_cons, Nat.add_eq_zero_iff, Nat.mul_eq_zero, List.mem_cons, forall_eq_or_imp, ih]
    constructor
    · rintro ⟨h1, h2 | h2⟩
      · omega
      · exact ⟨h1, h2⟩
    · rintro ⟨h1, h2⟩; exact ⟨h1, .inr h2⟩

theorem trimL_cons_nil {x : Nat} {xs : List Nat} (h : trimL xs = []) : trimL (x :: xs) = if x = 0 then [] else [x] := by simp [trimL, h]
theorem trimL_cons_ne {x : Nat} {xs : List Nat} (h : trimL xs ≠ []) : trimL (x :: xs) = x :: trimL xs := by
  cases e : trimL xs with
  | nil => exact absurd e h
  | cons y ys => simp [trimL, e]

theorem nv_trimL (b : Nat) (xs : List Nat) : nv b (trimL xs) = nv b xs := by
  induction xs with
  | nil => rfl
  | cons x xs ih =>
    by_cases h : trimL xs = []
    · rw [trimL_cons_nil h]
      rw [h] at ih
      simp only [nv_nil] at ih
      split
      · rename_i hx; simp [← ih, hx]
      · simp [← ih]
    · rw [trimL_cons_ne h]; simp [ih]
theorem trimL_mem {x : Nat} {xs : List Nat} (h : x ∈ trimL xs) : x ∈ xs := by
  induction xs with
  | nil => exact h
  | cons y ys ih =>
    by_cases e : trimL ys = []
    · rw [trimL_cons_nil e] at h
      split at h
      · cases h
      · simp at h; simp [h]
    · rw [trimL_cons_ne e] at h
      cases h with
      | head => simp
      | tail _ h => simp [ih h]
theorem Bd.trimL {b : Nat} {xs : List Nat} (h : Bd b xs) : Bd b (trimL xs) := fun x hx => h x (trimL_mem hx)
theorem trimL_nrm (xs : List Nat) : Nrm (trimL xs) := by
  unfold Nrm
  induction xs with
  | nil => simp [trimL]
  | cons x xs ih =>
    by_cases e : trimL xs = []
    · rw [trimL_cons_nil e]
      split
      · simp
      · rename_i h; simpa using h
    · rw [trimL_cons_ne e]
      cases h : trimL xs with
      | nil => exact absurd h e
      | cons y ys => rw [List.getLast?_cons_cons, ← h]; exact ih
theorem trimL_len (xs : List Nat) : (trimL xs).length ≤ xs.length := by
  induction xs with
  | nil => simp [trimL]
  | cons x xs ih =>
    by_cases e : trimL xs = []
    · rw [trimL_cons_nil e]; split <;> simp
    · rw [trimL_cons_ne e]; simpa using ih
theorem trimL_of_nrm {xs : List Nat} (h : Nrm xs) : trimL xs = xs := by
  induction xs with
  | nil => rfl
  | cons x xs ih =>
    cases xs with
    | nil => simp [Nrm] at h; simp [trimL, h]
    | cons y ys =>
      have h1 : Nrm (y :: ys) := by unfold Nrm at h ⊢; rwa [List.getLast?_cons_cons] at h
      have h2 := ih h1
      rw [trimL_cons_ne (by rw [h2]; simp), h2]
theorem Nrm.nil : Nrm [] := by simp [Nrm]
theorem Nrm.tail {x y : Nat} {ys : List Nat} (h : Nrm (x :: y :: ys)) : Nrm (y :: ys) := by unfold Nrm at h ⊢; rwa [List.getLast?_cons_cons] at h
theorem nrm_zero {b : Nat} (hb : 0 < b) {xs : List Nat} (h : Nrm xs) (hz : nv b xs = 0) : xs = [] := by
  have := (nv_eq_zero hb).1 hz
  cases e : xs.getLast? with
  | none => simpa using e
  | some l =>
    exfalso
    have hm : l ∈ xs := List.mem_of_getLast? e
    rw [this l hm] at e
    exact h e
theorem nrm_inj {b : Nat} (hb : 0 < b) {xs ys : List Nat} (hx : Bd b xs) (hy : Bd b ys) (nx : Nrm xs) (ny : Nrm ys) (h : nv b xs = nv b ys) : xs = ys := by
  induction xs generalizing ys with
  | nil => exact (nrm_zero hb ny h.symm).symm
  | cons x xs ih =>
    cases ys with
    | nil => exact nrm_zero hb nx h
    | cons y ys =>
      obtain ⟨rfl, h2⟩ := digit_eq hx.head hy.head h
      have nx' : Nrm xs := by cases xs with
        | nil => exact Nrm.nil
        | cons => exact nx.tail
      have ny' : Nrm ys := by cases ys with
        | nil => exact Nrm.nil
        | cons => exact ny.tail
      rw [ih hx.tail hy.tail nx' ny' h2]

/-- The digits of a number to the base b, by fuel. -/
def digsF (b : Nat) : Nat → Nat → List Nat
  | 0, _ => []
  | f + 1, n => if n = 0 then [] else n % b :: digsF b f (n / b)
/-- The normal row of a number to the base b. -/
def digs (b n : Nat) : List Nat := digsF b n n

theorem nv_digsF {b : Nat} (hb : 2 ≤ b) : ∀ f n, n ≤ f → nv b (digsF b f n) = n
  | 0, n, h => by simp [digsF]; omega
  | f + 1, n, h => by
    unfold digsF
    split
    · rename_i h0; simp [h0]
    · have h1 : n / b < n := Nat.div_lt_self (by omega) hb
      rw [nv_cons, nv_digsF hb f (n / b) (by omega)]
      exact Nat.mod_add_div n b
theorem bd_digsF {b : Nat} (hb : 2 ≤ b) : ∀ f n, Bd b (digsF b f n)
  | 0, n => by simp [digsF]; exact Bd.nil b
  | f + 1, n => by
    unfold digsF
    split
    · exact Bd.nil b
    · exact Bd.cons (Nat.mod_lt _ (by omega)) (bd_digsF hb f _)
theorem nrm_digsF {b : Nat} (hb : 2 ≤ b) : ∀ f n, n ≤ f → Nrm (digsF b f n)
  | 0, n, h => by simp [digsF, Nrm]
  | f + 1, n, h => by
    unfold digsF
    split
    · exact Nrm.nil
    · rename_i h0
      have h1 : n / b < n := Nat.div_lt_self (by omega) hb
      have ih := nrm_digsF hb f (n / b) (by omega)
      have hv := nv_digsF hb f (n / b) (by omega)
      cases e : digsF b f (n / b) with
      | nil =>
        rw [e] at hv
        simp only [nv_nil] at hv
        have : n % b ≠ 0 := by
          intro hm
          have := Nat.mod_add_div n b
          rw [hm, ← hv] at this
          simp at this
          omega
        simpa [Nrm] using this
      | cons y ys =>
        rw [e] at ih
        unfold Nrm at ih ⊢
        rwa [List.getLast?_cons_cons]
theorem nv_digs {b : Nat} (hb : 2 ≤ b) (n : Nat) : nv b (digs b n) = n := nv_digsF hb n n (Nat.le_refl _)
theorem bd_digs {b : Nat} (hb : 2 ≤ b) (n : Nat) : Bd b (digs b n) := bd_digsF hb n n
theorem nrm_digs {b : Nat} (hb : 2 ≤ b) (n : Nat) : Nrm (digs b n) := nrm_digsF hb n n (Nat.le_refl _)
theorem digs_unique {b : Nat} (hb : 2 ≤ b) {xs : List Nat} {n : Nat} (hx : Bd b xs) (nx : Nrm xs) (h : nv b xs = n) : xs = digs b n :=
  nrm_inj (by omega) hx (bd_digs hb n) nx (nrm_digs hb n) (by rw [nv_digs hb, h])
theorem trimL_digs {b : Nat} (hb : 2 ≤ b) {xs : List Nat} (hx : Bd b xs) : trimL xs = digs b (nv b xs) :=
  digs_unique hb hx.trimL (trimL_nrm xs) (nv_trimL b xs)
theorem digs_zero (b : Nat) : digs b 0 = [] := rfl
theorem digs_inj {b : Nat} (hb : 2 ≤ b) {m n : Nat} (h : digs b m = digs b n) : m = n := by
  rw [← nv_digs hb m, h, nv_digs hb]
theorem digs_nil {b : Nat} (hb : 2 ≤ b) {n : Nat} : digs b n = [] ↔ n = 0 :=
  ⟨fun h => by rw [← nv_digs hb n, h]; rfl, fun h => by rw [h]; rfl⟩

/-- A normal row that isn't empty is at least the place of its highest digit. -/
theorem nrm_ge {b : Nat} (_hb : 0 < b) {xs : List Nat} (hn : Nrm xs) (he : xs ≠ []) : b ^ (xs.length - 1) ≤ nv b xs := by
  induction xs with
  | nil => exact absurd rfl he
  | cons x xs ih =>
    cases xs with
    | nil => simp [Nrm] at hn; simp; omega
    | cons y ys =>
      have := ih hn.tail (by simp)
      simp only [List.length_cons, Nat.add_sub_cancel] at this ⊢
      rw [nv_cons, Nat.pow_succ, Nat.mul_comm]
      have := Nat.mul_le_mul_left b this
      omega
theorem digs_len_le {b : Nat} (hb : 2 ≤ b) {n k : Nat} (h : n < b ^ k) : (digs b n).length ≤ k := by
  by_cases he : digs b n = []
  · rw [he]; simp
  · have h1 := nrm_ge (by omega : 0 < b) (nrm_digs hb n) he
    rw [nv_digs hb] at h1
    have h2 : b ^ ((digs b n).length - 1) < b ^ k := by omega
    have := (Nat.pow_lt_pow_iff_right (by omega : 1 < b)).1 h2
    omega
theorem digs_lt_pow {b : Nat} (hb : 2 ≤ b) (n : Nat) : n < b ^ (digs b n).length := by
  have := nv_lt (bd_digs hb n)
  rwa [nv_digs hb] at this
theorem digs_len_mono {b : Nat} (hb : 2 ≤ b) {m n : Nat} (h : m ≤ n) : (digs b m).length ≤ (digs b n).length :=
  digs_len_le hb (Nat.lt_of_le_of_lt h (digs_lt_pow hb n))
theorem digs_len_lt {b : Nat} (hb : 2 ≤ b) {m n : Nat} (h : (digs b m).length < (digs b n).length) : m < n := by
  rcases Nat.lt_or_ge m n with h' | h'
  · exact h'
  · have := digs_len_mono hb h'; omega

/-- Two rows of one length, parted at the highest place where they differ. -/
theorem nv_lt_of_top {b : Nat} {xs ys : List Nat} (hx : Bd b xs) (hl : xs.length = ys.length) (i : Nat) (hi : i < xs.length) (hlt : xs[i] < ys[i]'(hl ▸ hi))
    (htop : xs.drop (i + 1) = ys.drop (i + 1)) : nv b xs < nv b ys := by
  rw [nv_take_drop b xs (i + 1) (by omega), nv_take_drop b ys (i + 1) (by omega), htop, nv_take_succ b xs i hi, nv_take_succ b ys i (by omega)]
  have h1 := nv_lt (hx.take i)
  rw [List.length_take, Nat.min_eq_left (by omega)] at h1
  have h2 : b ^ i * (xs[i] + 1) ≤ b ^ i * ys[i]'(hl ▸ hi) := Nat.mul_le_mul_left _ hlt
  rw [Nat.mul_add, Nat.mul_one] at h2
  omega

/-- Which one is greater: -1, 0, 1. -/
def cmpN (m n : Nat) : Int := if m < n then -1 else if m = n then 0 else 1
theorem cmpN_lt {m n : Nat} (h : m < n) : cmpN m n = -1 := by simp [cmpN, h]
theorem cmpN_eq {m n : Nat} (h : m = n) : cmpN m n = 0 := by simp [cmpN, h]
theorem cmpN_gt {m n : Nat} (h : n < m) : cmpN m n = 1 := by unfold cmpN; rw [if_neg (by omega), if_neg (by omega)]

end Go.Proofs.YtifoflicflodcaaGreatDoor
