/- Numbers as bytes: plain. -/
import Derived.Test.YtkdkgmnjhimdeaaGreatDoorByte
import Derived.Test.YtkdkgmnjhimdeaaGreatDoorBits
namespace Go.Proofs.YtkdkgmnjhimdeaaGreatDoor

theorem pow_B64_8 (j : Nat) : B64 ^ j = 256 ^ (8 * j) := by rw [Nat.pow_mul, show 256 ^ 8 = B64 from by decide]
theorem pow_split8 (k : Nat) : 256 ^ k = B64 ^ (k / 8) * 256 ^ (k % 8) := by
  rw [pow_B64_8, ← Nat.pow_add]; congr 1; omega

/-- What FromBytes' loop keeps: of the bytes, the lowest first, k are in. -/
structure FbInv (rs os : List Nat) (M k : Nat) : Prop where
  len : os.length = M
  eq : nv B64 os = nv 256 (rs.take k)
theorem FbInv.top {rs os : List Nat} {M k : Nat} (h : FbInv rs os M k) (hb : Bd 256 rs) (hk : k / 8 < M) : os.getD (k / 8) 0 < 256 ^ (k % 8) := by
  have hl := h.len
  have h1 := nv_set B64 os (k / 8) 0 (by omega)
  rw [Nat.mul_zero, Nat.add_zero, ← getD_of_lt (by omega : k / 8 < os.length), h.eq] at h1
  have h2 := nv_lt (hb.take k)
  have h3 : 256 ^ (rs.take k).length ≤ 256 ^ k := Nat.pow_le_pow_right (by decide) (by rw [List.length_take]; omega)
  rw [pow_split8 k] at h3
  have h5 : B64 ^ (k / 8) * os.getD (k / 8) 0 < B64 ^ (k / 8) * 256 ^ (k % 8) := by omega
  exact Nat.lt_of_mul_lt_mul_left h5
theorem FbInv.step {rs os : List Nat} {M k : Nat} (h : FbInv rs os M k) (hk : k / 8 < M) :
    FbInv rs (os.set (k / 8) (os.getD (k / 8) 0 + rs.getD k 0 * 256 ^ (k % 8))) M (k + 1) := by
  have hl := h.len
  refine ⟨by rw [List.length_set]; exact hl, ?_⟩
  have e := nv_set B64 os (k / 8) (os.getD (k / 8) 0 + rs.getD k 0 * 256 ^ (k % 8)) (by omega)
  rw [← getD_of_lt (by omega : k / 8 < os.length), Nat.mul_add] at e
  rw [nv_take_succ', ← h.eq, pow_split8 k]
  have h2 : B64 ^ (k / 8) * (rs.getD k 0 * 256 ^ (k % 8)) = B64 ^ (k / 8) * 256 ^ (k % 8) * rs.getD k 0 := by
    rw [Nat.mul_comm (rs.getD k 0), Nat.mul_assoc]
  omega
theorem fb_or {z x t : Nat} (hz : z < 256 ^ t) : z ||| (x * 256 ^ t) = z + x * 256 ^ t := by
  have e : 256 ^ t = 2 ^ (8 * t) := by rw [Nat.pow_mul]
  rw [e] at hz ⊢
  rw [Nat.or_comm, Nat.mul_comm x, ← Nat.two_pow_add_eq_or_of_lt hz, Nat.add_comm]
theorem fb_lt {z x t : Nat} (hz : z < 256 ^ t) (hx : x < 256) (ht : t < 8) : z + x * 256 ^ t < B64 := by
  have h1 : 256 ^ (t + 1) ≤ 256 ^ 8 := Nat.pow_le_pow_right (by decide) ht
  have h2 : (x + 1) * 256 ^ t ≤ 256 * 256 ^ t := Nat.mul_le_mul_right _ hx
  rw [Nat.pow_succ, Nat.mul_comm] at h1
  rw [Nat.add_mul, Nat.one_mul] at h2
  have : B64 = 256 ^ 8 := by decide
  omega
theorem getD_reverse {bs : List Nat} {n k : Nat} (hl : bs.length = n) (hk : k < n) : bs.reverse.getD k 0 = bs.getD (n - 1 - k) 0 := by
  rw [List.getD_eq_getElem?_getD, List.getD_eq_getElem?_getD, List.getElem?_reverse (by omega), hl]

/-- A digit of a number. -/
theorem getD_digit {b : Nat} (hb : 0 < b) {xs : List Nat} (h : Bd b xs) (i : Nat) : xs.getD i 0 = nv b xs / b ^ i % b := by
  have hp : 0 < b ^ i := Nat.pow_pos hb
  by_cases hi : i < xs.length
  · have h1 := nv_take_drop b xs i (by omega)
    rw [nv_drop_succ b xs i hi] at h1
    have h2 := nv_lt (h.take i)
    rw [List.length_take, Nat.min_eq_left (by omega)] at h2
    rw [h1, Nat.add_mul_div_left _ _ hp, Nat.div_eq_of_lt h2, Nat.zero_add, Nat.add_mul_mod_self_left, Nat.mod_eq_of_lt (h.getD hb i)]
  · rw [getD_of_ge (by omega)]
    have h1 : nv b xs < b ^ i := Nat.lt_of_lt_of_le (nv_lt h) (Nat.pow_le_pow_right hb (by omega))
    rw [Nat.div_eq_of_lt h1, Nat.zero_mod]
theorem byte_of_limb (V k : Nat) : (V / B64 ^ (k / 8) % B64) / 256 ^ (k % 8) % 256 = V / 256 ^ k % 256 := by
  have e : B64 = 256 ^ (k % 8) * 256 ^ (8 - k % 8) := by
    rw [← Nat.pow_add, show k % 8 + (8 - k % 8) = 8 by omega]; decide
  have e2 : 256 ^ (8 - k % 8) = 256 * 256 ^ (8 - k % 8 - 1) := by
    rw [← Nat.pow_succ']; congr 1; omega
  conv => lhs; rw [show V / B64 ^ (k / 8) % B64 = V / B64 ^ (k / 8) % (256 ^ (k % 8) * 256 ^ (8 - k % 8)) by rw [← e]]
  rw [Nat.mod_mul_right_div_self, e2, Nat.mod_mul_right_mod, Nat.div_div_eq_div_mul, ← pow_split8]

/-- A number as bytes, the highest first. -/
def bytesOf (V : Nat) : List Nat := (digs 256 V).reverse
theorem bytesOf_len (V : Nat) : (bytesOf V).length = (bitLen V + 7) / 8 := by
  unfold bytesOf
  rw [List.length_reverse]
  have h1 := digs_lt_pow (b := 256) (by decide) V
  by_cases h0 : V = 0
  · subst h0; rfl
  have hne : digs 256 V ≠ [] := fun h => h0 ((digs_nil (by decide)).1 h)
  have h2 := nrm_ge (b := 256) (by decide) (nrm_digs (b := 256) (by decide) V) hne
  rw [nv_digs (by decide)] at h2
  have hpos : 0 < (digs 256 V).length := List.length_pos_iff.2 hne
  generalize (digs 256 V).length = N at *
  have e1 : ∀ m, 256 ^ m = 2 ^ (8 * m) := fun m => by rw [Nat.pow_mul]
  rw [e1] at h1 h2
  have h3 := bitLen_le h1
  have h4 := bitLen_lt V
  have h5 : 8 * (N - 1) < bitLen V := by
    apply Nat.lt_of_not_le
    intro h
    have := Nat.pow_le_pow_right (n := 2) (by decide) h
    omega
  omega
theorem bytesOf_bd (V : Nat) : Bd 256 (bytesOf V) := fun x hx => bd_digs (b := 256) (by decide) V x (List.mem_reverse.1 hx)
theorem bytesOf_val (V : Nat) : nv 256 (bytesOf V).reverse = V := by
  unfold bytesOf; rw [List.reverse_reverse]; exact nv_digs (by decide) V
theorem bytesOf_zero : bytesOf 0 = [] := rfl
theorem bytesOf_head {V : Nat} (h : V ≠ 0) : (bytesOf V).getD 0 0 ≠ 0 := by
  have hne : digs 256 V ≠ [] := fun h' => h ((digs_nil (by decide)).1 h')
  have hn := nrm_digs (b := 256) (by decide) V
  unfold bytesOf
  have hpos : 0 < (digs 256 V).length := List.length_pos_iff.2 hne
  rw [getD_reverse rfl hpos, Nat.sub_zero]
  unfold Nrm at hn
  rw [List.getLast?_eq_getElem?] at hn
  intro h0
  rw [List.getD_eq_getElem?_getD, List.getElem?_eq_getElem (by omega)] at h0
  rw [List.getElem?_eq_getElem (by omega)] at hn
  exact hn (by simpa using h0)
/-- What is written from the end on is the number's bytes. -/
theorem bytesOf_ext {os : List Nat} {V N : Nat} (hl : os.length = N) (hN : (bytesOf V).length = N) (h : ∀ j, j < N → os.getD (N - 1 - j) 0 = V / 256 ^ j % 256) : os = bytesOf V := by
  refine List.ext_getElem (by omega) fun i h1 h2 => ?_
  have h3 := h (N - 1 - i) (by omega)
  rw [show N - 1 - (N - 1 - i) = i by omega] at h3
  rw [← getD_of_lt h1, ← getD_of_lt h2, h3]
  have hd := getD_digit (b := 256) (by decide) (bd_digs (by decide) V) (N - 1 - i)
  rw [nv_digs (by decide)] at hd
  rw [← hd]
  unfold bytesOf at hN ⊢
  rw [List.length_reverse] at hN
  rw [getD_reverse hN (by omega)]

end Go.Proofs.YtkdkgmnjhimdeaaGreatDoor
