
/- math/bits.LeadingZeros64, math/bits.Div64. -/
import Derived.Test.YtimcnhlcepemjaaGreatDoorMA
import Derived.Test.YtimcnhlcepemjaaGreatDoorShelf
namespace Go.Proofs.YtimcnhlcepemjaaGreatDoor
open Go.RowKit

theorem bitLen_half {n : Nat} (h : n ≠ 0) : bitLen n = 1 + bitLen (n / 2) := by
  by_cases h1 : n = 1
  · subst h1; rfl
  · have := bitLen_div n 1 (by omega)
    simpa using this
theorem libBitLenAux : ∀ (f n : Nat), n < 2 ^ f → Lib.bitLenAux f n = bitLen n
  | 0, n, h => by simp at h; subst h; rfl
  | f + 1, n, h => by
    unfold Lib.bitLenAux
    by_cases h0 : n = 0
    · subst h0; rfl
    · rw [if_neg h0, bitLen_half h0, libBitLenAux f (n / 2) (by rw [Nat.pow_succ] at h; omega)]
theorem libBitLen {n : Nat} (h : n < B64) : Lib.bitLen n = bitLen n := libBitLenAux 64 n h
theorem bitLen_lt (n : Nat) : n < 2 ^ bitLen n := by
  unfold bitLen
  split
  · rename_i h; rw [h]; decide
  · exact Nat.lt_log2_self
theorem bitLen_ge {n : Nat} (h : n ≠ 0) : 2 ^ (bitLen n - 1) ≤ n := by
  unfold bitLen
  rw [if_neg h, Nat.add_sub_cancel]
  exact Nat.log2_self_le h
theorem bitLen_le {n k : Nat} (h : n < 2 ^ k) : bitLen n ≤ k := by
  by_cases h0 : n = 0
  · subst h0; simp [bitLen]
  · have h1 := bitLen_ge h0
    have : 2 ^ (bitLen n - 1) < 2 ^ k := by omega
    have := (Nat.pow_lt_pow_iff_right (by omega : 1 < 2)).1 this
    omega
theorem bitLen_pos {n : Nat} (h : n ≠ 0) : 1 ≤ bitLen n := by unfold bitLen; rw [if_neg h]; omega

/-- How far a limb is shifted so that its highest bit is set. -/
def lead (y : Nat) : Nat := 64 - bitLen y
theorem lead_lt {y : Nat} (h0 : y ≠ 0) : lead y < 64 := by have := bitLen_pos h0; unfold lead; omega
theorem lead_top {y : Nat} (h0 : y ≠ 0) (hy : y < B64) : y * 2 ^ lead y < B64 ∧ B64 ≤ 2 * (y * 2 ^ lead y) := by
  have h1 := bitLen_lt y
  have h2 := bitLen_ge h0
  have h3 : bitLen y ≤ 64 := bitLen_le hy
  have h4 := bitLen_pos h0
  have e : B64 = 2 ^ bitLen y * 2 ^ lead y := by unfold lead; rw [← Nat.pow_add, show bitLen y + (64 - bitLen y) = 64 by omega]; rfl
  constructor
  · rw [e]; exact Nat.mul_lt_mul_of_pos_right h1 (Nat.two_pow_pos _)
  · rw [e]
    have e2 : 2 ^ bitLen y = 2 * 2 ^ (bitLen y - 1) := by
      have : bitLen y = (bitLen y - 1) + 1 := by omega
      conv => lhs; rw [this, Nat.pow_succ]
      omega
    rw [e2, Nat.mul_assoc]
    exact Nat.mul_le_mul_left 2 (Nat.mul_le_mul_right _ h2)

set_option maxHeartbeats 1000000 in
theorem lead_calls (y : Nat) (hy : y < B64) (w : World) : Calls Tryz.prog 142 #[.int .u64 (y : Int)] w (Ret (.int .i64 (lead y : Nat)) w) := by
  refine (Tryz.bits_LeadingZeros64 (y : Int) w (by omega) (by rw [B64_eq] at hy; omega)).mono ?_
  rintro e w' ⟨rfl, rfl⟩
  refine ⟨?_, rfl⟩
  rw [Int.toNat_natCast, libBitLen hy]
  have : bitLen y ≤ 64 := bitLen_le hy
  unfold lead
  rw [Int.ofNat_sub this]; rfl

/-- One half of a quotient: the digit that is tried is too great, or it is the digit. -/
theorem half_more {b y1 y0 y u x q r : Nat} (hy : y = y1 * b + y0) (hu : u < y) (hx : x < b) (he : q * y1 + r = u) (h : b ≤ q ∨ b * r + x < q * y0) :
    (u * b + x) / y + 1 ≤ q := by
  have hy0 : 0 < y := by omega
  apply Nat.succ_le_of_lt
  rcases h with h | h
  · refine Nat.lt_of_lt_of_le ?_ h
    rw [Nat.div_lt_iff_lt_mul hy0]
    have : (u + 1) * b ≤ y * b := Nat.mul_le_mul_right b hu
    rw [Nat.add_mul] at this
    rw [Nat.mul_comm b y]
    omega
  · rw [Nat.div_lt_iff_lt_mul hy0, hy, Nat.mul_add, ← Nat.mul_assoc, ← he, Nat.add_mul, Nat.mul_comm r b]
    omega
theorem half_done {b y1 y0 y u x q r : Nat} (hy : y = y1 * b + y0) (hu : u < y) (h0 : y0 < b) (he : q * y1 + r = u) (hQ : (u * b + x) / y ≤ q) (h : (q < b ∧ q * y0 ≤ b * r + x) ∨ b ≤ r) : (u * b + x) / y = q := by
  have hy0 : 0 < y := by omega
  refine Nat.le_antisymm hQ ((Nat.le_div_iff_mul_le hy0).2 ?_)
  have key : q * y0 ≤ b * r + x := by
    rcases h with h | h
    · exact h.2
    · have hq : q < b := by
        rcases Nat.lt_or_ge q b with h' | h'
        · exact h'
        · exfalso
          have := Nat.mul_le_mul_right y1 h'
          rw [Nat.mul_comm b y1] at this
          omega
      have h1 : q * y0 ≤ b * y0 := Nat.mul_le_mul_right _ (by omega)
      have h2 : b * y0 ≤ b * r := Nat.mul_le_mul_left _ (by omega)
      omega
  rw [hy, Nat.mul_add, ← Nat.mul_assoc, ← he, Nat.add_mul, Nat.mul_comm r b]
  omega

/-- Both halves make the whole quotient. -/
theorem halves {b y u x1 x0 : Nat} (hy : 0 < y) : ((u * b + x1) / y) * b + (((u * b + x1) % y) * b + x0) / y = ((u * b + x1) * b + x0) / y ∧ (((u * b + x1) % y) * b + x0) % y = ((u * b + x1) * b + x0) % y := by
  have h := Nat.div_add_mod (u * b + x1) y
  generalize (u * b + x1) / y = q at *
  generalize (u * b + x1) % y = r at *
  have e : (u * b + x1) * b + x0 = y * (q * b) + (r * b + x0) := by
    rw [← h, Nat.add_mul, Nat.mul_assoc]; omega
  rw [e]
  constructor
  · rw [Nat.mul_add_div hy]
  · rw [Nat.mul_add_mod]

/-- What a half's loop keeps: the digit that is tried, and what is left. -/
def DivRel (y1 u Q : Nat) (qv rv : Value) : Prop :=
  ∃ q r : Nat, qv = .int .u64 q ∧ rv = .int .u64 r ∧ q * y1 + r = u ∧ r < 4294967296 ∧ Q ≤ q ∧ q ≤ u

theorem pred_mul {q y1 r u : Nat} (h : q * y1 + r = u) (hq : 0 < q) : (q - 1) * y1 + (r + y1) = u := by
  have : q = (q - 1) + 1 := by omega
  rw [this, Nat.add_mul] at h
  omega
theorem mul_lt_2p32 {a b : Nat} (ha : a < 4294967296) (hb : b < 4294967296) : a * b < 18446744073709551616 := by
  have := Nat.mul_le_mul (Nat.le_of_lt_succ ha : a ≤ 4294967295) (Nat.le_of_lt_succ hb : b ≤ 4294967295)
  omega

def divQ (hi lo y : Nat) : Nat := (hi * B64 + lo) / y
def divR (hi lo y : Nat) : Nat := (hi * B64 + lo) % y

set_option maxHeartbeats 1000000 in
set_option maxRecDepth 100000 in
theorem div64_zero (lo y : Nat) (hlo : lo < B64) (hy : y < B64) (h0 : y ≠ 0) (w : World) :
    Calls Tryz.prog 141 #[.int .u64 0, .int .u64 (lo : Int), .int .u64 (y : Int)] w (RetD (.tuple #[.int .u64 ((lo / y : Nat) : Int), .int .u64 ((lo % y : Nat) : Int)]) w) := by
  have g5 : ¬ (y = 0) := by omega
  have g6 : decide (y = 0) = false := by simp; omega
  have h1 : ((y : Int) == 0) = false := by rw [beq_eq_false_iff_ne]; omega
  have h2 : 1 ≤ (y : Int) := by omega
  have h3 : (lo : Int) < 18446744073709551616 := by rw [B64_eq] at hlo; omega
  have h4 : (y : Int) < 18446744073709551616 := by rw [B64_eq] at hy; omega
  have h5 : (0 : Int) ≤ (lo : Int) := by omega
  obtain ⟨q, hq⟩ : ∃ q, lo / y = q := ⟨_, rfl⟩
  obtain ⟨r, hr⟩ : ∃ r, lo % y = r := ⟨_, rfl⟩
  have e1 : (lo : Int) / (y : Int) = (q : Int) := by rw [← hq]; simp
  have e2 : (lo : Int) % (y : Int) = (r : Int) := by rw [← hr]; simp
  have e3 : (lo : Int).tmod (y : Int) = (r : Int) := by rw [Int.tmod_eq_emod_of_nonneg (by omega)]; exact e2
  have e4 : (lo : Int).tdiv (y : Int) = (q : Int) := by rw [Int.tdiv_eq_ediv_of_nonneg (by omega)]; exact e1
  have hqb : (q : Int) < 18446744073709551616 := by
    have : q < B64 := by rw [← hq]; exact Nat.lt_of_le_of_lt (Nat.div_le_self _ _) hlo
    rw [B64_eq] at this; omega
  rw [hq, hr]
  clear hq hr hlo hy h0
  go_enter Tryz.func141, Tryz.ntmps141
  go_wp2_with fail
  go_quiet (fail)
  go_wp2_with fail
  go_ret2
  exact ⟨rfl, _, rfl⟩

set_option maxHeartbeats 4000000 in
set_option maxRecDepth 100000 in
theorem div64_pos (hi lo y : Nat) (hhi : hi < y) (hlo : lo < B64) (hy : y < B64) (h0 : hi ≠ 0) (w : World) :
    Calls Tryz.prog 141 #[.int .u64 (hi : Int), .int .u64 (lo : Int), .int .u64 (y : Int)] w (RetD (.tuple #[.int .u64 (divQ hi lo y : Nat), .int .u64 (divR hi lo y : Nat)]) w) := by
  have hyne : y ≠ 0 := by omega
  have CL := Lib.hid (fun w => lead_calls y hy w)
  obtain ⟨ht1, ht2⟩ := lead_top hyne hy
  have hs := lead_lt hyne
  generalize lead y = s at *
  have hps : 0 < 2 ^ s := Nat.two_pow_pos s
  -- the divisor, shifted, and its halves
  obtain ⟨Y, hY⟩ : ∃ Y, y * 2 ^ s = Y := ⟨_, rfl⟩
  rw [hY] at ht1 ht2
  rw [B64_eq] at ht1 ht2
  obtain ⟨y1, hy1⟩ : ∃ y1, Y / 4294967296 = y1 := ⟨_, rfl⟩
  obtain ⟨y0, hy0'⟩ : ∃ y0, Y % 4294967296 = y0 := ⟨_, rfl⟩
  have hYY : Y = y1 * 4294967296 + y0 := by omega
  have hy0 : y0 < 4294967296 := by omega
  have hy1p : 1 ≤ y1 := by omega
  have hy1b : y1 < 4294967296 := by omega
  -- the dividend, shifted, and its halves
  obtain ⟨h2, hh2⟩ : ∃ h2, hi * 2 ^ s = h2 := ⟨_, rfl⟩
  obtain ⟨l2, hl2⟩ : ∃ l2, shrS lo (64 - s) = l2 := ⟨_, rfl⟩
  obtain ⟨L, hL⟩ : ∃ L, shlS lo s = L := ⟨_, rfl⟩
  have hLb : L < B64 := by rw [← hL]; exact shlS_lt _ _
  have hsh : L + B64 * l2 = lo * 2 ^ s := by rw [← hL, ← hl2]; exact shl_eq (by omega)
  have hl2b : l2 < 2 ^ s := by rw [← hl2]; exact shrS_lt hlo (by omega)
  have hUY : h2 + l2 < Y := by
    have : (hi + 1) * 2 ^ s ≤ y * 2 ^ s := Nat.mul_le_mul_right _ hhi
    rw [Nat.add_mul] at this
    omega
  have hor : h2 ||| l2 = h2 + l2 := by
    rw [← hh2, Nat.mul_comm, ← Nat.two_pow_add_eq_or_of_lt hl2b]
  obtain ⟨U, hU⟩ : ∃ U, h2 + l2 = U := ⟨_, rfl⟩
  obtain ⟨x1, hx1⟩ : ∃ x1, L / 4294967296 = x1 := ⟨_, rfl⟩
  obtain ⟨x0, hx0⟩ : ∃ x0, L % 4294967296 = x0 := ⟨_, rfl⟩
  rw [B64_eq] at hLb
  have hx1b : x1 < 4294967296 := by omega
  have hx0b : x0 < 4294967296 := by omega
  have hLx : L = x1 * 4294967296 + x0 := by omega
  have hNum : (U * 4294967296 + x1) * 4294967296 + x0 = (hi * B64 + lo) * 2 ^ s := by
    rw [Nat.add_mul (hi * B64) lo (2 ^ s), Nat.mul_assoc hi B64 (2 ^ s), Nat.mul_comm B64 (2 ^ s), ← Nat.mul_assoc hi (2 ^ s) B64, hh2, ← hsh, ← hU, B64_eq]
    omega
  -- the two digits, and what is left
  obtain ⟨Q1, hQ1⟩ : ∃ Q1, (U * 4294967296 + x1) / Y = Q1 := ⟨_, rfl⟩
  obtain ⟨V, hV⟩ : ∃ V, (U * 4294967296 + x1) % Y = V := ⟨_, rfl⟩
  have hYp : 0 < Y := by omega
  have hVY : V < Y := by rw [← hV]; exact Nat.mod_lt _ hYp
  obtain ⟨Q0, hQ0⟩ : ∃ Q0, (V * 4294967296 + x0) / Y = Q0 := ⟨_, rfl⟩
  obtain ⟨R, hR⟩ : ∃ R, (V * 4294967296 + x0) % Y = R := ⟨_, rfl⟩
  have hRY : R < Y := by rw [← hR]; exact Nat.mod_lt _ hYp
  have hQ1b : Q1 < 4294967296 := by
    rw [← hQ1, Nat.div_lt_iff_lt_mul hYp]; omega
  have hQ0b : Q0 < 4294967296 := by
    rw [← hQ0, Nat.div_lt_iff_lt_mul hYp]; omega
  have hfin1 : Q1 * 4294967296 + Q0 = divQ hi lo y := by
    have := (halves (b := 4294967296) (y := Y) (u := U) (x1 := x1) (x0 := x0) hYp).1
    rw [hQ1, hV, hQ0, hNum, ← hY, Nat.mul_div_mul_right _ _ hps] at this
    exact this
  have hfin2 : R = divR hi lo y * 2 ^ s := by
    have := (halves (b := 4294967296) (y := Y) (u := U) (x1 := x1) (x0 := x0) hYp).2
    rw [hV, hR, hNum, ← hY, Nat.mul_mod_mul_right] at this
    exact this
  have hdm1 := Nat.div_add_mod (U * 4294967296 + x1) Y
  rw [hQ1, hV, Nat.mul_comm Y] at hdm1
  have hdm0 := Nat.div_add_mod (V * 4294967296 + x0) Y
  rw [hQ0, hR, Nat.mul_comm Y] at hdm0
  -- what the walk writes, step by step
  have r1 : IntKind.u64.wrap ((y : Int) * 2 ^ s) = (Y : Int) := by
    rw [show (y : Int) * 2 ^ s = ((y * 2 ^ s : Nat) : Int) by simp, u64_wrap_nat, hY, B64_eq, Nat.mod_eq_of_lt ht1]
  have r2 : (Y : Int) / 4294967296 = (y1 : Int) := by omega
  have r3 : bits .and .u64 (Y : Int) 4294967295 = (y0 : Int) := by rw [Mul64.maskN Y ht1, hy0']
  have r4 : IntKind.u64.wrap ((hi : Int) * 2 ^ s) = (h2 : Int) := by
    rw [show (hi : Int) * 2 ^ s = ((hi * 2 ^ s : Nat) : Int) by simp, u64_wrap_nat, hh2, B64_eq, Nat.mod_eq_of_lt (by omega)]
  have r5 : (lo : Int) / 2 ^ (64 - s) = (l2 : Int) := by rw [← hl2]; unfold shrS; simp
  have r6 : bits .or .u64 (h2 : Int) (l2 : Int) = (U : Int) := by
    rw [bits_or_u64_nat h2 l2 (by omega) (by omega), hor, hU]
  have r7 : IntKind.u64.wrap ((lo : Int) * 2 ^ s) = (L : Int) := by
    rw [show (lo : Int) * 2 ^ s = ((lo * 2 ^ s : Nat) : Int) by simp, u64_wrap_nat]; exact congrArg Int.ofNat hL
  have r8 : (L : Int) / 4294967296 = (x1 : Int) := by omega
  have r9 : bits .and .u64 (L : Int) 4294967295 = (x0 : Int) := by rw [Mul64.maskN L hLb, hx0]
  have hUb : U < 18446744073709551616 := by omega
  obtain ⟨q1, hq1⟩ : ∃ q1, U / y1 = q1 := ⟨_, rfl⟩
  obtain ⟨p1, hp1⟩ : ∃ p1, q1 * y1 = p1 := ⟨_, rfl⟩
  have hUd := Nat.div_add_mod U y1
  rw [hq1, Nat.mul_comm, hp1] at hUd
  have hUm := Nat.mod_lt U (by omega : 0 < y1)
  obtain ⟨r1', hr1⟩ : ∃ r1', U % y1 = r1' := ⟨_, rfl⟩
  rw [hr1] at hUd hUm
  have hqle1 : q1 ≤ U := by rw [← hq1]; exact Nat.div_le_self _ _
  have r10 : (U : Int) / (y1 : Int) = (q1 : Int) := by rw [← hq1]; simp
  have r11 : IntKind.u64.wrap ((q1 : Int) * (y1 : Int)) = (p1 : Int) := by
    rw [← Int.natCast_mul, hp1, u64_wrap_nat, B64_eq, Nat.mod_eq_of_lt (by omega)]
  have r12 : (U : Int) - (p1 : Int) = (r1' : Int) := by omega
  have E1 := Lib.hid (show q1 * y1 + r1' = U by rw [hp1]; exact hUd)
  have hQq1 : Q1 ≤ q1 := by
    rw [← hQ1, ← hq1]
    apply Nat.le_of_lt_succ
    rw [Nat.div_lt_iff_lt_mul hYp, hYY]
    have h1 : U < (U / y1 + 1) * y1 := by rw [hq1, Nat.add_mul, hp1]; omega
    have h2 : (U + 1) * 4294967296 ≤ (U / y1 + 1) * y1 * 4294967296 := Nat.mul_le_mul_right _ h1
    rw [Nat.mul_assoc] at h2
    have h3 : (U / y1).succ * (y1 * 4294967296 + y0) = (U / y1 + 1) * (y1 * 4294967296) + (U / y1 + 1) * y0 := Nat.mul_add _ _ _
    omega
  have hr1b : r1' < 4294967296 := by omega
  obtain ⟨q2, hq2⟩ : ∃ q2, V / y1 = q2 := ⟨_, rfl⟩
  obtain ⟨p2, hp2⟩ : ∃ p2, q2 * y1 = p2 := ⟨_, rfl⟩
  have hVd := Nat.div_add_mod V y1
  rw [hq2, Nat.mul_comm, hp2] at hVd
  have hVm := Nat.mod_lt V (by omega : 0 < y1)
  obtain ⟨r2, hr2'⟩ : ∃ r2, V % y1 = r2 := ⟨_, rfl⟩
  rw [hr2'] at hVd hVm
  have hqle2 : q2 ≤ V := by rw [← hq2]; exact Nat.div_le_self _ _
  have s10 : (V : Int) / (y1 : Int) = (q2 : Int) := by rw [← hq2]; simp
  have s11 : IntKind.u64.wrap ((q2 : Int) * (y1 : Int)) = (p2 : Int) := by
    rw [← Int.natCast_mul, hp2, u64_wrap_nat, B64_eq, Nat.mod_eq_of_lt (by omega)]
  have s12 : (V : Int) - (p2 : Int) = (r2 : Int) := by omega
  have E2 := Lib.hid (show q2 * y1 + r2 = V by rw [hp2]; exact hVd)
  have hQq2 : Q0 ≤ q2 := by
    rw [← hQ0, ← hq2]
    apply Nat.le_of_lt_succ
    rw [Nat.div_lt_iff_lt_mul hYp, hYY]
    have h1 : V < (V / y1 + 1) * y1 := by rw [hq2, Nat.add_mul, hp2]; omega
    have h2 : (V + 1) * 4294967296 ≤ (V / y1 + 1) * y1 * 4294967296 := Nat.mul_le_mul_right _ h1
    rw [Nat.mul_assoc] at h2
    have h3 : (V / y1).succ * (y1 * 4294967296 + y0) = (V / y1 + 1) * (y1 * 4294967296) + (V / y1 + 1) * y0 := Nat.mul_add _ _ _
    omega
  have hr2 : r2 < 4294967296 := by omega
  have HQ2 := Lib.hid hQq2
  -- what is left behind each half
  obtain ⟨m1, hm1⟩ : ∃ m1, U * 4294967296 % 18446744073709551616 = m1 := ⟨_, rfl⟩
  obtain ⟨m2, hm2⟩ : ∃ m2, (m1 + x1) % 18446744073709551616 = m2 := ⟨_, rfl⟩
  obtain ⟨m3, hm3⟩ : ∃ m3, Q1 * Y % 18446744073709551616 = m3 := ⟨_, rfl⟩
  have t1 : IntKind.u64.wrap ((U : Int) * 4294967296) = (m1 : Int) := by
    rw [show (U : Int) * 4294967296 = ((U * 4294967296 : Nat) : Int) by simp, u64_wrap_nat, B64_eq, hm1]
  have t2 : IntKind.u64.wrap ((m1 : Int) + (x1 : Int)) = (m2 : Int) := by
    rw [← Int.natCast_add, u64_wrap_nat, B64_eq, hm2]
  have t3 : IntKind.u64.wrap ((Q1 : Int) * (Y : Int)) = (m3 : Int) := by
    rw [← Int.natCast_mul, u64_wrap_nat, B64_eq, hm3]
  have t4 : IntKind.u64.wrap ((m2 : Int) - (m3 : Int)) = (V : Int) := by
    rw [IntKind.wrap_u64]; generalize Q1 * Y = QY at *; omega
  obtain ⟨m4, hm4⟩ : ∃ m4, V * 4294967296 % 18446744073709551616 = m4 := ⟨_, rfl⟩
  obtain ⟨m5, hm5⟩ : ∃ m5, (m4 + x0) % 18446744073709551616 = m5 := ⟨_, rfl⟩
  obtain ⟨m6, hm6⟩ : ∃ m6, Q0 * Y % 18446744073709551616 = m6 := ⟨_, rfl⟩
  have t5 : IntKind.u64.wrap ((V : Int) * 4294967296) = (m4 : Int) := by
    rw [show (V : Int) * 4294967296 = ((V * 4294967296 : Nat) : Int) by simp, u64_wrap_nat, B64_eq, hm4]
  have t6 : IntKind.u64.wrap ((m4 : Int) + (x0 : Int)) = (m5 : Int) := by
    rw [← Int.natCast_add, u64_wrap_nat, B64_eq, hm5]
  have t7 : IntKind.u64.wrap ((Q0 : Int) * (Y : Int)) = (m6 : Int) := by
    rw [← Int.natCast_mul, u64_wrap_nat, B64_eq, hm6]
  have t8 : IntKind.u64.wrap ((m5 : Int) - (m6 : Int)) = (R : Int) := by
    rw [IntKind.wrap_u64]; generalize Q0 * Y = QY at *; omega
  have t9 : (R : Int) / 2 ^ s = ((divR hi lo y : Nat) : Int) := by
    rw [hfin2]; rw [show ((divR hi lo y * 2 ^ s : Nat) : Int) / 2 ^ s = ((divR hi lo y * 2 ^ s / 2 ^ s : Nat) : Int) by simp, Nat.mul_div_cancel _ hps]
  have t10 : (Q1 : Int) * 4294967296 + (Q0 : Int) = ((divQ hi lo y : Nat) : Int) := by rw [← hfin1]; simp
  generalize divQ hi lo y = FQ at *
  generalize divR hi lo y = FR at *
  have HY := Lib.hid hYY
  have HUY := Lib.hid (show U < Y by omega)
  have HVY := Lib.hid hVY
  have HX1 := Lib.hid hx1b
  have HX0 := Lib.hid hx0b
  have HQ1 := Lib.hid hQ1
  have HQ0 := Lib.hid hQ0
  have HQA := Lib.hid hQq1
  have g1 : ((y : Int) == 0) = false := by rw [beq_eq_false_iff_ne]; omega
  have g2 : ((hi : Int) == 0) = false := by rw [beq_eq_false_iff_ne]; omega
  have g3 : ¬ ((y : Int) ≤ (hi : Int)) := by omega
  have hsz : (s : Int) < 64 := by omega
  have hm1b : m1 < 18446744073709551616 := by omega
  have hm4b : m4 < 18446744073709551616 := by omega
  have hYb : Y < 18446744073709551616 := ht1
  have hVb : V < 18446744073709551616 := by omega
  have hp1U : p1 ≤ U := by omega
  have hp2V : p2 ≤ V := by omega
  have hLb' : L < 18446744073709551616 := hLb
  have hyb : (y : Int) < 18446744073709551616 := by rw [B64_eq] at hy; omega
  have hlob : (lo : Int) < 18446744073709551616 := by rw [B64_eq] at hlo; omega
  clear hYY hUY hVY hQ1 hQ0 hQq1 hQq2 hm1 hm2 hm3 hm4 hm5 hm6 hdm1 hdm0 hfin1 hfin2 hNum hLx hsh hh2 hl2 hL hor hU hx1 hx0 hV hR hY hy1 hy0' hq1 hp1 hUd hr1 hq2 hp2 hVd hr2' ht2 hl2b hps hyne hRY
  go_enter Tryz.func141, Tryz.ntmps141
  go_wp2_with fail
  refine (CL.out _).mono ?_
  rintro e w' ⟨rfl, rfl⟩
  go_wp2_with fail
  go_loop [15, 16] (fun qv rv => DivRel y1 U Q1 qv rv) (fun qv _ => (intOf qv).toNat)
  case atStart => exact ⟨q1, r1', rfl, rfl, E1.out, hr1b, HQA.out, hqle1⟩
  case round =>
    obtain ⟨q, r, rfl, rfl, he, hr, hQ, hqU⟩ := hrel
    have HE := Lib.hid he
    have HQ := Lib.hid hQ
    clear he hQ
    by_cases hb : (4294967296 : Int) ≤ (q : Int)
    · have hm := Lib.hid (half_more HY.out HUY.out HX1.out HE.out (.inl (by omega)))
      have hq1 : 0 < q := by omega
      by_cases hbr : (4294967296 : Int) ≤ (r : Int) + (y1 : Int)
      · have hd := Lib.hid (half_done (q := q - 1) (r := r + y1) HY.out HUY.out hy0 (pred_mul HE.out hq1) (Nat.le_sub_one_of_lt hm.out) (.inr (by omega)))
        have hqq : (q : Int) - 1 = (Q1 : Int) := by have h1 := hd.out; have h2 := HQ1.out; omega
        clear hd
        go_wp2_with fail
        go_loop [18, 16] (fun qv rv => DivRel y1 V Q0 qv rv) (fun qv _ => (intOf qv).toNat)
        case atStart => exact ⟨q2, r2, rfl, rfl, E2.out, hr2, HQ2.out, hqle2⟩
        case round =>
          obtain ⟨q, r, rfl, rfl, he, hr, hQ, hqV⟩ := hrel
          have HE := Lib.hid he
          have HQ := Lib.hid hQ
          clear he hQ
          by_cases hb : (4294967296 : Int) ≤ (q : Int)
          · have hm := Lib.hid (half_more HY.out HVY.out HX0.out HE.out (.inl (by omega)))
            have hq1 : 0 < q := by omega
            by_cases hbr : (4294967296 : Int) ≤ (r : Int) + (y1 : Int)
            · have hd := Lib.hid (half_done (q := q - 1) (r := r + y1) HY.out HVY.out hy0 (pred_mul HE.out hq1) (Nat.le_sub_one_of_lt hm.out) (.inr (by omega)))
              have hqq : (q : Int) - 1 = (Q0 : Int) := by have h1 := hd.out; have h2 := HQ0.out; omega
              clear hd
              go_wp2_with fail
              go_ret2
              exact ⟨rfl, 0, rfl⟩
            · go_wp2_with fail
              go_round
              case rel => exact ⟨q - 1, r + y1, by go_num, by go_num, pred_mul HE.out hq1, by omega, by have := hm.out; rw [HQ0.out] at this; omega, by omega⟩
              case measure => simp [intOf]; omega
          · obtain ⟨p, hp⟩ : ∃ p, q * y0 = p := ⟨_, rfl⟩
            have hpb : p < 18446744073709551616 := by rw [← hp]; exact mul_lt_2p32 (by omega) hy0
            have hpm : IntKind.u64.wrap ((q : Int) * (y0 : Int)) = (p : Int) := by
              rw [← Int.natCast_mul, hp, u64_wrap_nat, B64_eq, Nat.mod_eq_of_lt hpb]
            have HP := Lib.hid hp
            clear hp
            by_cases hc : (4294967296 : Int) * (r : Int) + (x0 : Int) < (p : Int)
            · have hm := Lib.hid (half_more HY.out HVY.out HX0.out HE.out (.inr (by rw [HP.out]; omega)))
              have hq1 : 0 < q := by
                rcases Nat.eq_zero_or_pos q with h | h
                · exfalso; have := HP.out; rw [h] at this; omega
                · exact h
              by_cases hbr : (4294967296 : Int) ≤ (r : Int) + (y1 : Int)
              · have hd := Lib.hid (half_done (q := q - 1) (r := r + y1) HY.out HVY.out hy0 (pred_mul HE.out hq1) (Nat.le_sub_one_of_lt hm.out) (.inr (by omega)))
                have hqq : (q : Int) - 1 = (Q0 : Int) := by have h1 := hd.out; have h2 := HQ0.out; omega
                clear hd
                go_wp2_with fail
                go_ret2
                exact ⟨rfl, 0, rfl⟩
              · go_wp2_with fail
                go_round
                case rel => exact ⟨q - 1, r + y1, by go_num, by go_num, pred_mul HE.out hq1, by omega, by have := hm.out; rw [HQ0.out] at this; omega, by omega⟩
                case measure => simp [intOf]; omega
            · have hd := Lib.hid (half_done HY.out HVY.out hy0 HE.out (by rw [HQ0.out]; exact HQ.out) (.inl ⟨by omega, by rw [HP.out]; omega⟩))
              have hqn : q = Q0 := by have h1 := hd.out; have h2 := HQ0.out; omega
              clear hd
              subst hqn
              go_wp2_with fail
              go_ret2
              exact ⟨rfl, 0, rfl⟩
      · go_wp2_with fail
        go_round
        case rel => exact ⟨q - 1, r + y1, by go_num, by go_num, pred_mul HE.out hq1, by omega, by have := hm.out; rw [HQ1.out] at this; omega, by omega⟩
        case measure => simp [intOf]; omega
    · obtain ⟨p, hp⟩ : ∃ p, q * y0 = p := ⟨_, rfl⟩
      have hpb : p < 18446744073709551616 := by rw [← hp]; exact mul_lt_2p32 (by omega) hy0
      have hpm : IntKind.u64.wrap ((q : Int) * (y0 : Int)) = (p : Int) := by
        rw [← Int.natCast_mul, hp, u64_wrap_nat, B64_eq, Nat.mod_eq_of_lt hpb]
      have HP := Lib.hid hp
      clear hp
      by_cases hc : (4294967296 : Int) * (r : Int) + (x1 : Int) < (p : Int)
      · have hm := Lib.hid (half_more HY.out HUY.out HX1.out HE.out (.inr (by rw [HP.out]; omega)))
        have hq1 : 0 < q := by
          rcases Nat.eq_zero_or_pos q with h | h
          · exfalso; have := HP.out; rw [h] at this; omega
          · exact h
        by_cases hbr : (4294967296 : Int) ≤ (r : Int) + (y1 : Int)
        · have hd := Lib.hid (half_done (q := q - 1) (r := r + y1) HY.out HUY.out hy0 (pred_mul HE.out hq1) (Nat.le_sub_one_of_lt hm.out) (.inr (by omega)))
          have hqq : (q : Int) - 1 = (Q1 : Int) := by have h1 := hd.out; have h2 := HQ1.out; omega
          clear hd
          go_wp2_with fail
          go_loop [18, 16] (fun qv rv => DivRel y1 V Q0 qv rv) (fun qv _ => (intOf qv).toNat)
          case atStart => exact ⟨q2, r2, rfl, rfl, E2.out, hr2, HQ2.out, hqle2⟩
          case round =>
            obtain ⟨q, r, rfl, rfl, he, hr, hQ, hqV⟩ := hrel
            have HE := Lib.hid he
            have HQ := Lib.hid hQ
            clear he hQ
            by_cases hb : (4294967296 : Int) ≤ (q : Int)
            · have hm := Lib.hid (half_more HY.out HVY.out HX0.out HE.out (.inl (by omega)))
              have hq1 : 0 < q := by omega
              by_cases hbr : (4294967296 : Int) ≤ (r : Int) + (y1 : Int)
              · have hd := Lib.hid (half_done (q := q - 1) (r := r + y1) HY.out HVY.out hy0 (pred_mul HE.out hq1) (Nat.le_sub_one_of_lt hm.out) (.inr (by omega)))
                have hqq : (q : Int) - 1 = (Q0 : Int) := by have h1 := hd.out; have h2 := HQ0.out; omega
                clear hd
                go_wp2_with fail
                go_ret2
                exact ⟨rfl, 0, rfl⟩
              · go_wp2_with fail
                go_round
                case rel => exact ⟨q - 1, r + y1, by go_num, by go_num, pred_mul HE.out hq1, by omega, by have := hm.out; rw [HQ0.out] at this; omega, by omega⟩
                case measure => simp [intOf]; omega
            · obtain ⟨p, hp⟩ : ∃ p, q * y0 = p := ⟨_, rfl⟩
              have hpb : p < 18446744073709551616 := by rw [← hp]; exact mul_lt_2p32 (by omega) hy0
              have hpm : IntKind.u64.wrap ((q : Int) * (y0 : Int)) = (p : Int) := by
                rw [← Int.natCast_mul, hp, u64_wrap_nat, B64_eq, Nat.mod_eq_of_lt hpb]
              have HP := Lib.hid hp
              clear hp
              by_cases hc : (4294967296 : Int) * (r : Int) + (x0 : Int) < (p : Int)
              · have hm := Lib.hid (half_more HY.out HVY.out HX0.out HE.out (.inr (by rw [HP.out]; omega)))
                have hq1 : 0 < q := by
                  rcases Nat.eq_zero_or_pos q with h | h
                  · exfalso; have := HP.out; rw [h] at this; omega
                  · exact h
                by_cases hbr : (4294967296 : Int) ≤ (r : Int) + (y1 : Int)
                · have hd := Lib.hid (half_done (q := q - 1) (r := r + y1) HY.out HVY.out hy0 (pred_mul HE.out hq1) (Nat.le_sub_one_of_lt hm.out) (.inr (by omega)))
                  have hqq : (q : Int) - 1 = (Q0 : Int) := by have h1 := hd.out; have h2 := HQ0.out; omega
                  clear hd
                  go_wp2_with fail
                  go_ret2
                  exact ⟨rfl, 0, rfl⟩
                · go_wp2_with fail
                  go_round
                  case rel => exact ⟨q - 1, r + y1, by go_num, by go_num, pred_mul HE.out hq1, by omega, by have := hm.out; rw [HQ0.out] at this; omega, by omega⟩
                  case measure => simp [intOf]; omega
              · have hd := Lib.hid (half_done HY.out HVY.out hy0 HE.out (by rw [HQ0.out]; exact HQ.out) (.inl ⟨by omega, by rw [HP.out]; omega⟩))
                have hqn : q = Q0 := by have h1 := hd.out; have h2 := HQ0.out; omega
                clear hd
                subst hqn
                go_wp2_with fail
                go_ret2
                exact ⟨rfl, 0, rfl⟩
        · go_wp2_with fail
          go_round
          case rel => exact ⟨q - 1, r + y1, by go_num, by go_num, pred_mul HE.out hq1, by omega, by have := hm.out; rw [HQ1.out] at this; omega, by omega⟩
          case measure => simp [intOf]; omega
      · have hd := Lib.hid (half_done HY.out HUY.out hy0 HE.out (by rw [HQ1.out]; exact HQ.out) (.inl ⟨by omega, by rw [HP.out]; omega⟩))
        have hqn : q = Q1 := by have h1 := hd.out; have h2 := HQ1.out; omega
        clear hd
        subst hqn
        go_wp2_with fail
        go_loop [18, 16] (fun qv rv => DivRel y1 V Q0 qv rv) (fun qv _ => (intOf qv).toNat)
        case atStart => exact ⟨q2, r2, rfl, rfl, E2.out, hr2, HQ2.out, hqle2⟩
        case round =>
          obtain ⟨q, r, rfl, rfl, he, hr, hQ, hqV⟩ := hrel
          have HE := Lib.hid he
          have HQ := Lib.hid hQ
          clear he hQ
          by_cases hb : (4294967296 : Int) ≤ (q : Int)
          · have hm := Lib.hid (half_more HY.out HVY.out HX0.out HE.out (.inl (by omega)))
            have hq1 : 0 < q := by omega
            by_cases hbr : (4294967296 : Int) ≤ (r : Int) + (y1 : Int)
            · have hd := Lib.hid (half_done (q := q - 1) (r := r + y1) HY.out HVY.out hy0 (pred_mul HE.out hq1) (Nat.le_sub_one_of_lt hm.out) (.inr (by omega)))
              have hqq : (q : Int) - 1 = (Q0 : Int) := by have h1 := hd.out; have h2 := HQ0.out; omega
              clear hd
              go_wp2_with fail
              go_ret2
              exact ⟨rfl, 0, rfl⟩
            · go_wp2_with fail
              go_round
              case rel => exact ⟨q - 1, r + y1, by go_num, by go_num, pred_mul HE.out hq1, by omega, by have := hm.out; rw [HQ0.out] at this; omega, by omega⟩
              case measure => simp [intOf]; omega
          · obtain ⟨p, hp⟩ : ∃ p, q * y0 = p := ⟨_, rfl⟩
            have hpb : p < 18446744073709551616 := by rw [← hp]; exact mul_lt_2p32 (by omega) hy0
            have hpm : IntKind.u64.wrap ((q : Int) * (y0 : Int)) = (p : Int) := by
              rw [← Int.natCast_mul, hp, u64_wrap_nat, B64_eq, Nat.mod_eq_of_lt hpb]
            have HP := Lib.hid hp
            clear hp
            by_cases hc : (4294967296 : Int) * (r : Int) + (x0 : Int) < (p : Int)
            · have hm := Lib.hid (half_more HY.out HVY.out HX0.out HE.out (.inr (by rw [HP.out]; omega)))
              have hq1 : 0 < q := by
                rcases Nat.eq_zero_or_pos q with h | h
                · exfalso; have := HP.out; rw [h] at this; omega
                · exact h
              by_cases hbr : (4294967296 : Int) ≤ (r : Int) + (y1 : Int)
              · have hd := Lib.hid (half_done (q := q - 1) (r := r + y1) HY.out HVY.out hy0 (pred_mul HE.out hq1) (Nat.le_sub_one_of_lt hm.out) (.inr (by omega)))
                have hqq : (q : Int) - 1 = (Q0 : Int) := by have h1 := hd.out; have h2 := HQ0.out; omega
                clear hd
                go_wp2_with fail
                go_ret2
                exact ⟨rfl, 0, rfl⟩
              · go_wp2_with fail
                go_round
                case rel => exact ⟨q - 1, r + y1, by go_num, by go_num, pred_mul HE.out hq1, by omega, by have := hm.out; rw [HQ0.out] at this; omega, by omega⟩
                case measure => simp [intOf]; omega
            · have hd := Lib.hid (half_done HY.out HVY.out hy0 HE.out (by rw [HQ0.out]; exact HQ.out) (.inl ⟨by omega, by rw [HP.out]; omega⟩))
              have hqn : q = Q0 := by have h1 := hd.out; have h2 := HQ0.out; omega
              clear hd
              subst hqn
              go_wp2_with fail
              go_ret2
              exact ⟨rfl, 0, rfl⟩

end Go.Proofs.YtimcnhlcepemjaaGreatDoor
