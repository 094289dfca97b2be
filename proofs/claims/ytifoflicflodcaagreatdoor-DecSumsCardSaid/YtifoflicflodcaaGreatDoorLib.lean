/- Contracts of small functions of Go's library: cmp.Compare, math/bits. -/
import Derived.Test.YtifoflicflodcaaGreatDoorBase
import Derived.Test.YtifoflicflodcaaGreatDoorProg
import Derived.Laws.Externs
namespace Go.Proofs.YtifoflicflodcaaGreatDoor
open Go.RowKit

theorem info64 : (Tryz.prog.info? 26).map (fun i => (i.zero, i.size, i.bytes)) = some (some (.int .u64 0), 1, 8) := by kernel_rfl

set_option maxHeartbeats 400000 in
theorem cmpInt_calls (m n : Nat) (w : World) : Calls Tryz.prog 82 #[.int .i64 (m : Int), .int .i64 (n : Int)] w (Ret (.int .i64 (cmpN m n)) w) := by
  rcases Nat.lt_trichotomy m n with h | h | h
  · rw [cmpN_lt h]
    go_enter Tryz.func82, Tryz.ntmps82
    go_wp2
    go_ret
    exact ⟨rfl, rfl⟩
  · rw [cmpN_eq h]
    subst h
    go_enter Tryz.func82, Tryz.ntmps82
    go_wp2
    go_ret
    exact ⟨rfl, rfl⟩
  · rw [cmpN_gt h]
    have h' : ¬ m < n := by omega
    go_enter Tryz.func82, Tryz.ntmps82
    go_wp2
    go_ret
    exact ⟨rfl, rfl⟩
set_option maxHeartbeats 400000 in
theorem cmpU64_calls (m n : Nat) (w : World) : Calls Tryz.prog 83 #[.int .u64 (m : Int), .int .u64 (n : Int)] w (Ret (.int .i64 (cmpN m n)) w) := by
  rcases Nat.lt_trichotomy m n with h | h | h
  · rw [cmpN_lt h]
    go_enter Tryz.func83, Tryz.ntmps83
    go_wp2
    go_ret
    exact ⟨rfl, rfl⟩
  · rw [cmpN_eq h]
    subst h
    go_enter Tryz.func83, Tryz.ntmps83
    go_wp2
    go_ret
    exact ⟨rfl, rfl⟩
  · rw [cmpN_gt h]
    have h' : ¬ m < n := by omega
    go_enter Tryz.func83, Tryz.ntmps83
    go_wp2
    go_ret
    exact ⟨rfl, rfl⟩

/-- Sums and differences of limbs with a carry, behind names. -/
def addS (x y c : Nat) : Nat := (x + y + c) % B64
def addC (x y c : Nat) : Nat := (x + y + c) / B64
def subS (x y c : Nat) : Nat := (x + B64 - y - c) % B64
def subC (x y c : Nat) : Nat := if x < y + c then 1 else 0
theorem addS_lt (x y c : Nat) : addS x y c < B64 := Nat.mod_lt _ B64_pos
theorem addS_eq (x y c : Nat) : addS x y c + B64 * addC x y c = x + y + c := Nat.mod_add_div _ _
theorem addC_le {x y c : Nat} (hx : x < B64) (hy : y < B64) (hc : c ≤ 1) : addC x y c ≤ 1 := by
  unfold addC
  apply Nat.le_of_lt_succ
  rw [Nat.div_lt_iff_lt_mul B64_pos]
  omega
theorem subS_lt (x y c : Nat) : subS x y c < B64 := Nat.mod_lt _ B64_pos
theorem subC_le (x y c : Nat) : subC x y c ≤ 1 := by unfold subC; split <;> omega
theorem subS_eq {x y c : Nat} (hx : x < B64) (hy : y < B64) (hc : c ≤ 1) : subS x y c + y + c = x + B64 * subC x y c := sub64_step hx hy hc

theorem add64_run (x y c : Nat) (hc : c ≤ 1) (w : World) :
    (callFunc 73 #[.int .u64 (x : Int), .int .u64 (y : Int), .int .u64 (c : Int)]).run Tryz.prog w =
      .ok (.value (.tuple #[.int .u64 (addS x y c : Nat), .int .u64 (addC x y c : Nat)])) w := by
  rw [run_callFunc_extern Tryz.func73 (by kernel_rfl) (by kernel_rfl) (by kernel_rfl) (e := add64Entry) (by kernel_rfl), run_add64 x y c (by omega) (by omega) (by omega) (by omega)]
  simp only [Result.andThen, addS, addC, B64_eq]
  congr 5 <;> omega
theorem add64_run0 (x y : Nat) (w : World) :
    (callFunc 73 #[.int .u64 (x : Int), .int .u64 (y : Int), .int .u64 0]).run Tryz.prog w =
      .ok (.value (.tuple #[.int .u64 (addS x y 0 : Nat), .int .u64 (addC x y 0 : Nat)])) w := add64_run x y 0 (by omega) w
theorem add64_run1 (x c : Nat) (hc : c ≤ 1) (w : World) :
    (callFunc 73 #[.int .u64 (x : Int), .int .u64 0, .int .u64 (c : Int)]).run Tryz.prog w =
      .ok (.value (.tuple #[.int .u64 (addS x 0 c : Nat), .int .u64 (addC x 0 c : Nat)])) w := add64_run x 0 c hc w

/-- The model's entry for math/bits.Sub64. -/
def sub64Row : Array Value → Sem Value := fun args => do
  let (x, y, b) ← Extern.MathBitsCarry.three "Sub64" args
  pure (Extern.MathBitsCarry.pair ((x + Extern.MathBitsCarry.m64 - y - b) % Extern.MathBitsCarry.m64) (if x < y + b then 1 else 0))
theorem run_sub64Row {P : Program} (x y b : Nat) (hb : b ≤ 1) (w : World) :
    (sub64Row #[.int .u64 (x : Int), .int .u64 (y : Int), .int .u64 (b : Int)]).run P w =
      .ok (.tuple #[.int .u64 (subS x y b : Nat), .int .u64 (subC x y b : Nat)]) w := by
  have : b = 0 ∨ b = 1 := by omega
  rcases this with rfl | rfl <;> rfl
theorem sub64_run (x y c : Nat) (hc : c ≤ 1) (w : World) :
    (callFunc 107 #[.int .u64 (x : Int), .int .u64 (y : Int), .int .u64 (c : Int)]).run Tryz.prog w =
      .ok (.value (.tuple #[.int .u64 (subS x y c : Nat), .int .u64 (subC x y c : Nat)])) w := by
  rw [run_callFunc_extern Tryz.func107 (by kernel_rfl) (by kernel_rfl) (by kernel_rfl) (e := sub64Row) (by kernel_rfl), run_sub64Row x y c hc]
  rfl
theorem sub64_run1 (x c : Nat) (hc : c ≤ 1) (w : World) :
    (callFunc 107 #[.int .u64 (x : Int), .int .u64 0, .int .u64 (c : Int)]).run Tryz.prog w =
      .ok (.value (.tuple #[.int .u64 (subS x 0 c : Nat), .int .u64 (subC x 0 c : Nat)])) w := sub64_run x 0 c hc w

/-- The binary digits of a number. -/
def bitLen (n : Nat) : Nat := if n = 0 then 0 else n.log2 + 1

theorem bitLen_div (n k : Nat) (h : 2 ^ k ≤ n) : bitLen n = k + bitLen (n / 2 ^ k) := by
  have hp : 0 < 2 ^ k := Nat.two_pow_pos k
  have h1 : 0 < n / 2 ^ k := Nat.div_pos h hp
  unfold bitLen
  rw [if_neg (by omega), if_neg (by omega)]
  induction k generalizing n with
  | zero => simp
  | succ k ih =>
    have e : n / 2 ^ (k + 1) = (n / 2) / 2 ^ k := by rw [Nat.pow_succ, Nat.mul_comm, Nat.div_div_eq_div_mul]
    have h2 : 2 ^ k ≤ n / 2 := by rw [Nat.pow_succ] at h; omega
    have hp' : 0 < 2 ^ k := Nat.two_pow_pos k
    have := ih (n / 2) h2 hp' (by rw [← e]; exact h1)
    rw [e]
    rw [Nat.log2_def n, if_pos (by omega)]
    omega
theorem bitLen_table : ∀ x : Fin 256, (([0, 1, 2, 2, 3, 3, 3, 3, 4, 4, 4, 4, 4, 4, 4, 4, 5, 5, 5, 5, 5, 5, 5, 5, 5, 5, 5, 5, 5, 5, 5, 5] ++ List.replicate 32 6 ++ List.replicate 64 7 ++ List.replicate 128 8 : List Nat).getD x.val 0) = bitLen x.val := by decide +kernel

end Go.Proofs.YtifoflicflodcaaGreatDoor
