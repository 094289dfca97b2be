/- What gleanlaw10.known asks: the numbers. -/
import Derived.Test.YtpfhifjkecoahaaGreatDoorRate
import Derived.Test.YtpfhifjkecoahaaGreatDoorDText
import Derived.Test.YtpfhifjkecoahaaGreatDoorHelp
namespace Go.Proofs.YtpfhifjkecoahaaGreatDoor
open Go.RowKit Go.Lib

theorem issue_at {a : Option Addr} {m c : Nat} {xs : List Nat} {w : World} (T t S V : Nat) (er : Int) (ha : Sl w a m c xs) (hm : m ≤ 100000000) (hS : val xs = S) (hV : issV T S t = V) (hE : issE T S t = er) (hT : T < B64) (ht : t < B64) :
    Calls Tryz.prog 7 #[.int .u64 (T : Int), DecV a m c, .int .u64 (t : Int)] w (NewDE w (m + 5) (lim V) er) := by
  have := issue_calls T t hT ht ha hm
  rwa [hS, hV, hE] at this
theorem need_at {a : Option Addr} {m c : Nat} {xs : List Nat} {w : World} (T t S V : Nat) (er : Int) (ha : Sl w a m c xs) (hm : m ≤ 100000000) (hS : val xs = S) (hV : needV T S t = V) (hE : needE T t = er) (hT : T < B64) (ht : t < B64) :
    Calls Tryz.prog 11 #[.int .u64 (T : Int), DecV a m c, .int .u64 (t : Int)] w (NewDE w (m + 5) (lim V) er) := by
  have := need_calls T t hT ht ha hm
  rwa [hS, hV, hE] at this
theorem redeem_at {a b : Option Addr} {m c n d : Nat} {xs ys : List Nat} {w : World} (T S x V : Nat) (er : Int) (ha : Sl w a m c xs) (hb : Sl w b n d ys) (hm : m ≤ 100000000) (hn : n ≤ 100000000) (hS : val xs = S) (hx : val ys = x) (hV : redV T S x = V) (hE : redE S x = er) (hT : T < B64) :
    Calls Tryz.prog 9 #[.int .u64 (T : Int), DecV a m c, DecV b n d] w (RetE (.tuple #[.int .u64 (V : Int), .int .i64 er]) w) := by
  have := redeem_calls T hT ha hb hm hn
  rwa [hS, hx, hV, hE] at this
theorem worth_at {a b : Option Addr} {m c n d : Nat} {xs ys : List Nat} {w : World} (T S x V : Nat) (ha : Sl w a m c xs) (hb : Sl w b n d ys) (hm : m ≤ 100000000) (hn : n ≤ 100000000) (hS : val xs = S) (hx : val ys = x) (hV : worV T S x = V) (hT : T < B64) :
    Calls Tryz.prog 14 #[.int .u64 (T : Int), DecV a m c, DecV b n d] w (NewD w (n + 5) (lim V)) := by
  have := worth_calls T hT ha hb hm hn
  rwa [hS, hx, hV] at this
theorem dtext_at {a : Option Addr} {m c : Nat} {xs : List Nat} {w : World} (X : Nat) (l : List UInt8) (ha : Sl w a m c xs) (hm : m ≤ 1000) (ht : Tab w) (hX : val xs = X) (hl : decText X = l) :
    Calls Tryz.prog 24 #[DecV a m c] w (StrE l w) := by
  have := dtext_calls ha hm ht
  rwa [hX, hl] at this
theorem cut_at {w : World} (n p V : Nat) (hn : n < B64) (hp : p < B64) (hV : n * min p 10000 / 10000 = V) :
    Calls Tryz.prog 16 #[.int .u64 (n : Int), .int .u64 (p : Int)] w (RetE (.int .u64 (V : Int)) w) := by
  have := cut_calls n p hn hp w
  rwa [hV] at this

theorem decText_some {X n r : Nat} (hn : X / U36 = n) (hr : X % U36 = r) (h10 : n < 10) (h0 : r ≠ 0) : decText X = UInt8.ofNat (48 + n) :: 46 :: trimRightB (padk 36 r) 48 := by
  unfold decText
  rw [hr, if_neg h0, hn, decDigits_small h10]
  generalize trimRightB (padk 36 r) 48 = t
  simp
theorem decText_none {X n : Nat} (hn : X / U36 = n) (hr : X % U36 = 0) (h10 : n < 10) : decText X = [UInt8.ofNat (48 + n)] := by
  unfold decText
  rw [hr, if_pos rfl, hn, decDigits_small h10]

theorem k_a : issE 0 0 5 = 0 ∧ issV 0 0 5 = 5 * U36 := by decide +kernel
theorem k_b : issE 2 (3 * U36) 5 = 0 ∧ issV 2 (3 * U36) 5 = 75 * 10 ^ 35 := by decide +kernel
theorem k_g : issE 0 (1 * U36) 5 = 100 ∧ issV 0 (1 * U36) 5 = 0 := by decide +kernel
theorem k_c : redE (4 * U36) (1 * U36) = 0 ∧ redV 10 (4 * U36) (1 * U36) = 2 := by decide +kernel
theorem k_d : needE 10 3 = 0 ∧ needV 10 (4 * U36) 3 = 12 * 10 ^ 35 := by decide +kernel
theorem k_o : redE 1 1 = 0 ∧ redV 5 1 1 = 5 := by decide +kernel
theorem k_k : needE 1 2 = 102 ∧ needV 1 1 2 = 0 := by decide +kernel
theorem k_l : issE 1 (10 ^ 90) 1 = 103 ∧ issV 1 (10 ^ 90) 1 = 0 := by decide +kernel
theorem k_w : worV 1 (3 * U36) (1 * U36) = 333333333333333333333333333333333333 := by decide +kernel
theorem k_ta : decText (5 * U36) = [53] := decText_none (n := 5) (by decide +kernel) (by decide +kernel) (by decide)
theorem k_tb : decText (75 * 10 ^ 35) = [55, 46, 53] := by
  rw [decText_some (n := 7) (r := 5 * 10 ^ 35) (by decide +kernel) (by decide +kernel) (by decide) (by decide +kernel)]
  decide +kernel
theorem k_td : decText (12 * 10 ^ 35) = [49, 46, 50] := by
  rw [decText_some (n := 1) (r := 2 * 10 ^ 35) (by decide +kernel) (by decide +kernel) (by decide) (by decide +kernel)]
  decide +kernel
theorem k_tw : decText 333333333333333333333333333333333333 = [48, 46] ++ List.replicate 36 51 := by
  rw [decText_some (n := 0) (r := 333333333333333333333333333333333333) (by decide +kernel) (by decide +kernel) (by decide) (by decide)]
  decide +kernel

end Go.Proofs.YtpfhifjkecoahaaGreatDoor
