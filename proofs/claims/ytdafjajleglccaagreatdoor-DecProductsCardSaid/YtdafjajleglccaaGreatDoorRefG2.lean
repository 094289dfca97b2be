/- gleanref2's roundings with their numbers named, whatever the divisor. -/
import Derived.Test.YtdafjajleglccaaGreatDoorRefU
import Derived.Test.YtdafjajleglccaaGreatDoorDGen
import Derived.Test.YtdafjajleglccaaGreatDoorHDec
namespace Go.Proofs.YtdafjajleglccaaGreatDoor
open Go.RowKit Go.Lib

theorem rdquo_gen (X Y Q : Nat) (r : Int) {a b : Option Addr} {m n c d : Nat} {xs ys : List Nat} {w : World} (ha : Sl w a m c xs) (hb : Sl w b n d ys) (hx : val xs = X) (hy : val ys = Y) (h : qN false (X * U36) Y = Q) (hr : rdE Y = r) (hm : m ≤ 10000) (hn : n ≤ 10000) :
    Calls Tryz.prog 33 #[DecV a m c, DecV b n d] w (NewDE w 200000 (lim Q) r) := by
  subst hx hy h hr
  by_cases h0 : val ys = 0
  · unfold qN rdE
    rw [if_pos h0, if_pos h0]
    exact (rdquo_zero ha hb (by omega) (by omega) h0).mono fun e w' h => NewDE.wide h (by omega)
  · rw [qN_down h0, rdE_pos h0]
    exact (rdquo_pos ha hb (by omega) (by omega) h0).mono fun e w' h => NewDE.wide h (by omega)
theorem rdover_gen (X n Q : Nat) (r : Int) {a : Option Addr} {m c : Nat} {xs : List Nat} {w : World} (ha : Sl w a m c xs) (hx : val xs = X) (h : qN false X n = Q) (hr : rdE n = r) (hm : m ≤ 10000) (hn : n < B64) :
    Calls Tryz.prog 39 #[DecV a m c, .int .u64 (n : Int)] w (NewDE w 200000 (lim Q) r) := by
  subst hx h hr
  by_cases h0 : n = 0
  · unfold qN rdE
    rw [if_pos h0, if_pos h0]
    exact (rdover_zero ha (by omega) hn h0).mono fun e w' h => NewDE.wide h (by omega)
  · rw [qN_down h0, rdE_pos h0]
    exact (rdover_pos ha (by omega) hn h0).mono fun e w' h => NewDE.wide h (by omega)
theorem rdmuldiv_gen (X Y Z Q : Nat) (r : Int) {a b f : Option Addr} {m n l c d g : Nat} {xs ys zs : List Nat} {w : World} (ha : Sl w a m c xs) (hb : Sl w b n d ys) (hf : Sl w f l g zs) (hx : val xs = X) (hy : val ys = Y) (hz : val zs = Z) (h : qN false (X * Y) Z = Q) (hr : rdE Z = r) (hm : m ≤ 10000) (hn : n ≤ 10000) (hl : l ≤ 10000) :
    Calls Tryz.prog 35 #[DecV a m c, DecV b n d, DecV f l g] w (NewDE w 210000 (lim Q) r) := by
  subst hx hy hz h hr
  by_cases h0 : val zs = 0
  · unfold qN rdE
    rw [if_pos h0, if_pos h0]
    exact (rdmuldiv_zero ha hb hf (by omega) (by omega) (by omega) h0).mono fun e w' h => NewDE.wide h (by omega)
  · rw [qN_down h0, rdE_pos h0]
    exact (rdmuldiv_pos ha hb hf (by omega) (by omega) (by omega) h0).mono fun e w' h => NewDE.wide h (by omega)
theorem rdmuldivup_gen (X Y Z Q : Nat) (r : Int) {a b f : Option Addr} {m n l c d g : Nat} {xs ys zs : List Nat} {w : World} (ha : Sl w a m c xs) (hb : Sl w b n d ys) (hf : Sl w f l g zs) (hx : val xs = X) (hy : val ys = Y) (hz : val zs = Z) (h : qN true (X * Y) Z = Q) (hr : rdE Z = r) (hm : m ≤ 10000) (hn : n ≤ 10000) (hl : l ≤ 10000) :
    Calls Tryz.prog 37 #[DecV a m c, DecV b n d, DecV f l g] w (NewDE w 210000 (lim Q) r) := by
  subst hx hy hz h hr
  by_cases h0 : val zs = 0
  · unfold qN rdE
    rw [if_pos h0, if_pos h0]
    exact (rdmuldivup_zero ha hb hf (by omega) (by omega) (by omega) h0).mono fun e w' h => NewDE.wide h (by omega)
  · rw [qN_up h0, rdE_pos h0]
    by_cases h1 : val xs * val ys % val zs = 0
    · rw [if_pos h1, Nat.add_zero]
      exact (rdmuldivup_even ha hb hf (by omega) (by omega) (by omega) h0 h1).mono fun e w' h => NewDE.wide h (by omega)
    · rw [if_neg h1]
      exact (rdmuldivup_odd ha hb hf (by omega) (by omega) (by omega) h0 h1).mono fun e w' h => NewDE.wide h (by omega)
theorem rdE_wrap (Z : Nat) : IntKind.i64.wrap (rdE Z) = rdE Z := by unfold rdE; split <;> decide
theorem rdtrunc_at (X N R : Nat) {a : Option Addr} {m c : Nat} {xs : List Nat} {w : World} (ha : Sl w a m c xs) (hx : val xs = X) (h : X / U36 = N) (h2 : X % U36 = R) (hm : m ≤ 10000) :
    Calls Tryz.prog 41 #[DecV a m c] w (TruncRes w (2 * m + 4) (lim N) (lim R)) := by subst hx h h2; exact rdtrunc_calls ha (by omega)
theorem rdmul_at (X Y Z : Nat) {a b : Option Addr} {m n c d : Nat} {xs ys : List Nat} {w : World} (ha : Sl w a m c xs) (hb : Sl w b n d ys) (hx : val xs = X) (hy : val ys = Y) (h : X * Y / U36 = Z) (hm : m ≤ 10000) (hn : n ≤ 10000) :
    Calls Tryz.prog 43 #[DecV a m c, DecV b n d] w (NewD w (4 * m + 4 * n + 4) (lim Z)) := by subst hx hy h; exact rdmul_calls ha hb (by omega) (by omega)

end Go.Proofs.YtdafjajleglccaaGreatDoor
