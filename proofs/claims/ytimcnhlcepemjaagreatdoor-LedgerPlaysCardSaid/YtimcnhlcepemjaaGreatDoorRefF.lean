
/- gleanref24.Fits. -/
import Derived.Test.YtimcnhlcepemjaaGreatDoorLedJ
import Derived.Test.YtimcnhlcepemjaaGreatDoorRefL
namespace Go.Proofs.YtimcnhlcepemjaaGreatDoor
open Go.RowKit

theorem frofdec_q {a : Option Addr} {m c : Nat} {xs : List Nat} {w : World} (ha : Sl w a m c xs) (hm : m ≤ 100000) : Calls Tryz.prog 57 #[DecV a m c] w (NewQ w (decQ (val xs))) :=
  (frofdec_calls ha hm).mono fun _ _ h => h.q
theorem fradd_q {a1 b1 a2 b2 : Option Addr} {m1 n1 c1 d1 m2 n2 c2 d2 : Nat} {p q : Nat × Nat} {w : World} (h1 : RA w a1 m1 c1 b1 n1 d1 p) (h2 : RA w a2 m2 c2 b2 n2 d2 q) (hp : sz p ≤ 10000) (hq : sz q ≤ 10000) :
    Calls Tryz.prog 54 #[RatV a1 m1 c1 b1 n1 d1, RatV a2 m2 c2 b2 n2 d2] w (NewQ w (addR p q)) := by
  have l1 := h1.len; have l2 := h2.len
  have := fradd_calls h1.nu h1.de h2.nu h2.de (by omega) (by omega) (by omega) (by omega)
  rw [val_lim, val_lim, val_lim, val_lim] at this
  exact this.mono fun _ _ h => h.q
theorem frof_as {a b : Option Addr} {m n c d : Nat} {xs ys : List Nat} {w : World} (ha : Sl w a m c xs) (hb : Sl w b n d ys) (hm : m ≤ 1000000) (hn : n ≤ 1000000) {x y : Nat} (hx : val xs = x) (hy : val ys = y) (hy0 : y ≠ 0) {q : Nat × Nat} (hq : (rN x y, rD x y) = q) :
    Calls Tryz.prog 63 #[.slice a m c, .slice b n d] w (NewRE w (8 * m + 8 * n) (8 * m + 8 * n) (lim q.1) (lim q.2) 0) := by
  have h := frof_pos ha hb hm hn (by omega)
  rw [hx, hy] at h
  rw [← hq]
  exact h

end Go.Proofs.YtimcnhlcepemjaaGreatDoor
