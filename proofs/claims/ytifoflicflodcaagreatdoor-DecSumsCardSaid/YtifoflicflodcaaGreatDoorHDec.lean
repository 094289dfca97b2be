/- gleanhelp.Dec. -/
import Derived.Test.YtifoflicflodcaaGreatDoorHNat
import Derived.Test.YtifoflicflodcaaGreatDoorDec
namespace Go.Proofs.YtifoflicflodcaaGreatDoor
open Go.RowKit

set_option maxHeartbeats 4000000 in
set_option maxRecDepth 100000 in
theorem hdec_calls {a b : Option Addr} {m n c d : Nat} {xs ys : List Nat} {w : World} (ha : Sl w a m c xs) (hb : Sl w b n d ys) (hm : m ≤ 1000000) (hn : n ≤ 1000000) :
    Calls Tryz.prog 12 #[DecV a m c, DecV b n d] w (RetE (.bool (decide (xs = ys))) w) := by
  have E := ((Ext.refl w).alloc (.cells #[.slice a m c] 25)).alloc (.cells #[.slice b n d] 25)
  have CB := Lib.hid (hnat_calls (ha.old E) (hb.old E) (by omega) (by omega))
  go_enter Tryz.func12, Tryz.ntmps12
  go_wp2_with fail
  refine CB.out.mono ?_
  rintro e w' ⟨rfl, k, rfl⟩
  go_wp2_with fail
  go_ret
  exact ⟨rfl, E.drewN k⟩
theorem hdec_at {a b : Option Addr} {m n c d : Nat} {xs : List Nat} {w : World} (ha : Sl w a m c xs) (hb : Sl w b n d xs) (hm : m ≤ 1000000) (hn : n ≤ 1000000) :
    Calls Tryz.prog 12 #[DecV a m c, DecV b n d] w (RetE (.bool true) w) := by
  have := hdec_calls ha hb hm hn
  rwa [decide_eq_true rfl] at this

end Go.Proofs.YtifoflicflodcaaGreatDoor
