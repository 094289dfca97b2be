/- math/bits.TrailingZeros64. -/
import Derived.Test.YtifoflicflodcaaGreatDoorGcdM
import Derived.Shelf.Spec.TrailingZeros
import Derived.Lib.AppendIntMem
namespace Go.Proofs.YtifoflicflodcaaGreatDoor
open Go.RowKit

/-- The library's table lies as its text lays it. -/
def TzTab (w : World) : Prop := Lib.TabIs Tryz.prog w "math/bits.deBruijn64tab" .u8 (Lib.deBruijn64tab.map fun x : Nat => (x : Int))
theorem gTz : Tryz.prog.globalNamed "math/bits.deBruijn64tab" = some 9 := by kernel_rfl
theorem TzTab.old {w w' : World} (h : TzTab w) (E : Ext w w') : TzTab w' := Lib.tabBelow_of_tabIs h w' E
theorem TzTab.cell {w : World} (h : TzTab w) (j : Nat) (hj : j < 64) : w.cell? ⟨9, j, none⟩ = some (.int .u8 ((Lib.deBruijn64tab.getD j 0 : Nat) : Int)) := by
  unfold TzTab Lib.TabIs World.var? at h
  rw [gTz] at h
  simp only [Option.bind_some] at h
  have hl : Lib.deBruijn64tab.length = 64 := by decide
  cases ho : w.heap[9]? with
  | none => simp [ho] at h
  | some o =>
    cases o with
    | cells cur e fr =>
      simp [ho] at h
      rw [cell_of_row _ _ _ _ _ _ (by rw [ho])]
      subst h
      simp [List.getElem?_toArray, List.getElem?_map, List.getD_eq_getElem?_getD, List.getElem?_eq_getElem (show j < Lib.deBruijn64tab.length by omega)]
    | _ => simp [ho] at h

set_option maxHeartbeats 1000000 in
set_option maxRecDepth 100000 in
theorem tz_core (x k idx : Nat) (w : World) (hx0 : ((x : Int) == 0) = false)
    (key : IntKind.u64.wrap (bits BinOp.and IntKind.u64 (x : Int) (IntKind.u64.wrap (-(x : Int))) * 285870213051353865) / 288230376151711744 = (idx : Int))
    (hi : idx < 64) (hk : k < 64) (hcell : w.cell? ⟨9, idx, none⟩ = some (.int .u8 k)) :
    Calls Tryz.prog 157 #[.int .u64 x] w (Ret (.int .i64 k) w) := by
  go_enter Tryz.func157, Tryz.ntmps157
  go_wp2_with (simp only [key])
  go_ret
  exact ⟨rfl, rfl⟩

theorem tz_calls (x : Nat) (hx : x < B64) (hx0 : x ≠ 0) (w : World) (hT : TzTab w) : Calls Tryz.prog 157 #[.int .u64 (x : Int)] w (Ret (.int .i64 (Lib.ctz 64 x : Nat)) w) := by
  obtain ⟨hlow, hk⟩ := Lib.lowest_bit 64 x hx0 hx
  obtain ⟨hi, htab⟩ := Lib.deBruijn64_at _ hk
  have hcell := hT.cell _ hi
  rw [htab] at hcell
  exact tz_core x _ _ w (by simp; omega) (tz64_key x _ hx hx0 hlow) hi hk hcell
end Go.Proofs.YtifoflicflodcaaGreatDoor
