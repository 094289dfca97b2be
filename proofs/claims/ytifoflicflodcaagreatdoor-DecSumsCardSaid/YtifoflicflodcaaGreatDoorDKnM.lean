/- What gleanlaw2.known asks: the numbers. -/
import Derived.Test.YtifoflicflodcaaGreatDoorDTPar
namespace Go.Proofs.YtifoflicflodcaaGreatDoor
open Go.RowKit Go.Lib

theorem decText_some {X n r : Nat} (hn : X / U36 = n) (hr : X % U36 = r) (h10 : n < 10) (h0 : r ≠ 0) : decText X = UInt8.ofNat (48 + n) :: 46 :: trimRightB (padk 36 r) 48 := by
  unfold decText
  rw [hr, if_neg h0, hn, decDigits_small h10]
  generalize trimRightB (padk 36 r) 48 = t
  simp
theorem decText_none {X n : Nat} (hn : X / U36 = n) (hr : X % U36 = 0) (h10 : n < 10) : decText X = [UInt8.ofNat (48 + n)] := by
  unfold decText
  rw [hr, if_pos rfl, hn, decDigits_small h10]
theorem k2_third : decText 333333333333333333333333333333333333 = [48, 46] ++ List.replicate 36 51 := by
  rw [decText_some (n := 0) (r := 333333333333333333333333333333333333) (by decide +kernel) (by decide +kernel) (by decide) (by decide)]
  decide +kernel
theorem k2_up : decText 333333333333333333333333333333333334 = [48, 46] ++ List.replicate 35 51 ++ [52] := by
  rw [decText_some (n := 0) (r := 333333333333333333333333333333333334) (by decide +kernel) (by decide +kernel) (by decide) (by decide)]
  decide +kernel
theorem k2_basis : decText 100000000000000000000000000000000 = [48, 46, 48, 48, 48, 49] := by
  rw [decText_some (n := 0) (r := 100000000000000000000000000000000) (by decide +kernel) (by decide +kernel) (by decide) (by decide)]
  decide +kernel
theorem k2_o : decText 250000000000000000000000000000000000 = [48, 46, 50, 53] := by
  rw [decText_some (n := 0) (r := 250000000000000000000000000000000000) (by decide +kernel) (by decide +kernel) (by decide) (by decide)]
  decide +kernel
theorem k2_r : decText 750000000000000000000000000000000000 = [48, 46, 55, 53] := by
  rw [decText_some (n := 0) (r := 750000000000000000000000000000000000) (by decide +kernel) (by decide +kernel) (by decide) (by decide)]
  decide +kernel
theorem k2_pp : decText 5500000000000000000000000000000000000 = [53, 46, 53] := by
  rw [decText_some (n := 5) (r := 500000000000000000000000000000000000) (by decide +kernel) (by decide +kernel) (by decide) (by decide)]
  decide +kernel
theorem k2_oo : decText 62500000000000000000000000000000000 = [48, 46, 48, 54, 50, 53] := by
  rw [decText_some (n := 0) (r := 62500000000000000000000000000000000) (by decide +kernel) (by decide +kernel) (by decide) (by decide)]
  decide +kernel
theorem k2_times : decText 2500000000000000000000000000000000000 = [50, 46, 53] := by
  rw [decText_some (n := 2) (r := 500000000000000000000000000000000000) (by decide +kernel) (by decide +kernel) (by decide) (by decide)]
  decide +kernel
theorem k2_two : decText 2000000000000000000000000000000000000 = [50] := decText_none (n := 2) (by decide +kernel) (by decide +kernel) (by decide)
/-- "1.50" is no decimal, "2.75" is one. -/
theorem k2_bad : decRead [49, 46, 53, 48] = none := by decide +kernel
theorem k2_p : decRead [50, 46, 55, 53] = some 2750000000000000000000000000000000000 := by decide +kernel

end Go.Proofs.YtifoflicflodcaaGreatDoor
