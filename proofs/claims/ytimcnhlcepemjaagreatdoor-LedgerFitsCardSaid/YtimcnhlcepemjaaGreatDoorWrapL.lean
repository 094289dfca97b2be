/- An argument that is a fraction. -/
import Derived.Test.YtimcnhlcepemjaaGreatDoorWrapD
import Derived.Test.YtimcnhlcepemjaaGreatDoorRat0
import Derived.Deep.SlicePairs
namespace Go.Proofs.YtimcnhlcepemjaaGreatDoor
open Go.ChangeShapes Go.WideShapes Go.ChangeAt Go.RowKit Go.Deep

set_option maxRecDepth 100000 in
/-- An argument of the type Rat. -/
theorem open_rat {H : Type} {enc : TypeId × Value → H} {W : World} {base : Nat} {v : Value} {d : DataW H} {p : List MemPlace} (hv : Value.okWide Tryz.prog W .any base 40 v)
    (h : DataW.Trod enc Tryz.prog W 0 (fun _ => true) true 40 v d p) : ∃ a n c b m e xs ys, v = RatV a n c b m e ∧ Sl W a n c xs ∧ Sl W b m e ys := by
  have hu : Tryz.prog.underlying 40 = _ := Tryz.underlying40
  have hok := hv
  simp only [Value.okWide, hu] at hok
  obtain ⟨cs, rfl, hcs, -⟩ := hok
  have hc1 : Tryz.prog.cellsOf 40 = 2 := by kernel_rfl
  rw [hc1] at hcs
  obtain ⟨u, v, rfl⟩ : ∃ u v, cs = #[u, v] := by
    obtain ⟨l⟩ := cs
    match l, hcs with
    | [u, v], _ => exact ⟨u, v, rfl⟩
  obtain ⟨fuel, hf⟩ := h
  obtain ⟨y0, y1, n0, -, -, hf0, hf1⟩ := trod_struct2 hu hf
  have hsz : Tryz.prog.cellsOf 33 = 1 := by kernel_rfl
  simp only [Value.cells, List.drop_zero, hsz] at hf0 hf1
  obtain ⟨a, n, c, xs, rfl, hs⟩ := cell_sl (by simpa using hf0)
  obtain ⟨b, m, e, ys, rfl, hs2⟩ := cell_sl (by simpa using hf1)
  exact ⟨a, n, c, b, m, e, xs, ys, rfl, hs, hs2⟩


end Go.Proofs.YtimcnhlcepemjaaGreatDoor
