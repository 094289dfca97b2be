/- From the walks to the rows: one slice of limbs. -/
import Derived.Test.YtnfjfgfkeigkiaaGreatDoorWrapR
namespace Go.Proofs.YtnfjfgfkeigkiaaGreatDoor
open Go.ChangeShapes Go.WideShapes Go.ChangeAt Go.RowKit

set_option maxRecDepth 100000 in
theorem open_nat {H : Type} {enc : TypeId × Value → H} {W : World} {base : Nat} {v : Value} {d : DataW H} {p : List MemPlace} (hv : Value.okWide Tryz.prog W .any base 23 v)
    (h : DataW.Trod enc Tryz.prog W 0 (fun _ => true) true 23 v d p) : ∃ a n c xs, v = .slice a n c ∧ Sl W a n c xs := by
  have hu : Tryz.prog.underlying 23 = _ := Tryz.underlying23
  have hok := hv
  simp only [Value.okWide, hu] at hok
  simp only [Cell.okWide, hu] at hok
  obtain ⟨fuel, hf⟩ := h
  cases v with
  | slice a n c =>
    obtain ⟨xs, hs⟩ := sl_of_trod0 (enc := enc) (W := W) (fuel := fuel) (a := a) (n := n) (c := c) (y := (d, p)) hf
    exact ⟨a, n, c, xs, rfl, hs⟩
  | _ => simp [Cell.ok, hu] at hok

end Go.Proofs.YtnfjfgfkeigkiaaGreatDoor
