/- From the walks to the rows: a string. -/
import Derived.Test.YtdafjajleglccaaGreatDoorWrapD
import Derived.ChangeMaps5
namespace Go.Proofs.YtdafjajleglccaaGreatDoor
open Go.ChangeShapes Go.WideShapes Go.ChangeAt Go.RowKit

set_option maxRecDepth 100000 in
/-- An argument of the type string. -/
theorem open_str {H : Type} {enc : TypeId × Value → H} {W : World} {base : Nat} {v : Value} {d : DataW H} {p : List MemPlace} (hv : Value.okWide Tryz.prog W .any base 9 v)
    (h : DataW.Trod enc Tryz.prog W 0 (fun _ => true) true 9 v d p) : ∃ s : ByteArray, v = .string s := by
  obtain ⟨s, rfl, -⟩ := Go.ChangeMaps.open_string Tryz.underlying9 hv h
  exact ⟨s, rfl⟩

end Go.Proofs.YtdafjajleglccaaGreatDoor
