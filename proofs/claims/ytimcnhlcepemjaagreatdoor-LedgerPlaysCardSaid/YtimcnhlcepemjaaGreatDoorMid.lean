
/- Regions that draw their order: steps laid by hand; what is kept of a region's frame. -/
import Derived.Test.YtimcnhlcepemjaaGreatDoorMA
namespace Go.Proofs.YtimcnhlcepemjaaGreatDoor
open Go.RowKit

section
variable {P : Program} {ops : Array Oper} {Q : Exit → Act → World → Prop} {md : Region.Mode} {S : World → Prop}

theorem takeW {i : Nat} {oi : Oper} {v : Value} {fuel : Nat} {listed : Array Bool} {a : Act} {w : World} (hi : ops.toList[i]? = some oi)
    (hs : Region.noSelect ops = true) (hf : Region.free md ops listed i = true) (hr : (Region.ready md ops listed).contains i = true)
    (hQ : ∀ c a w, Q (.panic c) (a.put oi.dst v) w → Q (.panic c) a w) (hy : YieldsIf P ops S oi v a) (hS : S w)
    (h : wpAnyH P md ops Q S fuel (listed.setIfInBounds i true) (a.put oi.dst v) w) : wpAnyH P md ops Q S (fuel + 1) listed a w :=
  wpAnyH_take (by rw [← Array.getElem?_toList]; exact hi) hs hf hr hQ hy hS h
theorem skipW {i : Nat} {oi : Oper} {fuel : Nat} {listed : Array Bool} {a : Act} {w : World} (hi : ops.toList[i]? = some oi)
    (hs : Region.noSelect ops = true) (hf : Region.free md ops listed i = true) (hr : (Region.ready md ops listed).contains i = true)
    (hQ : ∀ c a w, Q (.panic c) (a.put oi.dst undef) w → Q (.panic c) a w) (hw : Region.wanted oi (yielded ops a.tmps) = false) (hS : S w)
    (h : wpAnyH P md ops Q S fuel (listed.setIfInBounds i true) (a.put oi.dst undef) w) : wpAnyH P md ops Q S (fuel + 1) listed a w :=
  takeW hi hs hf hr hQ (Or.inr ⟨hw, rfl⟩) hS h
theorem consW {fuel : Nat} {listed : Array Bool} {a : Act} {w : World} {i : Nat} {o : Oper} {rs : List Nat} (ho : ops.toList[i]? = some o)
    (h : ∀ K' : Act → World → Prop, Shut (∀ a w, S w → (S w → wpAnyH P md ops Q S fuel (listed.setIfInBounds i true) a w) → K' a w) → if Region.wanted o (yielded ops a.tmps) = true then Oper.wp P o a w K' Q else K' (a.put o.dst undef) w)
    (hs : AllReadyH P md ops Q S fuel listed a w rs) : AllReadyH P md ops Q S fuel listed a w (i :: rs) :=
  AllReadyH.cons (by rw [← Array.getElem?_toList]; exact ho) h hs

/-- What is kept of a region's end. -/
def Mid (G : Act → Act → World → Prop) (a : Act) : Exit → Act → World → Prop
  | .normal, a', w' => G a a' w'
  | _, _, _ => False
theorem Mid.mk {G : Act → Act → World → Prop} {a a' : Act} {w' : World} (h : G a a' w') : Mid G a .normal a' w' := h
theorem wp_region_mid {c : Code} {a : Act} {w : World} (G : Act → Act → World → Prop) (h1 : c.wp P (Mid G a) a w) (h2 : ∀ a' w', G a a' w' → Q .normal a' w') : c.wp P Q a w :=
  Code.wp_mono (fun e a' w' h => by
    cases e <;> first | exact h2 a' w' h | exact False.elim h) h1
end

/-- The frame A' is A but for these slots. -/
def putsFrom (A A' : Act) (l : List Nat) : Act := l.foldl (fun B k => B.put (some k) (A'.tmps.getD k undef)) A
end Go.Proofs.YtimcnhlcepemjaaGreatDoor
