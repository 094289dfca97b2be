
/- Text of numbers; decimals. -/
import Derived.Test.YtimcnhlcepemjaaGreatDoorMB
import Derived.Lib.Walk
import Derived.Lib.ItoaMem
import Derived.Lib.ItoaLen
import Derived.Lib.AppendIntMem

/- internal/strconv.FormatUint, strconv.FormatUint at base 10. -/
namespace Go.Proofs.YtimcnhlcepemjaaGreatDoor
open Go.RowKit Go.Sort Go.Lib

end Go.Proofs.YtimcnhlcepemjaaGreatDoor

/- Decimal digits in groups of nineteen: plain. -/
namespace Go.Proofs.YtimcnhlcepemjaaGreatDoor
open Go.RowKit Go.Lib

end Go.Proofs.YtimcnhlcepemjaaGreatDoor

/- nat.Text. -/
namespace Go.Proofs.YtimcnhlcepemjaaGreatDoor
open Go.RowKit Go.Lib

end Go.Proofs.YtimcnhlcepemjaaGreatDoor

/- dec: made, compared, added, taken away. -/
namespace Go.Proofs.YtimcnhlcepemjaaGreatDoor
open Go.RowKit

/-- A number with places as a value. -/
abbrev DecV (a : Option Addr) (n c : Nat) : Value := .agg #[.slice a n c]

/-- A new number with places. -/
def NewD (w : World) (L : Nat) (xs : List Nat) (e : Ending) (w' : World) : Prop :=
  ∃ a n c, e = .returned (DecV a n c) ∧ Own w.heap.size w' a n c xs ∧ Ext w w' ∧ n ≤ L
/-- .. and an error that is a number. -/
def NewDE (w : World) (L : Nat) (xs : List Nat) (er : Int) (e : Ending) (w' : World) : Prop :=
  ∃ a n c, e = .returned (.tuple #[DecV a n c, .int .i64 er]) ∧ Own w.heap.size w' a n c xs ∧ Ext w w' ∧ n ≤ L

/-- A variable of the call's own, in a block of its own. -/
theorem box_cell {w w' : World} {v : Value} {T : TypeId} (E : Ext (w.alloc (.cells #[v] T (0, 0))) w') : w'.cell? ⟨w.heap.size, 0, none⟩ = some v :=
  E.cell (by rw [World.cell?_alloc_new]; rfl)
theorem box_free {w w' : World} {v : Value} {T : TypeId} (E : Ext (w.alloc (.cells #[v] T (0, 0))) w') : w'.frozen? ⟨w.heap.size, 0, none⟩ = false := by
  rw [World.frozen?_of_block (w := w.alloc (.cells #[v] T (0, 0)))]
  · exact World.frozen?_alloc_new _ _ _ _
  · exact E.block _ (by rw [World.size_alloc]; exact Nat.lt_succ_self _)
theorem setCell_by (w : World) (b : Nat) (u : Value) : w.grownBy (w.setCell ⟨b, 0, none⟩ u) (some b) :=
  ⟨rfl, rfl, rfl, by simp, fun j _ hj => heap_setCell_other w _ j _ (fun e => hj (by simp [e]))⟩
theorem box_store {w w' : World} {B : Nat} (u : Value) (E : Ext w w') (hB : w.heap.size ≤ B) : Ext w (w'.setCell ⟨B, 0, none⟩ u) :=
  Below.grown E (setCell_by w' B u) E.size (fun k hk => by cases hk; exact hB)
theorem Own.box {C B : Nat} {w' : World} {a : Option Addr} {n c : Nat} {xs : List Nat} (h : Own C w' a n c xs) (u : Value) (hB : B < C) : Own C (w'.setCell ⟨B, 0, none⟩ u) a n c xs :=
  h.grown (setCell_by w' B u) (.inr (fun e => by have := (h.ge B e).1; omega))
theorem alloc_size (w : World) (o : Obj) : (w.alloc o).heap.size = w.heap.size + 1 := World.size_alloc ..

theorem box_row {w w' : World} {v : Value} {T : TypeId} (E : Ext (w.alloc (.cells #[v] T (0, 0))) w') (u : Value) : (w'.setCell ⟨w.heap.size, 0, none⟩ u).heap[w.heap.size]? = some (.cells #[u] T (0, 0)) := by
  have h : w'.heap[w.heap.size]? = some (.cells #[v] T (0, 0)) := by
    rw [E.block _ (by rw [World.size_alloc]; exact Nat.lt_succ_self _)]; exact heap_alloc_new w _
  exact heap_setCell_same w' w.heap.size 0 _ T _ h
theorem decSize : (Tryz.prog.info? 35).map (·.size) = some 1 := by kernel_rfl
theorem load_dec {w : World} {g : Nat} {t : TypeId} {v : Value} (hg : w.heap[g]? = some (.cells #[v] t (0, 0))) : (loadVar 35 ⟨g, 0, none⟩).run Tryz.prog w = .ok (.agg #[v]) w :=
  run_loadVar_row w g t 35 #[v] (0, 0) _ hg Tryz.underlying35 rfl decSize
theorem results_box1 {fn : Func} {p : Tmp} {ty : TypeId} (h : fn.results = #[.cell p ty]) (tmps : Array Value) {P : Program} (w : World) (g : Nat) (v : Value)
    (hp : tmps.getD p undef = .pointer (some ⟨g, 0, none⟩)) (hl : (loadVar ty ⟨g, 0, none⟩).run P w = .ok v w) :
    (results fn tmps).run P w = .ok v w := by
  have hp' : tmps[p]?.getD undef = .pointer (some ⟨g, 0, none⟩) := by simpa using hp
  simp [results, h, hp', asAddr, hl]
theorem results_box2 {fn : Func} {p u : Tmp} {ty : TypeId} (h : fn.results = #[.cell p ty, .tmp u]) (tmps : Array Value) {P : Program} (w : World) (g : Nat) (v : Value)
    (hp : tmps.getD p undef = .pointer (some ⟨g, 0, none⟩)) (hl : (loadVar ty ⟨g, 0, none⟩).run P w = .ok v w) :
    (results fn tmps).run P w = .ok (.tuple #[v, tmps.getD u undef]) w := by
  rw [results_cell_tmp h, hp]
  simp [asAddr, hl, Result.andThen]
theorem box_fin {w X w2 : World} (EX : Ext w X) {B : Nat} (hB : X.heap.size = B) {v : Value} {T : TypeId} (h : Ext (X.alloc (.cells #[v] T (0, 0))) w2) (u : Value) :
    Ext w (w2.setCell ⟨B, 0, none⟩ u) ∧ (w2.setCell ⟨B, 0, none⟩ u).heap[B]? = some (.cells #[u] T (0, 0)) ∧
      ∀ {o : Option Addr} {n c : Nat} {xs : List Nat}, Own (X.alloc (.cells #[v] T (0, 0))).heap.size w2 o n c xs → Own w.heap.size (w2.setCell ⟨B, 0, none⟩ u) o n c xs := by
  subst hB
  have hs := EX.size
  refine ⟨box_store u ((EX.alloc _).trans h) hs, box_row h u, fun ho => ?_⟩
  rw [alloc_size] at ho
  exact (ho.box u (by omega)).mono (by omega)
theorem box_at {X w2 : World} {B : Nat} (hB : X.heap.size = B) {v : Value} {T : TypeId} (h : Ext (X.alloc (.cells #[v] T (0, 0))) w2) :
    w2.cell? ⟨B, 0, none⟩ = some v ∧ w2.frozen? ⟨B, 0, none⟩ = false := by subst hB; exact ⟨box_cell h, box_free h⟩

/-- One. -/
def U36 : Nat := 10 ^ 36
theorem lim_unit : lim U36 = [12919594847110692864, 54210108624275221] := lim_eq_of (by intro x hx; simp at hx; rcases hx with rfl | rfl <;> decide) (by simp [Nrm]) (by unfold U36; decide)

theorem own_lit2 (B : Nat) (w : World) (x y : Nat) (hx : x < B64) (hy : y < B64) (hB : B ≤ w.heap.size) :
    Own B (w.alloc (.cells #[.int .u64 (x : Int), .int .u64 (y : Int)] 31 (0, 0))) (some ⟨w.heap.size, 0, none⟩) 2 2 [x, y] := by
  have hc : (w.alloc (.cells #[.int .u64 (x : Int), .int .u64 (y : Int)] 31 (0, 0))).heap[w.heap.size]? = some (.cells #[.int .u64 (x : Int), .int .u64 (y : Int)] 31 (0, 0)) := heap_alloc_new w _
  refine ⟨⟨rfl, Nat.le_refl _, by decide, Bd.cons hx (Bd.cons hy (Bd.nil _)), .inr ⟨_, _, rfl, ?_⟩⟩, .inr ⟨_, _, _, _, rfl, hB, hc⟩⟩
  intro i hi
  have : i = 0 ∨ i = 1 := by omega
  rcases this with rfl | rfl <;> (rw [cell_of_row _ _ _ _ _ _ hc]; rfl)

set_option maxHeartbeats 1000000 in
set_option maxRecDepth 100000 in
theorem unit_calls (w : World) : Calls Tryz.prog 104 #[] w (New w 2 (lim U36)) := by
  go_enter Tryz.func104, Tryz.ntmps104
  go_wp2_with fail
  go_ret
  rw [lim_unit]
  exact ⟨_, 2, 2, rfl, own_lit2 _ w _ _ (by decide) (by decide) (Nat.le_refl _), (Ext.refl w).alloc _, Nat.le_refl _⟩

set_option maxHeartbeats 1000000 in
set_option maxRecDepth 100000 in
theorem dofnat_calls {a : Option Addr} {n c : Nat} {xs : List Nat} {w : World} (h : Sl w a n c xs) (hn : n ≤ 900000000) :
    Calls Tryz.prog 77 #[.slice a n c] w (NewD w (n + 2) (lim (val xs * U36))) := by
  go_enter Tryz.func77, Tryz.ntmps77
  go_wp2_with fail
  refine (unit_calls _).mono ?_
  rintro e w1 ⟨o, no, co, rfl, hown, hext, hno⟩
  have E0 := (Ext.refl w).alloc (.cells #[.slice none 0 0] 35)
  go_wp2_with fail
  refine (mul_calls ((h.old E0).old hext) hown.sl (by omega) (by omega)).mono ?_
  rintro e w2 ⟨o2, no2, co2, rfl, hown2, hext2, hno2⟩
  have E2 := hext.trans hext2
  have k1 := box_cell E2
  have k2 := box_free E2
  go_wp2_with fail
  try simp only [Exit.inBlock, Exit.then]
  refine bodyPost_ret (results_box1 rfl _ _ _ _ rfl (load_dec (box_row E2 _))) rfl ?_
  rw [val_lim] at hown2
  have hs := hext.size
  rw [alloc_size] at hs
  exact ⟨o2, no2, co2, rfl, (hown2.box _ (by omega)).mono (by omega), box_store _ (E0.trans E2) (Nat.le_refl _), by omega⟩

set_option maxHeartbeats 1000000 in
set_option maxRecDepth 100000 in
theorem dof_calls (x : Nat) (hx : x < B64) (w : World) : Calls Tryz.prog 36 #[.int .u64 (x : Int)] w (NewD w 3 (lim (x * U36))) := by
  have HX := Lib.hid hx
  clear hx
  go_enter Tryz.func36, Tryz.ntmps36
  go_wp2_with fail
  refine (of_calls x HX.out _).mono ?_
  rintro e w1 ⟨o, no, co, rfl, hown, hext, hno⟩
  have E0 := (Ext.refl w).alloc (.cells #[.slice none 0 0] 35)
  go_wp2_with fail
  refine (dofnat_calls hown.sl (by omega)).mono ?_
  rintro e w2 ⟨o2, no2, co2, rfl, hown2, hext2, hno2⟩
  have E2 := hext.trans hext2
  have k1 := box_cell E2
  have k2 := box_free E2
  go_wp2_with fail
  try simp only [Exit.inBlock, Exit.then]
  refine bodyPost_ret (results_box1 rfl _ _ _ _ rfl (load_dec (box_row E2 _))) rfl ?_
  rw [val_lim] at hown2
  have hs := hext.size
  rw [alloc_size] at hs
  exact ⟨o2, no2, co2, rfl, (hown2.box _ (by omega)).mono (by omega), box_store _ (E0.trans E2) (Nat.le_refl _), by omega⟩

/-- Two boxes, then the result's. -/
def W2 (w : World) (u v : Value) : World := (w.alloc (.cells #[u] 35)).alloc (.cells #[v] 35)
theorem W2_ext (w : World) (u v : Value) : Ext w (W2 w u v) := ((Ext.refl w).alloc _).alloc _
theorem W2_size (w : World) (u v : Value) : (W2 w u v).heap.size = w.heap.size + 1 + 1 := by unfold W2; rw [alloc_size, alloc_size]

set_option maxHeartbeats 1000000 in
set_option maxRecDepth 100000 in
theorem dadd_calls {a b : Option Addr} {m n c d : Nat} {xs ys : List Nat} {w : World} (ha : Sl w a m c xs) (hb : Sl w b n d ys) (hm : m ≤ 900000000) (hn : n ≤ 900000000) :
    Calls Tryz.prog 35 #[DecV a m c, DecV b n d] w (NewD w (m + n + 1) (lim (val xs + val ys))) := by
  have E2 := W2_ext w (.slice a m c) (.slice b n d)
  have E3 := E2.alloc (.cells #[.slice none 0 0] 35)
  have CA := Lib.hid (add_calls (ha.old E3) (hb.old E3) (by omega) (by omega))
  go_enter Tryz.func35, Tryz.ntmps35
  go_wp2_with fail
  refine CA.out.mono ?_
  rintro e w2 ⟨o2, no2, co2, rfl, hown2, hext2, hno2⟩
  have hz := W2_size w (.slice a m c) (.slice b n d)
  obtain ⟨k1, k2⟩ := box_at hz hext2
  obtain ⟨f1, f2, f3⟩ := box_fin E2 hz hext2 (.slice o2 no2 co2)
  go_wp2_with fail
  try simp only [Exit.inBlock, Exit.then]
  refine bodyPost_ret (results_box1 rfl _ _ _ _ rfl (load_dec f2)) rfl ?_
  exact ⟨o2, no2, co2, rfl, f3 hown2, f1, by omega⟩

end Go.Proofs.YtimcnhlcepemjaaGreatDoor

/- dec: products and quotients. -/
namespace Go.Proofs.YtimcnhlcepemjaaGreatDoor
open Go.RowKit

end Go.Proofs.YtimcnhlcepemjaaGreatDoor

/- dec.rounder; what goes by it. -/
namespace Go.Proofs.YtimcnhlcepemjaaGreatDoor
open Go.RowKit

end Go.Proofs.YtimcnhlcepemjaaGreatDoor

/- dec.Trunc. -/
namespace Go.Proofs.YtimcnhlcepemjaaGreatDoor
open Go.RowKit

end Go.Proofs.YtimcnhlcepemjaaGreatDoor
