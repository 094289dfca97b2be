/- dec.Trunc. -/
import Derived.Test.YtifoflicflodcaaGreatDoorRound2
namespace Go.Proofs.YtifoflicflodcaaGreatDoor
open Go.RowKit

/-- The whole part, and what is left. -/
def TruncRes (w : World) (L : Nat) (xs ys : List Nat) (e : Ending) (w' : World) : Prop :=
  ∃ a1 c1 L1 a2 c2 L2, e = .returned (.tuple #[.slice a1 L1 c1, DecV a2 L2 c2]) ∧ Own w.heap.size w' a1 L1 c1 xs ∧ Own w.heap.size w' a2 L2 c2 ys ∧ Ext w w' ∧ L1 ≤ L ∧ L2 ≤ L + 1

theorem U36_ne : U36 ≠ 0 := by unfold U36; decide

set_option maxHeartbeats 4000000 in
set_option maxRecDepth 100000 in
theorem dtrunc_calls {a : Option Addr} {m c : Nat} {xs : List Nat} {w : World} (ha : Sl w a m c xs) (hm : m ≤ 200000000) :
    Calls Tryz.prog 34 #[DecV a m c] w (TruncRes w m (lim (val xs / U36)) (lim (val xs % U36))) := by
  obtain ⟨X, hX⟩ : ∃ X, w.alloc (.cells #[.slice a m c] 25) = X := ⟨_, rfl⟩
  have EX : Ext w X := by rw [← hX]; exact (Ext.refl _).alloc _
  have hz : X.heap.size = w.heap.size + 1 := by rw [← hX, alloc_size]
  obtain ⟨W, hW⟩ : ∃ W, X.alloc (.cells #[.slice none 0 0] 25) = W := ⟨_, rfl⟩
  have EXW : Ext X W := by rw [← hW]; exact (Ext.refl _).alloc _
  have hS : ∀ w', Ext W w' → w'.cell? ⟨w.heap.size, 0, none⟩ = some (.slice a m c) := by
    intro w' h
    exact box_cell (by rw [hX]; exact EXW.trans h)
  have HS := Lib.hid hS
  have CU := Lib.hid (unit_calls W.drew)
  have HC : Hid (∀ w' o no co, Ext W w' → no ≤ 2 → Sl w' o no co (lim U36) → Calls Tryz.prog 50 #[.slice a m c, .slice o no co] w' (DivRes w' m (lim (val xs / U36)) (lim (val xs % U36)) 0)) := by
    intro w' o no co h hno hsl
    have := divmod_calls (ha.old ((EX.trans EXW).trans h)) hsl (by omega) (by omega)
    rw [val_lim] at this
    unfold quoL remL divE at this
    rwa [if_neg U36_ne, if_neg U36_ne, if_neg U36_ne] at this
  have HX := Lib.hid hX
  have HWE := Lib.hid hW
  have HEX := Lib.hid EX
  have HZ := Lib.hid hz
  clear hS EX EXW ha hz hX hW
  go_enter Tryz.func34, Tryz.ntmps34
  go_wp2_with fail
  rw [show (w.alloc (.cells #[.slice a m c] 25)).alloc (.cells #[.slice none 0 0] 25) = W by rw [HX.out]; exact HWE.out]
  go_region_held3 (fun w' => w'.cell? ⟨w.heap.size, 0, none⟩ = some (.slice a m c))
    (first | exact HS.out _ (Ext.refl _) | exact HS.out _ ((Ext.refl _).drew) | exact HS.out _ (((Ext.refl _).drew).trans (by assumption)) | exact HS.out _ ((((Ext.refl _).drew).trans (by assumption)).trans (by assumption)))
    (first | (go_at_call 51; refine CU.out.mono ?_; rintro e w5 ⟨o, no, co, rfl, hown, hext, hno⟩) | (go_at_call 50; refine (HC.out _ _ _ _ (((Ext.refl _).drew).trans (by assumption)) (by assumption) (Own.sl (by assumption))).mono ?_; rintro e w6 ⟨a1, c1, L1, a2, c2, L2, rfl, hown1, hown2, hext2, hl1, hl2, -⟩))
  have E6 := (((Ext.refl W).drew).trans hext).trans hext2
  have hs6 := (((Ext.refl W).drew).trans hext).size
  have ho1 := hown1.mono hs6
  have ho2 := hown2.mono hs6
  rw [← HWE.out] at E6 ho1 ho2
  obtain ⟨k1, k2⟩ := box_at HZ.out E6
  obtain ⟨f1, f2, f3⟩ := box_fin HEX.out HZ.out E6 (.slice a2 L2 c2)
  go_wp2_with fail
  try simp only [Exit.inBlock, Exit.then]
  refine bodyPost_ret (results_box3 rfl _ _ _ _ rfl (load_dec f2)) rfl ?_
  exact ⟨a1, c1, L1, a2, c2, L2, rfl, f3 ho1, f3 ho2, f1, hl1, hl2⟩

end Go.Proofs.YtifoflicflodcaaGreatDoor
