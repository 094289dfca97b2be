/- dec.rounder; what goes by it. -/
import Derived.Test.YtifoflicflodcaaGreatDoorRound
namespace Go.Proofs.YtifoflicflodcaaGreatDoor
open Go.RowKit

/-- The closure over a variable. -/
abbrev RdV (p : Nat) : Value := .func (.func 84) #[] #[.pointer (some ⟨p, 0, none⟩)]

set_option maxHeartbeats 1000000 in
set_option maxRecDepth 100000 in
theorem rounder_calls (u : Option Addr) (un uc : Nat) (w : World) :
    Calls Tryz.prog 58 #[.slice u un uc] w (fun e w' => e = .returned (RdV w.heap.size) ∧ w' = w.alloc (.cells #[.slice u un uc] 23)) := by
  go_enter Tryz.func58, Tryz.ntmps58
  go_wp2_with fail
  go_ret
  exact ⟨rfl, rfl⟩

/-- Three boxes. -/
def W3 (w : World) (u v x : Value) : World := (W2 w u v).alloc (.cells #[x] 25)
theorem W3_ext (w : World) (u v x : Value) : Ext w (W3 w u v x) := (W2_ext w u v).alloc _
theorem W3_size (w : World) (u v x : Value) : (W3 w u v x).heap.size = w.heap.size + 1 + 1 + 1 := by unfold W3; rw [alloc_size, W2_size]
theorem W2_at (w : World) (u v : Value) {w' : World} (E : Ext (W2 w u v) w') :
    w'.cell? ⟨w.heap.size, 0, none⟩ = some u ∧ w'.cell? ⟨w.heap.size + 1, 0, none⟩ = some v := by
  constructor
  · exact box_cell (((Ext.refl _).alloc _).trans E)
  · have := box_cell (w := w.alloc (.cells #[u] 25)) E
    rwa [alloc_size] at this
theorem W3_at (w : World) (u v x : Value) {w' : World} (E : Ext (W3 w u v x) w') :
    w'.cell? ⟨w.heap.size, 0, none⟩ = some u ∧ w'.cell? ⟨w.heap.size + 1, 0, none⟩ = some v ∧ w'.cell? ⟨w.heap.size + 1 + 1, 0, none⟩ = some x := by
  have h := W2_at w u v (((Ext.refl _).alloc _).trans E)
  refine ⟨h.1, h.2, ?_⟩
  have := box_cell (w := W2 w u v) E
  rwa [W2_size] at this

set_option maxHeartbeats 4000000 in
set_option maxRecDepth 100000 in
theorem dmuldiv_calls {a b e : Option Addr} {m n l c d f : Nat} {xs ys zs : List Nat} {w : World} (ha : Sl w a m c xs) (hb : Sl w b n d ys) (he : Sl w e l f zs)
    (hm : m ≤ 200000000) (hn : n ≤ 200000000) (hl : l ≤ 200000000) :
    Calls Tryz.prog 28 #[DecV a m c, DecV b n d, DecV e l f] w (NewDE w (m + n + 2) (rdL false (val xs * val ys) (val zs)) (rdE (val zs))) := by
  have EX := W3_ext w (.slice a m c) (.slice b n d) (.slice e l f)
  have HZ := Lib.hid (W3_size w (.slice a m c) (.slice b n d) (.slice e l f))
  obtain ⟨W, hW⟩ : ∃ W, (W3 w (.slice a m c) (.slice b n d) (.slice e l f)).alloc (.cells #[.slice none 0 0] 25) = W := ⟨_, rfl⟩
  have EW : Ext w W := by rw [← hW]; exact EX.alloc _
  have EXW : Ext (W3 w (.slice a m c) (.slice b n d) (.slice e l f)) W := by rw [← hW]; exact (Ext.refl _).alloc _
  have hS : ∀ w', Ext W w' → w'.cell? ⟨w.heap.size, 0, none⟩ = some (.slice a m c) ∧ w'.cell? ⟨w.heap.size + 1, 0, none⟩ = some (.slice b n d) ∧ w'.cell? ⟨w.heap.size + 1 + 1, 0, none⟩ = some (.slice e l f) ∧
      w'.cell? ⟨w.heap.size + 1 + 1 + 1, 0, none⟩ = some (.slice none 0 0) ∧ w'.frozen? ⟨w.heap.size + 1 + 1 + 1, 0, none⟩ = false := by
    intro w' h
    have h1 := W3_at w (.slice a m c) (.slice b n d) (.slice e l f) (EXW.trans h)
    have h2 := box_at HZ.out (w2 := w') (by rw [hW]; exact h)
    exact ⟨h1.1, h1.2.1, h1.2.2, h2.1, h2.2⟩
  have hS3 : ∀ w', Ext W w' → w'.cell? ⟨w.heap.size, 0, none⟩ = some (.slice a m c) ∧ w'.cell? ⟨w.heap.size + 1, 0, none⟩ = some (.slice b n d) ∧ w'.cell? ⟨w.heap.size + 1 + 1, 0, none⟩ = some (.slice e l f) :=
    fun w' h => ⟨(hS w' h).1, (hS w' h).2.1, (hS w' h).2.2.1⟩
  have hS4 : ∀ w', Ext W w' → ∀ u, (w'.setCell ⟨w.heap.size + 1 + 1 + 1, 0, none⟩ u).cell? ⟨w.heap.size, 0, none⟩ = some (.slice a m c) ∧ (w'.setCell ⟨w.heap.size + 1 + 1 + 1, 0, none⟩ u).cell? ⟨w.heap.size + 1, 0, none⟩ = some (.slice b n d) ∧
      (w'.setCell ⟨w.heap.size + 1 + 1 + 1, 0, none⟩ u).cell? ⟨w.heap.size + 1 + 1, 0, none⟩ = some (.slice e l f) := by
    intro w' h u
    refine ⟨?_, ?_, ?_⟩
    · rw [World.cell?_setCell_other _ _ _ _ (fun e => by injection e with e1; omega)]; exact (hS3 w' h).1
    · rw [World.cell?_setCell_other _ _ _ _ (fun e => by injection e with e1; omega)]; exact (hS3 w' h).2.1
    · rw [World.cell?_setCell_other _ _ _ _ (fun e => by injection e with e1; omega)]; exact (hS3 w' h).2.2
  have HS := Lib.hid hS3
  have HS4 := Lib.hid hS4
  have HS5 := Lib.hid (fun w' h => (hS w' h).2.2.2)
  have C2 : ∀ wr, Ext W wr → Calls Tryz.prog 84 #[.slice a m c, .slice b n d, .slice e l f, .pointer (some ⟨wr.heap.size, 0, none⟩)] (wr.alloc (.cells #[.slice none 0 0] 23))
      (NewDE (wr.alloc (.cells #[.slice none 0 0] 23)) (m + n + 2) (rdL false (val xs * val ys) (val zs)) (rdE (val zs))) := by
    intro wr h
    have E := (EW.trans h).alloc (.cells #[.slice none 0 0] 23)
    exact rounder1_calls (up := false) (ha.old E) (hb.old E) (he.old E) (box_cell (Ext.refl _)) (Sl.nil _) hm hn hl
  have HC := Lib.hid C2
  have HE := Lib.hid EX
  have HWE := Lib.hid hW
  clear hS hS3 hS4 C2 EX EXW
  have HA := Lib.hid ha
  clear ha hb he
  go_enter Tryz.func28, Tryz.ntmps28
  go_wp2_with fail
  rw [show (((w.alloc (.cells #[.slice a m c] 25)).alloc (.cells #[.slice b n d] 25)).alloc (.cells #[.slice e l f] 25)).alloc (.cells #[.slice none 0 0] 25) = W from HWE.out]
  go_region_held3 (fun w' => w'.cell? ⟨w.heap.size, 0, none⟩ = some (.slice a m c) ∧ w'.cell? ⟨w.heap.size + 1, 0, none⟩ = some (.slice b n d) ∧ w'.cell? ⟨w.heap.size + 1 + 1, 0, none⟩ = some (.slice e l f))
    (first | exact HS.out _ (Ext.refl _) | exact HS.out _ ((Ext.refl _).drew) | exact HS.out _ (((Ext.refl _).drew).alloc _) | exact HS.out _ ((((Ext.refl _).drew).alloc _).trans (by assumption)) | exact HS4.out _ ((((Ext.refl _).drew).alloc _).trans (by assumption)) _)
    (first | (go_at_call 58; refine (rounder_calls _ _ _ _).mono ?_; rintro e w5 ⟨rfl, rfl⟩) | (go_at_call 84; refine (HC.out _ ((Ext.refl _).drew)).mono ?_; rintro e w6 ⟨o2, no2, co2, rfl, hown2, hext2, hno2⟩; obtain ⟨k1, k2⟩ := HS5.out _ ((((Ext.refl _).drew).alloc _).trans hext2)))
  go_wp2_with fail
  have E6 := (((Ext.refl W).drew).alloc (.cells #[.slice none 0 0] 23)).trans hext2
  have hs6 := (((Ext.refl W).drew).alloc (.cells #[.slice none 0 0] 23)).size
  rw [← HWE.out] at E6 hs6
  obtain ⟨f1, f2, f3⟩ := box_fin HE.out HZ.out E6 (.slice o2 no2 co2)
  try simp only [Exit.inBlock, Exit.then]
  refine bodyPost_ret (results_box2 rfl _ _ _ _ rfl (load_dec f2)) rfl ?_
  rw [← HWE.out] at hown2
  exact ⟨o2, no2, co2, rfl, f3 (hown2.mono hs6), f1, hno2⟩

end Go.Proofs.YtifoflicflodcaaGreatDoor
