/- dec.MulDivUp. -/
import Derived.Test.YtifoflicflodcaaGreatDoorRound2
namespace Go.Proofs.YtifoflicflodcaaGreatDoor
open Go.RowKit

set_option maxHeartbeats 4000000 in
set_option maxRecDepth 100000 in
theorem dmuldivup_calls {a b e : Option Addr} {m n l c d f : Nat} {xs ys zs : List Nat} {w : World} (ha : Sl w a m c xs) (hb : Sl w b n d ys) (he : Sl w e l f zs)
    (hm : m ≤ 200000000) (hn : n ≤ 200000000) (hl : l ≤ 200000000) :
    Calls Tryz.prog 30 #[DecV a m c, DecV b n d, DecV e l f] w (NewDE w (m + n + 2) (rdL true (val xs * val ys) (val zs)) (rdE (val zs))) := by
  have EX := W3_ext w (.slice a m c) (.slice b n d) (.slice e l f)
  have HZ := Lib.hid (W3_size w (.slice a m c) (.slice b n d) (.slice e l f))
  obtain ⟨W, hW⟩ : ∃ W, (W3 w (.slice a m c) (.slice b n d) (.slice e l f)).alloc (.cells #[.slice none 0 0] 25) = W := ⟨_, rfl⟩
  have EW : Ext w W := by rw [← hW]; exact EX.alloc _
  have EXW : Ext (W3 w (.slice a m c) (.slice b n d) (.slice e l f)) W := by rw [← hW]; exact (Ext.refl _).alloc _
  have hS : ∀ w', Ext W w' → w'.cell? ⟨w.heap.size, 0, none⟩ = some (.slice a m c) ∧ w'.cell? ⟨w.heap.size + 1, 0, none⟩ = some (.slice b n d) ∧ w'.cell? ⟨w.heap.size + 1 + 1, 0, none⟩ = some (.slice e l f) ∧
      w'.cell? ⟨w.heap.size + 1 + 1 + 1, 0, none⟩ = some (.slice none 0 0) ∧ w'.frozen? ⟨w.heap.size + 1 + 1 + 1, 0, none⟩ = false := by
    intro w' h
    have h1 := W3_at w (.slice a m c) (.slice b n d) (.slice e l f) (EXW.trans h)
    have h2 := box_at HZ.out (w2 := w') (by rw [hW]; exact h)
    exact ⟨h1.1, h1.2.1, h1.2.2, h2.1, h2.2⟩
  have hS3 : ∀ w', Ext W w' → w'.cell? ⟨w.heap.size, 0, none⟩ = some (.slice a m c) ∧ w'.cell? ⟨w.heap.size + 1, 0, none⟩ = some (.slice b n d) ∧ w'.cell? ⟨w.heap.size + 1 + 1, 0, none⟩ = some (.slice e l f) :=
    fun w' h => ⟨(hS w' h).1, (hS w' h).2.1, (hS w' h).2.2.1⟩
  have hS4 : ∀ w', Ext W w' → ∀ u, (w'.setCell ⟨w.heap.size + 1 + 1 + 1, 0, none⟩ u).cell? ⟨w.heap.size, 0, none⟩ = some (.slice a m c) ∧ (w'.setCell ⟨w.heap.size + 1 + 1 + 1, 0, none⟩ u).cell? ⟨w.heap.size + 1, 0, none⟩ = some (.slice b n d) ∧
      (w'.setCell ⟨w.heap.size + 1 + 1 + 1, 0, none⟩ u).cell? ⟨w.heap.size + 1 + 1, 0, none⟩ = some (.slice e l f) := by
    intro w' h u
    refine ⟨?_, ?_, ?_⟩
    · rw [World.cell?_setCell_other _ _ _ _ (fun e => by injection e with e1; omega)]; exact (hS3 w' h).1
    · rw [World.cell?_setCell_other _ _ _ _ (fun e => by injection e with e1; omega)]; exact (hS3 w' h).2.1
    · rw [World.cell?_setCell_other _ _ _ _ (fun e => by injection e with e1; omega)]; exact (hS3 w' h).2.2
  have HS := Lib.hid hS3
  have HS4 := Lib.hid hS4
  have HS5 := Lib.hid (fun w' h => (hS w' h).2.2.2)
  have C2 : Calls Tryz.prog 84 #[.slice a m c, .slice b n d, .slice e l f, .pointer (some ⟨W.heap.size + 1, 0, none⟩)] ((W.drew.alloc (.cells #[.int .u64 1] 26)).alloc (.cells #[.slice (some ⟨W.heap.size, 0, none⟩) 1 1] 23))
      (NewDE ((W.drew.alloc (.cells #[.int .u64 1] 26)).alloc (.cells #[.slice (some ⟨W.heap.size, 0, none⟩) 1 1] 23)) (m + n + 2) (rdL true (val xs * val ys) (val zs)) (rdE (val zs))) := by
    have E := ((EW.drew).alloc (.cells #[.int .u64 1] 26)).alloc (.cells #[.slice (some ⟨W.heap.size, 0, none⟩) 1 1] 23)
    have hl1 := (own_lit W.heap.size W.drew 1 (by decide) (Nat.le_refl _)).sl.old ((Ext.refl _).alloc (.cells #[.slice (some ⟨W.heap.size, 0, none⟩) 1 1] 23))
    have hc := box_cell (Ext.refl ((W.drew.alloc (.cells #[.int .u64 1] 26)).alloc (.cells #[.slice (some ⟨W.heap.size, 0, none⟩) 1 1] 23)))
    rw [alloc_size] at hc
    exact rounder1_calls (up := true) (ha.old E) (hb.old E) (he.old E) hc hl1 hm hn hl
  have HC := Lib.hid C2
  have HE := Lib.hid EX
  have HWE := Lib.hid hW
  clear hS hS3 hS4 C2 EX EXW
  have HA := Lib.hid ha
  clear ha hb he
  go_enter Tryz.func30, Tryz.ntmps30
  go_wp2_with fail
  rw [show (((w.alloc (.cells #[.slice a m c] 25)).alloc (.cells #[.slice b n d] 25)).alloc (.cells #[.slice e l f] 25)).alloc (.cells #[.slice none 0 0] 25) = W from HWE.out]
  go_region_held3 (fun w' => w'.cell? ⟨w.heap.size, 0, none⟩ = some (.slice a m c) ∧ w'.cell? ⟨w.heap.size + 1, 0, none⟩ = some (.slice b n d) ∧ w'.cell? ⟨w.heap.size + 1 + 1, 0, none⟩ = some (.slice e l f))
    (first | exact HS.out _ (Ext.refl _) | exact HS.out _ ((Ext.refl _).drew) | exact HS.out _ (((Ext.refl _).drew).alloc _) | exact HS.out _ ((((Ext.refl _).drew).alloc _).alloc _) | exact HS.out _ (((((Ext.refl _).drew).alloc _).alloc _).trans (by assumption)) | exact HS4.out _ (((((Ext.refl _).drew).alloc _).alloc _).trans (by assumption)) _)
    (first | (go_at_call 58; refine (rounder_calls _ _ _ _).mono ?_; rintro e w5 ⟨rfl, rfl⟩) | (go_at_call 84; refine HC.out.mono ?_; rintro e w6 ⟨o2, no2, co2, rfl, hown2, hext2, hno2⟩; obtain ⟨k1, k2⟩ := HS5.out _ (((((Ext.refl _).drew).alloc _).alloc _).trans hext2)))
  go_wp2_with fail
  have E6 := ((((Ext.refl W).drew).alloc _).alloc _).trans hext2
  have hs6 := ((((Ext.refl W).drew).alloc (.cells #[.int .u64 1] 26)).alloc (.cells #[.slice (some ⟨W.heap.size, 0, none⟩) 1 1] 23)).size
  have hown3 := hown2.mono hs6
  rw [← HWE.out] at E6 hown3
  obtain ⟨f1, f2, f3⟩ := box_fin HE.out HZ.out E6 (.slice o2 no2 co2)
  try simp only [Exit.inBlock, Exit.then]
  refine bodyPost_ret (results_box2 rfl _ _ _ _ rfl (load_dec f2)) rfl ?_
  exact ⟨o2, no2, co2, rfl, f3 hown3, f1, hno2⟩

end Go.Proofs.YtifoflicflodcaaGreatDoor
