/- dec: products and quotients. -/
import Derived.Test.YtifoflicflodcaaGreatDoorDec
namespace Go.Proofs.YtifoflicflodcaaGreatDoor
open Go.RowKit

/-- What is rounded: down, or up by one. -/
def rdV (up : Bool) (P Z : Nat) : Nat := P / Z + (if up ∧ P % Z ≠ 0 then 1 else 0)
def rdL (up : Bool) (P Z : Nat) : List Nat := if Z = 0 then [] else lim (rdV up P Z)
def rdE (Z : Nat) : Int := if Z = 0 then 21 else 0
/-- The list that the closure has taken. -/
def upL (up : Bool) : List Nat := if up then [1] else []

theorem lim_zero_iff {n : Nat} : (lim n).length = 0 ↔ n = 0 := ⟨lim_len_zero, fun h => by rw [h]; rfl⟩

set_option maxHeartbeats 2000000 in
set_option maxRecDepth 100000 in
theorem rounder1_calls {a b e u : Option Addr} {m n l c d f uc un : Nat} {xs ys zs : List Nat} {w : World} {up : Bool} {p : Addr} (ha : Sl w a m c xs) (hb : Sl w b n d ys) (he : Sl w e l f zs)
    (hp : w.cell? p = some (.slice u un uc)) (hu : Sl w u un uc (upL up)) (hm : m ≤ 200000000) (hn : n ≤ 200000000) (hl : l ≤ 200000000) :
    Calls Tryz.prog 84 #[.slice a m c, .slice b n d, .slice e l f, .pointer (some p)] w (NewDE w (m + n + 2) (rdL up (val xs * val ys) (val zs)) (rdE (val zs))) := by
  have E3 := (Ext.refl w).alloc (.cells #[.slice none 0 0] 25)
  have CM := Lib.hid (muldiv_calls (ha.old E3) (hb.old E3) (he.old E3) (by omega) (by omega) (by omega))
  unfold rdL rdE
  unfold quoL remL divE at CM
  generalize val xs * val ys = P at *
  generalize val zs = Z at *
  have HUN := Lib.hid hu.len
  by_cases hz : Z = 0
  · rw [if_pos hz, if_pos hz, if_pos hz] at CM
    rw [if_pos hz, if_pos hz]
    clear hz
    go_enter Tryz.func84, Tryz.ntmps84
    go_wp2_with fail
    refine CM.out.mono ?_
    rintro e w2 ⟨a1, c1, L1, a2, c2, L2, rfl, hown1, hown2, hext, -⟩
    obtain ⟨k1, k2⟩ := box_at (X := w) rfl hext
    obtain ⟨f1, f2, f3⟩ := box_fin (Ext.refl w) rfl hext (.slice none 0 0)
    go_wp2_with fail
    try simp only [Exit.inBlock, Exit.then]
    refine bodyPost_ret (results_box2 rfl _ _ _ _ rfl (load_dec f2)) rfl ?_
    exact ⟨none, 0, 0, rfl, Own.nil _ _, f1, by omega⟩
  · rw [if_neg hz, if_neg hz, if_neg hz] at CM
    rw [if_neg hz, if_neg hz]
    have HZ := Lib.hid hz
    clear hz
    go_enter Tryz.func84, Tryz.ntmps84
    go_wp2_with fail
    refine CM.out.mono ?_
    rintro e w2 ⟨a1, c1, L1, a2, c2, L2, rfl, hown1, hown2, hext, hL1, -⟩
    have hL2 := hown2.sl.len
    by_cases hr : P % Z = 0
    · have hV : rdV up P Z = P / Z := by unfold rdV; rw [if_neg (by simp [hr])]; rfl
      have hL0 : L2 = 0 := by rw [← hL2, lim_zero_iff]; exact hr
      subst hL0
      rw [← hV] at hown1
      clear hV hr hL2
      obtain ⟨k1, k2⟩ := box_at (X := w) rfl hext
      obtain ⟨f1, f2, f3⟩ := box_fin (Ext.refl w) rfl hext (.slice a1 L1 c1)
      go_wp2_with fail
      try simp only [Exit.inBlock, Exit.then]
      refine bodyPost_ret (results_box2 rfl _ _ _ _ rfl (load_dec f2)) rfl ?_
      exact ⟨a1, L1, c1, rfl, f3 hown1, f1, by omega⟩
    · have hL0 : 0 < L2 := Nat.pos_of_ne_zero fun h => hr (lim_zero_iff.1 (by rw [hL2]; exact h))
      have g1 : (0 : Int) < (L2 : Int) := by omega
      have hp' := (E3.trans hext).cell hp
      have hu' := (hu.old E3).old hext
      have hV : val (lim (P / Z)) + val (upL up) = rdV up P Z := by
        rw [val_lim]
        unfold rdV upL
        cases up
        · simp [val]
        · simp [val, hr]
      have HV := Lib.hid hV
      have hul : un ≤ 1 := by rw [← HUN.out]; unfold upL; split <;> simp
      have CA := Lib.hid (add_calls hown1.sl hu' (by omega) (by omega))
      have HOWN1 := Lib.hid hown1
      have HUL := Lib.hid hul
      clear hV hr hL2 hown1 hown2 hul hu' hu ha hb he hL0
      go_wp2_with fail
      refine CA.out.mono ?_
      rintro e w3 ⟨o2, no2, co2, rfl, hown3, hext3, hno3⟩
      have hE := hext.trans hext3
      obtain ⟨k1, k2⟩ := box_at (X := w) rfl hE
      obtain ⟨f1, f2, f3⟩ := box_fin (Ext.refl w) rfl hE (.slice o2 no2 co2)
      rw [HV.out] at hown3
      go_wp2_with fail
      try simp only [Exit.inBlock, Exit.then]
      refine bodyPost_ret (results_box2 rfl _ _ _ _ rfl (load_dec f2)) rfl ?_
      exact ⟨o2, no2, co2, rfl, f3 (hown3.mono hext.size), f1, by have := HUL.out; omega⟩

end Go.Proofs.YtifoflicflodcaaGreatDoor
