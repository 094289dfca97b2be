/- nat.Pow10. -/
import Derived.Test.YtkdkgmnjhimdeaaGreatDoorBits
namespace Go.Proofs.YtkdkgmnjhimdeaaGreatDoor
open Go.RowKit

/-- A power of ten by squaring: what is kept. -/
def P10exp : Nat := 8192
def P10cap : Nat := 10 ^ P10exp
theorem p10_cap {n : Nat} (h : n ≤ P10cap) : (lim n).length ≤ 426 := lim_len_le (Nat.lt_of_le_of_lt h (by unfold P10cap; decide +kernel))
theorem p10_top {N : Nat} (h : N ≤ 4096) : 10 ^ N * 10 ^ N ≤ P10cap := by
  unfold P10cap
  rw [← Nat.pow_add]
  exact Nat.pow_le_pow_right (by decide) (show N + N ≤ 8192 by omega)
theorem p10_le {N : Nat} (h : N ≤ 4096) : 10 ^ N ≤ P10cap := Nat.le_trans (Nat.le_mul_of_pos_right _ (Nat.pow_pos (by omega))) (p10_top h)
structure P10Inv (N m v t : Nat) : Prop where
  eq : v * t ^ m = 10 ^ N
  vpos : 0 < v
  tpos : 0 < t
theorem P10Inv.start (N : Nat) : P10Inv N N 1 10 := ⟨by rw [Nat.one_mul], by omega, by omega⟩
theorem P10Inv.v_le {N m v t : Nat} (h : P10Inv N m v t) : v ≤ 10 ^ N := by
  rw [← h.eq]; exact Nat.le_mul_of_pos_right _ (Nat.pow_pos h.tpos)
theorem P10Inv.t_le {N m v t : Nat} (h : P10Inv N m v t) (hm : 0 < m) : t ≤ 10 ^ N := by
  rw [← h.eq]
  obtain ⟨k, rfl⟩ : ∃ k, m = k + 1 := ⟨m - 1, by omega⟩
  rw [Nat.pow_succ]
  calc t ≤ t ^ k * t := Nat.le_mul_of_pos_left _ (Nat.pow_pos h.tpos)
    _ ≤ _ := Nat.le_mul_of_pos_left _ h.vpos
theorem P10Inv.even {N m v t : Nat} (h : P10Inv N m v t) (he : m % 2 = 0) : P10Inv N (m / 2) v (t * t) := by
  refine ⟨?_, h.vpos, Nat.mul_pos h.tpos h.tpos⟩
  rw [← h.eq, ← Nat.pow_two, ← Nat.pow_mul]
  congr 2; omega
theorem P10Inv.odd {N m v t : Nat} (h : P10Inv N m v t) (he : m % 2 = 1) : P10Inv N (m / 2) (v * t) (t * t) := by
  refine ⟨?_, Nat.mul_pos h.vpos h.tpos, Nat.mul_pos h.tpos h.tpos⟩
  rw [← h.eq, ← Nat.pow_two, ← Nat.pow_mul, Nat.mul_assoc, ← Nat.pow_succ']
  congr 2; omega
theorem P10Inv.fin {N v t : Nat} (h : P10Inv N 0 v t) : v = 10 ^ N := by have := h.eq; simpa using this

/-- What nat.Pow10 tells. -/
def pow10L (n : Int) : List Nat := if 0 ≤ n ∧ n ≤ 4096 then lim (10 ^ n.toNat) else []
def pow10E (n : Int) : Int := if 0 ≤ n ∧ n ≤ 4096 then 0 else 12

/-- What the loop keeps. -/
def P10Rel (w : World) (N : Nat) (nv ov tv : Value) (wr : World) : Prop :=
  ∃ (m : Nat) (o : Option Addr) (no co v : Nat) (t : Option Addr) (nt ct u : Nat), nv = .int .i64 m ∧ ov = .slice o no co ∧ tv = .slice t nt ct ∧ m ≤ N ∧ P10Inv N m v u ∧ u ≤ P10cap ∧
    Own w.heap.size wr o no co (lim v) ∧ Sl wr t nt ct (lim u) ∧ Ext w wr

set_option maxHeartbeats 2000000 in
set_option maxRecDepth 100000 in
theorem pow10_in (N : Nat) (hN : N ≤ 4096) (w : World) : Calls Tryz.prog 38 #[.int .i64 (N : Int)] w (New2 w 1000 (lim (10 ^ N)) 0) := by
  have h1 : ¬ ((N : Int) < 0) := by omega
  have h2 : ¬ (4096 < (N : Int)) := by omega
  have HC := Lib.hid (p10_cap (Nat.le_refl P10cap))
  have HL := Lib.hid (p10_le hN)
  have HT := Lib.hid (p10_top hN)
  go_enter Tryz.func38, Tryz.ntmps38
  go_wp2_with fail
  go_loopw [0, 4, 5] (fun nv ov tv wr => P10Rel w N nv ov tv wr) (fun nv _ _ _ => (intOf nv).toNat)
  case atStart =>
    refine ⟨N, _, 1, 1, 1, _, 1, 1, 10, rfl, rfl, rfl, Nat.le_refl _, P10Inv.start N, ?_, ?_, ?_, ?_⟩
    · exact Nat.le_trans (by omega) (p10_le (N := 1) (by omega))
    · rw [lim_small (n := 1) (by omega) (by decide)]
      exact (own_lit w.heap.size w 1 (by decide) (Nat.le_refl _)).old ((Ext.refl _).alloc _)
    · rw [lim_small (n := 10) (by omega) (by decide)]
      have hz : (w.alloc (.cells #[.int .u64 1] 33 (0, 0))).heap.size = w.heap.size + 1 := Array.size_push _
      have h := (own_lit w.heap.size (w.alloc (.cells #[.int .u64 1] 33 (0, 0))) 10 (by decide) (by omega)).sl
      rw [hz] at h
      exact h
    · exact ((Ext.refl w).alloc _).alloc _
  case round =>
    obtain ⟨m, o, no, co, v, t, nt, ct, u, rfl, rfl, rfl, hm, hinv, hu, hown, hsl, hext⟩ := hrel
    by_cases hm0 : m = 0
    · subst hm0
      have hv := hinv.fin
      have hlen := p10_cap (Nat.le_trans hinv.v_le HL.out)
      have HV := Lib.hid hv
      have HLEN := Lib.hid hlen
      have HO := Lib.hid hown.sl.len
      clear hv hlen
      go_wp2_with fail
      go_ret2
      refine ⟨o, no, co, rfl, ?_, hext, ?_⟩
      · rw [← HV.out]; exact hown
      · have := HLEN.out; have := HO.out; omega
    · have hlen := p10_cap (Nat.le_trans hinv.v_le HL.out)
      have hlen2 := p10_cap hu
      have hO := hown.sl.len
      have hS := hsl.len
      have hcap := Nat.le_trans (Nat.mul_le_mul (hinv.t_le (by omega)) (hinv.t_le (by omega))) HT.out
      have HCAP := Lib.hid hcap
      have g0 : (0 : Int) < (m : Int) := by omega
      have CT := Lib.hid (mul_calls hsl hsl (by omega) (by omega))
      have CV := Lib.hid (mul_calls hown.sl hsl (by omega) (by omega))
      have HI := Lib.hid hinv
      have HU := Lib.hid hu
      have HV := Lib.hid (val_lim v)
      have HW := Lib.hid (val_lim u)
      have HSL := Lib.hid (show nt ≤ 426 by omega)
      clear hinv hu hcap hlen hlen2 hO hS
      rcases Nat.mod_two_eq_zero_or_one m with he | he
      · have g1 : ¬ ((m : Int) % 2 = 1) := by omega
        have HE := Lib.hid he
        clear he
        go_wp2_with fail
        refine CT.out.mono ?_
        rintro e w2 ⟨o2, n2, c2, rfl, hown2, hext2, hl2⟩
        go_wp2_with fail
        go_roundw
        case rel =>
          rw [HW.out] at hown2
          refine ⟨m / 2, o, no, co, v, o2, n2, c2, u * u, by go_num, rfl, rfl, by omega, HI.out.even HE.out, HCAP.out, ?_, ?_, ?_⟩
          · exact hown.old hext2
          · exact hown2.sl
          · exact hext.trans hext2
        case measure => simp [intOf]; omega
      · have g1 : ((m : Int) % 2 = 1) := by omega
        have HE := Lib.hid he
        clear he
        go_wp2_with fail
        refine CV.out.mono ?_
        rintro e w1 ⟨o1, n1, c1, rfl, hown1, hext1, hl1⟩
        go_wp2_with fail
        refine (mul_calls (hsl.old hext1) (hsl.old hext1) (by have := HSL.out; omega) (by have := HSL.out; omega)).mono ?_
        rintro e w2 ⟨o2, n2, c2, rfl, hown2, hext2, hl2⟩
        go_wp2_with fail
        go_roundw
        case rel =>
          rw [HW.out] at hown2
          refine ⟨m / 2, o1, n1, c1, v * u, o2, n2, c2, u * u, by go_num, rfl, rfl, by omega, HI.out.odd HE.out, HCAP.out, ?_, ?_, ?_⟩
          · rw [HV.out, HW.out] at hown1
            exact (hown1.mono hext.size).old hext2
          · exact hown2.sl
          · exact (hext.trans hext1).trans hext2
        case measure => simp [intOf]; omega

set_option maxHeartbeats 1000000 in
set_option maxRecDepth 100000 in
theorem pow10_calls (n : Int) (w : World) : Calls Tryz.prog 38 #[.int .i64 n] w (New2 w 1000 (pow10L n) (pow10E n)) := by
  unfold pow10L pow10E
  by_cases h : 0 ≤ n ∧ n ≤ 4096
  · rw [if_pos h, if_pos h]
    have := pow10_in n.toNat (by omega) w
    rwa [Int.toNat_of_nonneg h.1] at this
  · rw [if_neg h, if_neg h]
    by_cases h0 : n < 0
    · clear h
      go_enter Tryz.func38, Tryz.ntmps38
      go_wp2_with fail
      go_ret2
      exact ⟨none, 0, 0, rfl, Own.nil _ _, Ext.refl _, by omega⟩
    · have h1 : 4096 < n := by omega
      clear h
      go_enter Tryz.func38, Tryz.ntmps38
      go_wp2_with fail
      go_ret2
      exact ⟨none, 0, 0, rfl, Own.nil _ _, Ext.refl _, by omega⟩

end Go.Proofs.YtkdkgmnjhimdeaaGreatDoor
