/- gleanref1.Small, Bits. -/
import Derived.Test.YtkdkgmnjhimdeaaGreatDoorRefN
namespace Go.Proofs.YtkdkgmnjhimdeaaGreatDoor
open Go.RowKit

set_option maxHeartbeats 1000000 in
set_option maxRecDepth 100000 in
theorem rsmallA_calls {a : Option Addr} {n c : Nat} {xs : List Nat} {w : World} (h : Sl w a n c xs) (hn : n ≤ 1000000000) :
    Calls Tryz.prog 24 #[.slice a n c] w (RetE (.tuple #[.int .u64 (smallV (val xs) : Nat), .bool (decide (val xs < B64))]) w) := by
  obtain ⟨i0, hi, hz0, hs, hby⟩ := info_parts info64
  have H1 := Lib.hid hi; have H3 := Lib.hid hs
  clear hi hz0 hs hby
  have HC := Lib.hid (rnorm_calls h hn)
  generalize val xs = X at *
  by_cases h0 : X = 0
  · subst h0
    have hl0 : lim 0 = [] := rfl
    rw [hl0] at HC
    have hv : smallV 0 = 0 := rfl
    rw [hv, decide_eq_true B64_pos]
    clear h
    go_enter Tryz.func24, Tryz.ntmps24
    go_wp2_with fail
    refine HC.out.mono ?_
    rintro e w1 ⟨o, no, co, rfl, hown, hext, hno⟩
    have : no = 0 := by have := hown.sl.len; simp at this; omega
    subst this
    have HE := Lib.hid hext
    clear hown hext
    go_wp2_with fail
    go_ret2
    exact ⟨rfl, HE.out⟩
  · by_cases hX : X < B64
    · have hl := lim_small (Nat.pos_of_ne_zero h0) hX
      rw [hl] at HC
      rw [smallV_lt hX, decide_eq_true hX]
      clear h0 hX hl h
      go_enter Tryz.func24, Tryz.ntmps24
      go_wp2_with fail
      refine HC.out.mono ?_
      rintro e w1 ⟨o, no, co, rfl, hown, hext, hno⟩
      have : no = 1 := by have := hown.sl.len; simp at this; omega
      subst this
      obtain ⟨bb, ob, hix, hc, -⟩ := hown.sl.ix (P := Tryz.prog) Tryz.underlying23 H1.out H3.out
      have x1 := hix 0 (by omega)
      have x2 := hc 0 (by omega)
      rw [show ([X] : List Nat).getD 0 0 = X from rfl] at x2
      rw [show ((0 : Nat) : Int) = 0 from rfl] at x1
      simp only [Nat.add_zero] at x1 x2
      have HE := Lib.hid hext
      clear hown hext hix hc
      go_wp2_with fail
      go_ret2
      exact ⟨rfl, HE.out⟩
    · rw [smallV_ge (Nat.le_of_not_lt hX), decide_eq_false hX]
      have HG := Lib.hid (fun (h : (lim X).length ≤ 1) => hX (lim_len_one h))
      clear h0 hX h
      go_enter Tryz.func24, Tryz.ntmps24
      go_wp2_with fail
      refine HC.out.mono ?_
      rintro e w1 ⟨o, no, co, rfl, hown, hext, hno⟩
      have h1 : ¬ no ≤ 1 := fun h => HG.out (by rw [hown.sl.len]; exact h)
      have g1 : ((no : Int) == 0) = false := by rw [beq_eq_false_iff_ne]; omega
      have g2 : (1 : Int) < (no : Int) := by omega
      have HE := Lib.hid hext
      clear hown hext
      go_wp2_with fail
      go_ret2
      exact ⟨rfl, HE.out⟩

/-- The top digit, and the binary digits. -/
theorem rbits_parts {X k : Nat} (hk : (dig X).length = k + 1) : bitLen X = 32 * k + bitLen ((dig X).getD k 0) := by
  have hX : X ≠ 0 := by rintro rfl; rw [show dig 0 = [] from rfl] at hk; simp at hk
  have hv := rval_dig X
  have hne : dig X ≠ [] := by intro h; rw [h] at hk; simp at hk
  have hs := nv_take_drop B32 (dig X) k (by omega)
  rw [nv_drop_succ B32 (dig X) k (by omega), List.drop_of_length_le (by omega), nv_nil, Nat.mul_zero, Nat.add_zero] at hs
  have hlt := nv_lt ((bd_dig X).take k)
  rw [List.length_take, Nat.min_eq_left (by omega)] at hlt
  have hge := nrm_ge (b := B32) B32_pos (nrm_digs B32_two X) hne
  have e : B32 ^ k = 2 ^ (32 * k) := by rw [Nat.pow_mul]; rfl
  have hv' : nv B32 (dig X) = X := hv
  have hge' : B32 ^ k ≤ X := by
    have h2 : (dig X).length - 1 = k := by omega
    rw [show nv B32 (digs B32 X) = X from hv] at hge
    rw [show (digs B32 X).length - 1 = k from h2] at hge
    exact hge
  generalize (dig X).getD k 0 = y at *
  rw [hv', e] at hs
  rw [e] at hlt hge'
  have hp : 0 < 2 ^ (32 * k) := Nat.two_pow_pos _
  have hd : X / 2 ^ (32 * k) = y := by
    rw [hs, Nat.add_mul_div_left _ _ hp, Nat.div_eq_of_lt hlt, Nat.zero_add]
  have := bitLen_div X (32 * k) hge'
  rw [hd] at this
  exact this
def RBitsRel (w1 : World) (L : Nat) (nv_ dv : Value) (wr : World) : Prop :=
  ∃ n d : Nat, nv_ = .int .i64 (n : Int) ∧ dv = .int .u64 (d : Int) ∧ n + bitLen d = L ∧ d < 18446744073709551616 ∧ wr = w1

set_option maxHeartbeats 2000000 in
set_option maxRecDepth 100000 in
theorem rbits_calls {a : Option Addr} {n c : Nat} {xs : List Nat} {w : World} (h : Sl w a n c xs) (hn : n ≤ 1000000) :
    Calls Tryz.prog 32 #[.slice a n c] w (RetE (.int .i64 (bitLen (val xs) : Nat)) w) := by
  obtain ⟨i0, hi, hz0, hs, hby⟩ := info_parts info64
  have H1 := Lib.hid hi; have H3 := Lib.hid hs
  clear hi hz0 hs hby
  have HC := Lib.hid (digits_calls h (by omega))
  have HX := Lib.hid (show bitLen (val xs) ≤ 64000000 by
    have b1 := nv_lt h.bd
    rw [h.len, show B64 ^ n = 2 ^ (64 * n) by rw [Nat.pow_mul]; rfl] at b1
    have c1 := bitLen_le b1
    have d1 : nv B64 xs = val xs := rfl
    rw [d1] at c1
    omega)
  clear h
  generalize val xs = X at *
  go_enter Tryz.func32, Tryz.ntmps32
  go_wp2_with fail
  refine HC.out.mono ?_
  rintro e w1 ⟨o, M, co, rfl, hown, hext, hM⟩
  have hl := hown.sl.len
  have HE := Lib.hid hext
  cases M with
  | zero =>
    have hX : X = 0 := by
      have h1 : dig X = [] := List.eq_nil_of_length_eq_zero hl
      exact (digs_nil B32_two).1 h1
    subst hX
    clear hown hext hl
    go_wp2_with fail
    go_ret
    exact ⟨rfl, HE.out⟩
  | succ k =>
    have HP := Lib.hid (rbits_parts hl)
    obtain ⟨bo, oo, hix, hc, -⟩ := hown.sl.ix (P := Tryz.prog) Tryz.underlying22 H1.out H3.out
    have x1 := hix k (by omega)
    have x2 := hc k (by omega)
    have hdB := hown.sl.bd.getD B64_pos k
    rw [B64_eq] at hdB
    generalize (dig X).getD k 0 = d at *
    have g1 : (((k + 1 : Nat) : Int) == 0) = false := by rw [beq_eq_false_iff_ne]; omega
    have hx1 := HX.out
    obtain ⟨L, hL⟩ : ∃ L, bitLen X = L := ⟨_, rfl⟩
    rw [hL] at HP hx1
    have HLX := Lib.hid hL
    clear hown hext hl hix hc hL
    go_wp2_with fail
    go_loopw [4, 5] (fun nv_ dv wr => RBitsRel w1 L nv_ dv wr) (fun _ dv _ => (intOf dv).toNat)
    case atStart => exact ⟨32 * k, d, by go_num, rfl, HP.out.symm, hdB, rfl⟩
    case round =>
      obtain ⟨n2, d2, rfl, rfl, hs2, hd2, rfl⟩ := hrel
      by_cases hz : d2 = 0
      · subst hz
        have hn2 : n2 = L := by rw [← hs2]; rfl
        subst hn2
        clear hs2
        go_wp2_with fail
        go_ret
        exact ⟨by rw [HLX.out]; rfl, HE.out⟩
      · have hpos : (0 : Int) < (d2 : Int) := by omega
        have hh := bitLen_half hz
        have hdiv : (d2 : Int) / 2 = ((d2 / 2 : Nat) : Int) := by omega
        have HS := Lib.hid (show n2 + 1 + bitLen (d2 / 2) = L by omega)
        have hle : d2 / 2 < d2 := by omega
        have hnb : n2 ≤ 64000000 := by omega
        clear hh hs2
        generalize d2 / 2 = d3 at *
        go_wp2_with fail
        go_roundw
        case rel => exact ⟨n2 + 1, d3, by go_num, rfl, HS.out, by omega, rfl⟩
        case measure => simp only [intOf]; omega

end Go.Proofs.YtkdkgmnjhimdeaaGreatDoor
