/- nat.Bytes. -/
import Derived.Test.YtkdkgmnjhimdeaaGreatDoorBytM
import Derived.Test.YtkdkgmnjhimdeaaGreatDoorShift
namespace Go.Proofs.YtkdkgmnjhimdeaaGreatDoor
open Go.RowKit

def TbRel (w : World) (o : Option Addr) (V N : Nat) (iv : Value) (wr : World) : Prop :=
  ∃ (k : Nat) (os : List Nat), k ≤ N ∧ iv = .int .i64 (k : Int) ∧ OwnB w.heap.size wr o N N os ∧ Ext w wr ∧ ∀ j, j < k → os.getD (N - 1 - j) 0 = V / 256 ^ j % 256

set_option maxHeartbeats 4000000 in
set_option maxRecDepth 100000 in
theorem bytes_calls {a : Option Addr} {n c : Nat} {xs : List Nat} {w : World} (ha : Sl w a n c xs) (hn : n ≤ 100000000) :
    Calls Tryz.prog 46 #[.slice a n c] w (NewB w (8 * n) (bytesOf (val xs))) := by
  obtain ⟨i0, hi, hz0, hs, hby⟩ := info_parts info64
  have H1 := Lib.hid hi; have H3 := Lib.hid hs
  clear hi hz0 hs hby
  obtain ⟨i8, hi, hz0, hs, hby⟩ := info_parts infoU8
  have K1 := Lib.hid hi; have K2 := Lib.hid hz0; have K3 := Lib.hid hs; have K4 := Lib.hid hby
  clear hi hz0 hs hby
  have CB := Lib.hid (bits_calls ha (by omega))
  have hV : val xs < 256 ^ (8 * n) := by
    have := nv_lt ha.bd
    rw [ha.len, pow_B64_8] at this; exact this
  have hdig := Lib.hid (fun i => getD_digit B64_pos ha.bd i)
  have HXS := Lib.hid (show nv B64 xs = val xs from rfl)
  obtain ⟨V, hVV⟩ : ∃ V, val xs = V := ⟨_, rfl⟩
  rw [hVV] at CB hV HXS ⊢
  obtain ⟨N, hN⟩ : ∃ N, (bytesOf V).length = N := ⟨_, rfl⟩
  have HN := Lib.hid hN
  have hNb := bytesOf_len V
  rw [hN] at hNb
  have hN8 : N ≤ 8 * n := by rw [← hN]; unfold bytesOf; rw [List.length_reverse]; exact digs_len_le (by decide) hV
  have hbl : bitLen V ≤ 6400000000 := by
    have := bitLen_le (n := V) (k := 64 * n) (by rw [show 64 * n = 8 * (8 * n) by omega, Nat.pow_mul]; exact hV)
    omega
  obtain ⟨L, hL⟩ : ∃ L, bitLen V = L := ⟨_, rfl⟩
  rw [hL] at CB hNb hbl
  have m2 : ((L : Int) + 7).tdiv 8 = (N : Int) := by rw [Int.tdiv_eq_ediv_of_nonneg (by omega)]; omega
  have HNB := Lib.hid hNb
  have HA := Lib.hid ha
  clear ha hV hVV hN hNb hL
  go_enter Tryz.func46, Tryz.ntmps46
  go_wp2_with fail
  refine CB.out.mono ?_
  rintro e w' ⟨rfl, rfl⟩
  go_wp2_with (at_make; refine make_slB _ rfl _ _ _ rfl _ _ Tryz.underlying50 K1.out K2.out K3.out K4.out _ _ rfl rfl N (by omega) (by omega) (by omega) ?_)
  intro o w1 hown hext
  go_wp2_with fail
  go_loopw [13] (fun iv wr => TbRel w o V N iv wr) (fun iv _ => N - (intOf iv).toNat)
  case atStart => exact ⟨0, List.replicate N 0, by omega, rfl, hown, hext, fun j h => by omega⟩
  case round =>
    obtain ⟨k, os, hk, rfl, hown', hex, hinv⟩ := hrel
    have HOWN := Lib.hid hown'; have HINV := Lib.hid hinv; have HEX := Lib.hid hex
    clear hown' hinv hex
    by_cases hkn : k = N
    · subst hkn
      have HF := Lib.hid (bytesOf_ext HOWN.out.sl.len HN.out HINV.out)
      go_wp2_with fail
      go_ret
      have ho := HOWN.out
      rw [HF.out] at ho
      exact ⟨o, _, _, rfl, ho, HEX.out, hN8⟩
    · have hlt : (k : Int) < (N : Int) := by omega
      obtain ⟨ba, oa, hixa, hca, -⟩ := (HA.out.old HEX.out).ix (P := Tryz.prog) Tryz.underlying23 H1.out H3.out
      obtain ⟨bo, oo, hixo, hco, hao⟩ := HOWN.out.sl.ix (P := Tryz.prog) Tryz.underlying50 K1.out K3.out
      have hj : k / 8 < n := by omega
      have x1 := hixa (k / 8) hj
      have x2 := hca (k / 8) hj
      have x3 := hixo (N - 1 - k) (by omega)
      have x4 := hco (N - 1 - k) (by omega)
      have x5 := HOWN.out.free (hao (by omega)) (oo + (N - 1 - k))
      have HAO := Lib.hid (hao (by omega))
      rw [show ((N - 1 - k : Nat) : Int) = (N : Int) - 1 - (k : Int) by omega] at x3
      clear hixa hca hixo hco hao
      have hb := byte_of_limb V k
      rw [← HXS.out, ← hdig.out] at hb
      obtain ⟨t, ht⟩ : ∃ t, k % 8 = t := ⟨_, rfl⟩
      obtain ⟨j, hjj⟩ : ∃ j, k / 8 = j := ⟨_, rfl⟩
      have ht8 : t < 8 := by omega
      have hjn : j < n := by omega
      have wj : IntKind.i64.wrap (j : Int) = (j : Int) := IntWalk.i64_in _ (by omega)
      have wt : IntKind.i64.wrap (8 * (t : Int)) = 8 * (t : Int) := IntWalk.i64_in _ (by omega)
      have f2 : (k : Int).tdiv 8 = (j : Int) := by rw [Int.tdiv_eq_ediv_of_nonneg (by omega)]; omega
      have f4 : (k : Int).tmod 8 = (t : Int) := by rw [Int.tmod_eq_emod_of_nonneg (by omega)]; omega
      have hu := HA.out.bd.getD B64_pos j
      rw [ht, hjj] at hb
      rw [hjj] at x1 x2
      have HB := Lib.hid hb
      clear ht hjj hb
      generalize xs.getD j 0 = u at *
      obtain ⟨q, hq⟩ : ∃ q, u / 256 ^ t = q := ⟨_, rfl⟩
      obtain ⟨v, hv⟩ : ∃ v, q % 256 = v := ⟨_, rfl⟩
      have hv8 : v < 256 := by rw [← hv]; exact Nat.mod_lt _ (by decide)
      have hqu : q ≤ u := by rw [← hq]; exact Nat.div_le_self _ _
      have hw1 : (u : Int) / 2 ^ (8 * t) = (q : Int) := by
        rw [← hq, show 256 ^ t = 2 ^ (8 * t) by rw [Nat.pow_mul]]
        try simp
      have hw2 : IntKind.u8.wrap (q : Int) = (v : Int) := by
        rw [← hv, IntKind.wrap_u8]
        omega
      have HV := Lib.hid (show v = V / 256 ^ k % 256 from hv.symm.trans (by rw [← hq]; exact HB.out.trans (by rw [HXS.out])))
      have HUQ := Lib.hid hu
      have hq64 : q < 18446744073709551616 := by rw [B64_eq] at hu; omega
      have hu64 : u < 18446744073709551616 := by rw [B64_eq] at hu; omega
      have HSTO := Lib.hid (HOWN.out.store HAO.out (N - 1 - k) v (by omega) hv8)
      clear hq hv hu hqu hj
      go_wp2_with fail
      go_roundw
      case rel =>
        refine ⟨k + 1, os.set (N - 1 - k) v, by omega, by go_num, HSTO.out.1, (Ext.grownB HEX.out HOWN.out (Nat.le_refl _) HSTO.out.2), fun i hi => ?_⟩
        rcases Nat.lt_or_ge i k with h | h
        · rw [set_getD_other (by omega)]; exact HINV.out i h
        · obtain rfl : i = k := by omega
          rw [set_getD_self (by rw [HOWN.out.sl.len]; omega)]; exact HV.out
      case measure => simp only [intOf]; omega

end Go.Proofs.YtkdkgmnjhimdeaaGreatDoor
