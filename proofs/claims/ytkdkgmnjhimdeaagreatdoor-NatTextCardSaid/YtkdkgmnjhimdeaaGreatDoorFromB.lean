/- nat.FromBytes. -/
import Derived.Test.YtkdkgmnjhimdeaaGreatDoorBytM
import Derived.Test.YtkdkgmnjhimdeaaGreatDoorShift
namespace Go.Proofs.YtkdkgmnjhimdeaaGreatDoor
open Go.RowKit

def fbL (bs : List Nat) : List Nat := if bs ≠ [] ∧ bs.getD 0 0 = 0 then [] else lim (nv 256 bs.reverse)
def fbE (bs : List Nat) : Int := if bs ≠ [] ∧ bs.getD 0 0 = 0 then 13 else 0

def FbRel (w : World) (o : Option Addr) (n M : Nat) (rs : List Nat) (iv : Value) (wr : World) : Prop :=
  ∃ (k : Nat) (os : List Nat), k ≤ n ∧ iv = .int .i64 (k : Int) ∧ Own w.heap.size wr o M M os ∧ FbInv rs os M k ∧ Ext w wr

set_option maxHeartbeats 4000000 in
set_option maxRecDepth 100000 in
theorem frombytes_ok {a : Option Addr} {n c : Nat} {bs : List Nat} {w : World} (ha : SlB w a n c bs) (hn : n ≤ 1000000000) (hz : ¬ (bs ≠ [] ∧ bs.getD 0 0 = 0)) :
    Calls Tryz.prog 43 #[.slice a n c] w (New2 w n (lim (nv 256 bs.reverse)) 0) := by
  obtain ⟨i0, hi, hz0, hs, hby⟩ := info_parts info64
  have H1 := Lib.hid hi; have H2 := Lib.hid hz0; have H3 := Lib.hid hs; have H4 := Lib.hid hby
  clear hi hz0 hs hby
  obtain ⟨i8, hi, hz0, hs, hby⟩ := info_parts infoU8
  have K1 := Lib.hid hi; have K3 := Lib.hid hs
  clear hi hz0 hs hby
  obtain ⟨M, hM⟩ : ∃ M, (n + 7) / 8 = M := ⟨_, rfl⟩
  have HM := Lib.hid hM
  have m2 : ((n : Int) + 7).tdiv 8 = (M : Int) := by rw [Int.tdiv_eq_ediv_of_nonneg (by omega)]; omega
  have hMb : M ≤ 1000000000 := by omega
  have wM : IntKind.i64.wrap (M : Int) = (M : Int) := IntWalk.i64_in _ (by omega)
  have HL := Lib.hid ha.len
  have HBD := Lib.hid (show Bd 256 bs.reverse from fun x hx => ha.bd x (List.mem_reverse.1 hx))
  have HA := Lib.hid ha
  have q1 := Lib.hid (fun (h : 0 < n) => show bs.getD 0 0 ≠ 0 from fun h0 => hz ⟨fun e => by rw [e] at h0; have := ha.len; rw [e] at this; simp at this; omega, h0⟩)
  have finish : Hid (∀ (o : Option Addr) (os : List Nat) (wr : World), Own w.heap.size wr o M M os → FbInv bs.reverse os M n → Ext w wr → Calls Tryz.prog 56 #[.slice o M M] wr (fun e w' => e = .returned (.slice o (lim (nv 256 bs.reverse)).length (lim (nv 256 bs.reverse)).length) ∧ wr = w') ∧ Own w.heap.size wr o (lim (nv 256 bs.reverse)).length (lim (nv 256 bs.reverse)).length (lim (nv 256 bs.reverse)) ∧ (lim (nv 256 bs.reverse)).length ≤ n) := Lib.hid (fun o os wr ho hinv hex => by
    have hv : val os = nv 256 bs.reverse := by
      have := hinv.eq
      rw [List.take_of_length_le (by rw [List.length_reverse, HL.out]; exact Nat.le_refl _)] at this
      exact this
    have h1 := trimmed_calls ho.sl
    have h2 := ho.trimmed
    have h3 := ho.sl.trimmed_len
    rw [hv] at h1 h2 h3
    exact ⟨h1, h2, by have := HM.out; omega⟩)
  clear ha hz hM
  have start : ∃ (b0 : Option Nat), (n = 0 ∧ b0 = none) ∨ (0 < n ∧ ∃ y, b0 = some y) := by
    rcases Nat.eq_zero_or_pos n with h | h
    · exact ⟨none, .inl ⟨h, rfl⟩⟩
    · exact ⟨some 0, .inr ⟨h, 0, rfl⟩⟩
  clear start
  have hfirst : Hid (0 < n → ∃ (b off y : Nat), a = some ⟨b, off, none⟩ ∧ (∀ w' : World, (Instr.indexAt 50 (.slice a n c) (.int .i64 0)).run Tryz.prog w' = .ok (.pointer (some ⟨b, off, none⟩)) w') ∧ w.cell? ⟨b, off, none⟩ = some (.int .u8 (y : Int)) ∧ ((y : Int) == 0) = false) := Lib.hid (fun h0 => by
    obtain ⟨b, off, hix, hc, ha0⟩ := HA.out.ix (P := Tryz.prog) Tryz.underlying50 K1.out K3.out
    refine ⟨b, off, bs.getD 0 0, ha0 h0, ?_, ?_, ?_⟩
    · exact hix 0 h0
    · exact hc 0 h0
    · have := q1.out h0; rw [beq_eq_false_iff_ne]; omega)
  rcases Nat.eq_zero_or_pos n with h0 | h0
  · subst h0
    obtain rfl : bs = [] := List.eq_nil_of_length_eq_zero HL.out
    clear hfirst q1 finish
    go_enter Tryz.func43, Tryz.ntmps43
    go_wp2_with (at_make; refine make_sl _ rfl _ _ _ rfl _ _ Tryz.underlying23 H1.out H2.out H3.out H4.out _ _ rfl rfl 0 (by omega) (by omega) (by omega) ?_)
    intro o w1 hown hext
    go_wp2_with fail
    go_loopw [22] (fun iv wr => iv = .int .i64 0 ∧ wr = w1) (fun iv _ => 0)
    case atStart => exact ⟨rfl, rfl⟩
    case round =>
      obtain ⟨rfl, rfl⟩ := hrel
      have HO := Lib.hid (trimmed_calls hown.sl)
      go_wp2_with fail
      refine HO.out.mono ?_
      rintro e w3 ⟨rfl, rfl⟩
      go_wp2_with fail
      go_ret2
      exact ⟨o, _, _, rfl, hown.trimmed, hext, Nat.le_refl _⟩
  · have g1 : ((0 : Int) < (n : Int)) := by omega
    obtain ⟨b0, off0, y0, ha0, hi0, hc0, hy0⟩ := hfirst.out h0
    clear ha0
    go_enter Tryz.func43, Tryz.ntmps43
    go_wp2_with (at_make; refine make_sl _ rfl _ _ _ rfl _ _ Tryz.underlying23 H1.out H2.out H3.out H4.out _ _ rfl rfl M (by omega) (by omega) (by have := HM.out; omega) ?_)
    intro o w1 hown hext
    go_wp2_with fail
    go_loopw [22] (fun iv wr => FbRel w o n M bs.reverse iv wr) (fun iv _ => n - (intOf iv).toNat)
    case atStart => exact ⟨0, List.replicate M 0, by omega, rfl, hown, ⟨List.length_replicate .., by rw [nv_replicate]; rfl⟩, hext⟩
    case round =>
      obtain ⟨k, os, hk, rfl, hown', hinv, hex⟩ := hrel
      have HOWN := Lib.hid hown'; have HINV := Lib.hid hinv; have HEX := Lib.hid hex
      clear hown' hinv hex
      by_cases hkn : k = n
      · subst hkn
        obtain ⟨f1, f2, f3⟩ := finish.out o os wr HOWN.out HINV.out HEX.out
        have F1 := Lib.hid f1; have F2 := Lib.hid f2
        clear f1 f2
        go_wp2_with fail
        refine F1.out.mono ?_
        rintro e w3 ⟨rfl, rfl⟩
        go_wp2_with fail
        go_ret2
        exact ⟨o, _, _, rfl, F2.out, HEX.out, f3⟩
      · have hlt : (k : Int) < (n : Int) := by omega
        obtain ⟨ba, oa, hixa, hca, -⟩ := (HA.out.old HEX.out).ix (P := Tryz.prog) Tryz.underlying50 K1.out K3.out
        obtain ⟨bo, oo, hixo, hco, hao⟩ := HOWN.out.sl.ix (P := Tryz.prog) Tryz.underlying23 H1.out H3.out
        have hjM : k / 8 < M := by have := HM.out; omega
        have HTOP := Lib.hid (HINV.out.top HBD.out hjM)
        have HST := Lib.hid (HINV.out.step hjM)
        have hx8 := HBD.out.getD (by decide) k
        have x1 := hixa (n - 1 - k) (by omega)
        have x2 := hca (n - 1 - k) (by omega)
        rw [← getD_reverse HL.out (by omega)] at x2
        rw [show ((n - 1 - k : Nat) : Int) = (n : Int) - 1 - (k : Int) by omega] at x1
        have x3 := hixo (k / 8) hjM
        have x4 := hco (k / 8) hjM
        have x5 := HOWN.out.free (hao (by omega)) (oo + k / 8)
        have HAO := Lib.hid (hao (by omega))
        clear hixa hca hixo hco hao
        obtain ⟨t, ht⟩ : ∃ t, k % 8 = t := ⟨_, rfl⟩
        obtain ⟨j, hj⟩ : ∃ j, k / 8 = j := ⟨_, rfl⟩
        have ht8 : t < 8 := by omega
        have wj : IntKind.i64.wrap (j : Int) = (j : Int) := IntWalk.i64_in _ (by omega)
        have wt : IntKind.i64.wrap (8 * (t : Int)) = 8 * (t : Int) := IntWalk.i64_in _ (by omega)
        have f2 : (k : Int).tdiv 8 = (j : Int) := by rw [Int.tdiv_eq_ediv_of_nonneg (by omega)]; omega
        have f4 : (k : Int).tmod 8 = (t : Int) := by rw [Int.tmod_eq_emod_of_nonneg (by omega)]; omega
        rw [ht] at HTOP HST
        rw [hj] at x3 x4 x5 HTOP HST hjM
        have HT := Lib.hid ht; have HJ := Lib.hid hj
        clear ht hj
        generalize bs.reverse.getD k 0 = x at *
        obtain ⟨z, hz⟩ : ∃ z, os.getD j 0 = z := ⟨_, rfl⟩
        rw [hz] at x4 HTOP HST
        have HZ := Lib.hid hz
        clear hz
        obtain ⟨s, hs⟩ : ∃ s, x * 256 ^ t = s := ⟨_, rfl⟩
        have hsB : z + s < B64 := by rw [← hs]; exact fb_lt HTOP.out hx8 ht8
        have hor0 : z ||| s = z + s := by rw [← hs]; exact fb_or HTOP.out
        rw [hs] at HST
        have hw1 : IntKind.u64.wrap ((x : Int) * 2 ^ (8 * t)) = (s : Int) := by
          rw [show (x : Int) * 2 ^ (8 * t) = (s : Int) by rw [← hs, show 256 ^ t = 2 ^ (8 * t) by rw [Nat.pow_mul]]; simp]
          rw [B64_eq] at hsB
          exact IntWalk.u64_in _ (by omega)
        have hs64 : s < 18446744073709551616 := by rw [B64_eq] at hsB; omega
        have hz64 : z < 18446744073709551616 := by rw [B64_eq] at hsB; omega
        have hor : bits BinOp.or IntKind.u64 (z : Int) (s : Int) = ((z + s : Nat) : Int) := by
          rw [bits_or_u64_nat z s (by omega) (by omega), hor0]
        obtain ⟨v, hv⟩ : ∃ v, z + s = v := ⟨_, rfl⟩
        rw [hv] at hor hsB HST
        have HSTO := Lib.hid (HOWN.out.store HAO.out j v hjM hsB)
        have HVB := Lib.hid hsB
        clear hor0 hv hs hsB
        go_wp2_with fail
        go_region
        go_wp2_with fail
        go_roundw
        case rel => exact ⟨k + 1, os.set j v, by omega, by go_num, HSTO.out.1.old (Ext.refl _).drew, HST.out, (Ext.grown' HEX.out HOWN.out (Nat.le_refl _) HSTO.out.2).drew⟩
        case measure => simp only [intOf]; omega

end Go.Proofs.YtkdkgmnjhimdeaaGreatDoor
