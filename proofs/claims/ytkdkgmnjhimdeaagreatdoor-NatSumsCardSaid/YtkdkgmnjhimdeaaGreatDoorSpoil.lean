/- gleanhelp.Spoil. -/
import Derived.Test.YtkdkgmnjhimdeaaGreatDoorShift
namespace Go.Proofs.YtkdkgmnjhimdeaaGreatDoor
open Go.RowKit

def SpoilRel (B : Nat) (w : World) (a : Option Addr) (n c : Nat) (iv : Value) (wr : World) : Prop :=
  ∃ (k : Nat) (os : List Nat), k ≤ n ∧ iv = .int .i64 (k : Int) ∧ Own B wr a n c os ∧ w.grownBy wr (blk a)
def Spoiled (B : Nat) (w : World) (a : Option Addr) (n c : Nat) (e : Ending) (w' : World) : Prop :=
  ∃ os, e = .returned (.tuple #[]) ∧ Own B w' a n c os ∧ w.grownBy w' (blk a)

set_option maxHeartbeats 2000000 in
set_option maxRecDepth 100000 in
theorem spoil_calls {B : Nat} {a : Option Addr} {n c : Nat} {xs : List Nat} {w : World} (ha : Own B w a n c xs) (hn : n ≤ 1000000000) :
    Calls Tryz.prog 33 #[.slice a n c] w (Spoiled B w a n c) := by
  obtain ⟨i0, hi, hz0, hs, hby⟩ := info_parts info64
  have H1 := Lib.hid hi; have H3 := Lib.hid hs
  clear hi hz0 hs hby
  have HA := Lib.hid ha
  clear ha
  go_enter Tryz.func33, Tryz.ntmps33
  go_wp2_with fail
  go_loopw [2] (fun iv wr => SpoilRel B w a n c iv wr) (fun iv _ => n - (intOf iv).toNat)
  case atStart => exact ⟨0, xs, by omega, rfl, HA.out, grownBy_refl _ _⟩
  case round =>
    obtain ⟨k, os, hk, rfl, hown, hg⟩ := hrel
    have HOWN := Lib.hid hown; have HG := Lib.hid hg
    clear hown hg
    by_cases hkn : k = n
    · subst hkn
      go_wp2_with fail
      go_end0
      exact ⟨os, rfl, HOWN.out, HG.out⟩
    · have hlt : (k : Int) < (n : Int) := by omega
      obtain ⟨bo, oo, hixo, hco, hao⟩ := HOWN.out.sl.ix (P := Tryz.prog) Tryz.underlying23 H1.out H3.out
      have x3 := hixo k (by omega)
      have x4 := hco k (by omega)
      have x5 := HOWN.out.free (hao (by omega)) (oo + k)
      have HAO := Lib.hid (hao (by omega))
      have hu := HOWN.out.sl.bd.getD B64_pos k
      clear hixo hco hao
      generalize os.getD k 0 = u at *
      rw [B64_eq] at hu
      obtain ⟨v, hv⟩ : ∃ v, u ^^^ 6510615555426900570 = v := ⟨_, rfl⟩
      have hvB : v < B64 := by rw [← hv]; exact Nat.xor_lt_two_pow (n := 64) hu (by decide)
      have hx : bits BinOp.xor IntKind.u64 (u : Int) 6510615555426900570 = (v : Int) := by
        have := bits_xor_u64_nat u 6510615555426900570 hu (by decide)
        rw [hv] at this
        exact this
      have HST := Lib.hid (HOWN.out.store HAO.out k v (by omega) hvB)
      clear hv
      go_wp2_with fail
      try go_region
      try go_wp2_with fail
      go_roundw
      case rel => exact ⟨k + 1, os.set k v, by omega, by go_num, by first | exact HST.out.1 | exact HST.out.1.old (Ext.refl _).drew, by first | exact grownBy_trans HG.out HST.out.2 | exact grownBy_trans (grownBy_trans HG.out HST.out.2) ((Ext.refl _).drew.by_ _)⟩
      case measure => simp only [intOf]; omega

end Go.Proofs.YtkdkgmnjhimdeaaGreatDoor
