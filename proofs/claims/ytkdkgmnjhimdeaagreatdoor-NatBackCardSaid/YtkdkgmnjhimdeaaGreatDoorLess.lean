/- gleanhelp.Less, for two rows of bytes of one length. -/
import Derived.Test.YtkdkgmnjhimdeaaGreatDoorHByte
import Derived.Test.YtkdkgmnjhimdeaaGreatDoorGuess
namespace Go.Proofs.YtkdkgmnjhimdeaaGreatDoor
open Go.RowKit

/-- Bytes, the highest first: which number is less. -/
theorem bytes_less {xs ys : List Nat} {n k : Nat} (hx : Bd 256 xs) (h1 : xs.length = n) (h2 : ys.length = n) (hk : k < n) (ht : xs.take k = ys.take k) (hlt : xs.getD k 0 < ys.getD k 0) :
    nv 256 xs.reverse < nv 256 ys.reverse := by
  rw [getD_of_lt (by omega : k < xs.length), getD_of_lt (by omega : k < ys.length)] at hlt
  refine nv_lt_of_top (fun x hx' => hx x (List.mem_reverse.1 hx')) (by simp; omega) (n - 1 - k) (by simp; omega) ?_ ?_
  · rw [List.getElem_reverse, List.getElem_reverse]
    have e1 : xs.length - 1 - (n - 1 - k) = k := by omega
    have e2 : ys.length - 1 - (n - 1 - k) = k := by omega
    simp only [e1, e2]
    exact hlt
  · rw [List.drop_reverse, List.drop_reverse, show xs.length - (n - 1 - k + 1) = k by omega, show ys.length - (n - 1 - k + 1) = k by omega, ht]

set_option maxHeartbeats 1000000 in
set_option maxRecDepth 100000 in
theorem hless_calls {a b : Option Addr} {n c d : Nat} {xs ys : List Nat} {w : World} (ha : SlB w a n c xs) (hb : SlB w b n d ys) (_hn : n ≤ 1000000000) :
    Calls Tryz.prog 54 #[.slice a n c, .slice b n d] w (RetE (.bool (decide (nv 256 xs.reverse < nv 256 ys.reverse))) w) := by
  obtain ⟨i0, hi, hz0, hs, hby⟩ := info_parts infoU8
  have H1 := Lib.hid hi; have H3 := Lib.hid hs
  clear hi hz0 hs hby
  have LA := Lib.hid ha.len; have LB := Lib.hid hb.len
  obtain ⟨V, hV⟩ : ∃ V, decide (nv 256 xs.reverse < nv 256 ys.reverse) = V := ⟨_, rfl⟩
  have HV := Lib.hid hV
  rw [hV]
  clear hV
  go_enter Tryz.func54, Tryz.ntmps54
  go_wp2_with fail
  go_loopw [5] (fun iv wr => HelpRel w n xs ys iv wr) (fun iv _ => n - (intOf iv).toNat)
  case atStart => exact ⟨0, by omega, rfl, rfl, 0, rfl⟩
  case round =>
    obtain ⟨k, hk, rfl, htk, m0, hwr⟩ := hrel
    have HD := Lib.hid htk
    have HW := Lib.hid hwr
    have hexr : Ext w wr := by rw [hwr]; exact (Ext.refl w).drewN m0
    have HEX := Lib.hid hexr
    clear htk hwr
    by_cases hkm : k = n
    · subst hkm
      have hf : V = false := by
        rw [← HV.out]
        have := HD.out
        rw [List.take_of_length_le (by rw [LA.out]; omega), List.take_of_length_le (by rw [LB.out]; omega)] at this
        rw [this]
        exact decide_eq_false (Nat.lt_irrefl _)
      subst hf
      go_wp2_with fail
      go_ret
      exact ⟨by simp, HEX.out⟩
    · obtain ⟨ba, oa, hixa, hca, -⟩  := (ha.old hexr).ix (P := Tryz.prog) Tryz.underlying50 H1.out H3.out
      obtain ⟨bb, ob, hixb, hcb, -⟩  := (hb.old hexr).ix (P := Tryz.prog) Tryz.underlying50 H1.out H3.out
      have x1 := hixa k (by omega)
      have x2 := hca k (by omega)
      have x3 := hixb k (by omega)
      have x4 := hcb k (by omega)
      have HT := Lib.hid (take_succ_same LA.out LB.out (show k < n by omega) HD.out)
      have HLT := Lib.hid (bytes_less ha.bd LA.out LB.out (show k < n by omega) HD.out)
      have HGT := Lib.hid (bytes_less hb.bd LB.out LA.out (show k < n by omega) HD.out.symm)
      clear hixa hca hixb hcb
      have hlt : (k : Int) < (n : Int) := by omega
      generalize xs.getD k 0 = u at *
      generalize ys.getD k 0 = v at *
      by_cases huv : u = v
      · have HT2 := Lib.hid (HT.out huv)
        subst huv
        go_wp2_with fail
        go_quiet (fail)
        go_wp2_with fail
        go_roundw
        case rel => exact ⟨k + 1, by omega, rfl, HT2.out, m0 + nq, by rw [HW.out]; exact World.drewN_drewN _ _ _⟩
        case measure => simp only [intOf]; omega
      · have huv' : ((u : Int) == (v : Int)) = false := by rw [beq_eq_false_iff_ne]; omega
        have hf : V = decide (u < v) := by
          rw [← HV.out]
          by_cases h : u < v
          · rw [decide_eq_true h, decide_eq_true (HLT.out h)]
          · rw [decide_eq_false h, decide_eq_false (Nat.not_lt.2 (Nat.le_of_lt (HGT.out (by omega))))]
        subst hf
        go_wp2_with fail
        go_quiet (fail)
        go_wp2_with fail
        go_quiet (fail)
        go_wp2_with fail
        go_ret
        exact ⟨by simp, (HEX.out.drewN _).drewN _⟩

end Go.Proofs.YtkdkgmnjhimdeaaGreatDoor
