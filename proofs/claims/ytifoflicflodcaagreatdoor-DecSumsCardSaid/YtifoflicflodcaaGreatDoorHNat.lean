/- gleanhelp.Nat. -/
import Derived.Test.YtifoflicflodcaaGreatDoorCmp
namespace Go.Proofs.YtifoflicflodcaaGreatDoor
open Go.RowKit

def HelpRel (w : World) (n : Nat) (xs ys : List Nat) (iv : Value) (wr : World) : Prop :=
  ∃ k : Nat, k ≤ n ∧ iv = .int .i64 (k : Int) ∧ xs.take k = ys.take k ∧ ∃ m, wr = w.drewN m
theorem take_succ_same {xs ys : List Nat} {k n : Nat} (hx : xs.length = n) (hy : ys.length = n) (hk : k < n) (h : xs.take k = ys.take k) (he : xs.getD k 0 = ys.getD k 0) : xs.take (k + 1) = ys.take (k + 1) := by
  rw [List.take_succ_eq_append_getElem (by omega), List.take_succ_eq_append_getElem (by omega), h]
  rw [getD_of_lt (by omega : k < xs.length), getD_of_lt (by omega : k < ys.length)] at he
  rw [he]

set_option maxHeartbeats 1000000 in
set_option maxRecDepth 100000 in
theorem hnat_calls {a b : Option Addr} {m n c d : Nat} {xs ys : List Nat} {w : World} (ha : Sl w a m c xs) (hb : Sl w b n d ys) (hm : m ≤ 1000000000) (_hn : n ≤ 1000000000) :
    Calls Tryz.prog 38 #[.slice a m c, .slice b n d] w (RetD (.bool (decide (xs = ys))) w) := by
  obtain ⟨i0, hi, hz0, hs, hby⟩ := info_parts info64
  have H1 := Lib.hid hi; have H3 := Lib.hid hs
  clear hi hz0 hs hby
  have LA := Lib.hid ha.len; have LB := Lib.hid hb.len
  by_cases hmn : m = n
  · subst hmn
    go_enter Tryz.func38, Tryz.ntmps38
    go_wp2_with fail
    go_loopw [5] (fun iv wr => HelpRel w m xs ys iv wr) (fun iv _ => m - (intOf iv).toNat)
    case atStart => exact ⟨0, by omega, rfl, rfl, 0, rfl⟩
    case round =>
      obtain ⟨k, hk, rfl, htk, m0, hwr⟩ := hrel
      have HD := Lib.hid htk
      have HW := Lib.hid hwr
      have hexr : Ext w wr := by rw [hwr]; exact (Ext.refl w).drewN m0
      clear htk hwr
      by_cases hkm : k = m
      · subst hkm
        have HR := Lib.hid (show decide (xs = ys) = true by
          have := HD.out
          rw [List.take_of_length_le (by rw [LA.out]; omega), List.take_of_length_le (by rw [LB.out]; omega)] at this
          exact decide_eq_true this)
        go_wp2_with fail
        go_ret
        exact ⟨by rw [HR.out]; rfl, _, HW.out⟩
      · obtain ⟨ba, oa, hixa, hca, -⟩  := (ha.old hexr).ix (P := Tryz.prog) Tryz.underlying23 H1.out H3.out
        obtain ⟨bb, ob, hixb, hcb, -⟩  := (hb.old hexr).ix (P := Tryz.prog) Tryz.underlying23 H1.out H3.out
        have x1 := hixa k (by omega)
        have x2 := hca k (by omega)
        have x3 := hixb k (by omega)
        have x4 := hcb k (by omega)
        have HT := Lib.hid (take_succ_same LA.out LB.out (show k < m by omega) HD.out)
        have HN := Lib.hid (show xs.getD k 0 ≠ ys.getD k 0 → xs ≠ ys from fun h e => h (by rw [e]))
        clear hixa hca hixb hcb
        have hlt : (k : Int) < (m : Int) := by omega
        generalize xs.getD k 0 = u at *
        generalize ys.getD k 0 = v at *
        by_cases huv : u = v
        · have HT2 := Lib.hid (HT.out huv)
          subst huv
          go_wp2_with fail
          go_quiet (fail)
          go_wp2_with fail
          go_roundw
          case rel => exact ⟨k + 1, by omega, rfl, HT2.out, m0 + nq, by rw [HW.out]; exact World.drewN_drewN _ _ _⟩
          case measure => simp only [intOf]; omega
        · have HR := Lib.hid (decide_eq_false (HN.out huv))
          have huv' : ((u : Int) == (v : Int)) = false := by rw [beq_eq_false_iff_ne]; omega
          go_wp2_with fail
          go_quiet (fail)
          go_wp2_with fail
          go_ret
          exact ⟨by rw [HR.out]; rfl, m0 + nq, by rw [HW.out]; exact World.drewN_drewN _ _ _⟩
  · have HR := Lib.hid (show decide (xs = ys) = false from decide_eq_false (fun e => hmn (by rw [← LA.out, ← LB.out, e])))
    have g1 : ((m : Int) == (n : Int)) = false := by rw [beq_eq_false_iff_ne]; omega
    go_enter Tryz.func38, Tryz.ntmps38
    go_wp2_with fail
    go_ret
    exact ⟨by rw [HR.out]; rfl, 0, rfl⟩

end Go.Proofs.YtifoflicflodcaaGreatDoor
