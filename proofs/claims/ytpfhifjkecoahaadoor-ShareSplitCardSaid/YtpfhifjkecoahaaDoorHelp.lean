/- gleanhelp.Nat, gleanlaw10.small: what the statements themselves call. -/
import Derived.Test.YtpfhifjkecoahaaDoorCmp
namespace Go.Proofs.YtpfhifjkecoahaaDoor
open Go.RowKit

def HelpRel (w : World) (n : Nat) (xs ys : List Nat) (iv : Value) (wr : World) : Prop :=
  ∃ k : Nat, k ≤ n ∧ iv = .int .i64 (k : Int) ∧ xs.take k = ys.take k ∧ ∃ m, wr = w.drewN m
theorem take_succ_same {xs ys : List Nat} {k n : Nat} (hx : xs.length = n) (hy : ys.length = n) (hk : k < n) (h : xs.take k = ys.take k) (he : xs.getD k 0 = ys.getD k 0) : xs.take (k + 1) = ys.take (k + 1) := by
  rw [List.take_succ_eq_append_getElem (by omega), List.take_succ_eq_append_getElem (by omega), h]
  rw [getD_of_lt (by omega : k < xs.length), getD_of_lt (by omega : k < ys.length)] at he
  rw [he]

set_option maxHeartbeats 1000000 in
set_option maxRecDepth 100000 in
theorem hnat_calls {a b : Option Addr} {m n c d : Nat} {xs ys : List Nat} {w : World} (ha : Sl w a m c xs) (hb : Sl w b n d ys) (hm : m ≤ 1000000000) (_hn : n ≤ 1000000000) :
    Calls Tryd.prog 17 #[.slice a m c, .slice b n d] w (RetD (.bool (decide (xs = ys))) w) := by
  obtain ⟨i0, hi, hz0, hs, hby⟩ := info_parts info64
  have H1 := Lib.hid hi; have H3 := Lib.hid hs
  clear hi hz0 hs hby
  have LA := Lib.hid ha.len; have LB := Lib.hid hb.len
  by_cases hmn : m = n
  · subst hmn
    go_enter Tryd.func17, Tryd.ntmps17
    go_wp2_with fail
    go_loopw [5] (fun iv wr => HelpRel w m xs ys iv wr) (fun iv _ => m - (intOf iv).toNat)
    case atStart => exact ⟨0, by omega, rfl, rfl, 0, rfl⟩
    case round =>
      obtain ⟨k, hk, rfl, htk, m0, hwr⟩ := hrel
      have HD := Lib.hid htk
      have HW := Lib.hid hwr
      have hexr : Ext w wr := by rw [hwr]; exact (Ext.refl w).drewN m0
      clear htk hwr
      by_cases hkm : k = m
      · subst hkm
        have HR := Lib.hid (show decide (xs = ys) = true by
          have := HD.out
          rw [List.take_of_length_le (by rw [LA.out]; omega), List.take_of_length_le (by rw [LB.out]; omega)] at this
          exact decide_eq_true this)
        go_wp2_with fail
        go_ret
        exact ⟨by rw [HR.out]; rfl, _, HW.out⟩
      · obtain ⟨ba, oa, hixa, hca, -⟩  := (ha.old hexr).ix (P := Tryd.prog) Tryd.underlying24 H1.out H3.out
        obtain ⟨bb, ob, hixb, hcb, -⟩  := (hb.old hexr).ix (P := Tryd.prog) Tryd.underlying24 H1.out H3.out
        have x1 := hixa k (by omega)
        have x2 := hca k (by omega)
        have x3 := hixb k (by omega)
        have x4 := hcb k (by omega)
        have HT := Lib.hid (take_succ_same LA.out LB.out (show k < m by omega) HD.out)
        have HN := Lib.hid (show xs.getD k 0 ≠ ys.getD k 0 → xs ≠ ys from fun h e => h (by rw [e]))
        clear hixa hca hixb hcb
        have hlt : (k : Int) < (m : Int) := by omega
        generalize xs.getD k 0 = u at *
        generalize ys.getD k 0 = v at *
        by_cases huv : u = v
        · have HT2 := Lib.hid (HT.out huv)
          subst huv
          go_wp2_with fail
          go_quiet (fail)
          go_wp2_with fail
          go_roundw
          case rel => exact ⟨k + 1, by omega, rfl, HT2.out, m0 + nq, by rw [HW.out]; exact World.drewN_drewN _ _ _⟩
          case measure => simp only [intOf]; omega
        · have HR := Lib.hid (decide_eq_false (HN.out huv))
          have huv' : ((u : Int) == (v : Int)) = false := by rw [beq_eq_false_iff_ne]; omega
          go_wp2_with fail
          go_quiet (fail)
          go_wp2_with fail
          go_ret
          exact ⟨by rw [HR.out]; rfl, m0 + nq, by rw [HW.out]; exact World.drewN_drewN _ _ _⟩
  · have HR := Lib.hid (show decide (xs = ys) = false from decide_eq_false (fun e => hmn (by rw [← LA.out, ← LB.out, e])))
    have g1 : ((m : Int) == (n : Int)) = false := by rw [beq_eq_false_iff_ne]; omega
    go_enter Tryd.func17, Tryd.ntmps17
    go_wp2_with fail
    go_ret
    exact ⟨by rw [HR.out]; rfl, 0, rfl⟩

/-- A slice of numbers with places: each cell holds a slice. -/
structure DSl (w : World) (a : Option Addr) (n c : Nat) (vs : List (Option Addr × Nat × Nat)) : Prop where
  len : vs.length = n
  cap : n ≤ c
  big : c ≤ 9223372036854775807
  at_ : (a = none ∧ n = 0 ∧ c = 0) ∨ ∃ b off, a = some ⟨b, off, none⟩ ∧ ∀ i v, vs[i]? = some v → w.cell? ⟨b, off + i, none⟩ = some (.slice v.1 v.2.1 v.2.2)
theorem DSl.old {w w' : World} {a : Option Addr} {n c : Nat} {vs : List (Option Addr × Nat × Nat)} (h : DSl w a n c vs) (hg : Ext w w') : DSl w' a n c vs := by
  refine ⟨h.len, h.cap, h.big, ?_⟩
  rcases h.at_ with hn | ⟨b, off, rfl, hc⟩
  · exact .inl hn
  · exact .inr ⟨b, off, rfl, fun i v hi => hg.cell (hc i v hi)⟩
theorem DSl.ix {w : World} {a : Option Addr} {n c : Nat} {vs : List (Option Addr × Nat × Nat)} (h : DSl w a n c vs) {P : Program} {T E : TypeId} {i : TypeInfo}
    (hT : P.underlying T = some (.slice E)) (hi : P.info? E = some i) (hs : i.size = 1) :
    ∃ b off, (∀ k, k < n → ∀ w' : World, (Instr.indexAt T (.slice a n c) (.int .i64 (k : Int))).run P w' = .ok (.pointer (some ⟨b, off + k, none⟩)) w') ∧
      (∀ k v, vs[k]? = some v → w.cell? ⟨b, off + k, none⟩ = some (.slice v.1 v.2.1 v.2.2)) := by
  rcases h.at_ with ⟨rfl, rfl, rfl⟩ | ⟨b, off, rfl, hc⟩
  · refine ⟨0, 0, fun k hk => absurd hk (by omega), fun k v hk => ?_⟩
    have hl := h.len
    rw [List.eq_nil_of_length_eq_zero hl] at hk
    simp at hk
  · refine ⟨b, off, fun k hk w' => ?_, hc⟩
    have hr := run_sizeOf hi w'
    rw [hs] at hr
    simp only [Instr.indexAt, Sem.run_bind, run_underlying hT, Result.andThen_ok, asIntOf, Sem.run_pure]
    have h1 : (0 : Int) ≤ (k : Int) ∧ (k : Int) < (n : Int) := ⟨by omega, by omega⟩
    simp [hk, hr, Addr.add]

theorem infoDec : (Tryd.prog.info? 26).map (fun i => (i.size, i.bytes)) = some (1, 24) := by kernel_rfl
def twelve (v : Option Addr × Nat × Nat) : Bool := decide (v.2.1 ≤ 12)
def SmRel (w : World) (n : Nat) (vs : List (Option Addr × Nat × Nat)) (iv : Value) (wr : World) : Prop :=
  ∃ k : Nat, k ≤ n ∧ iv = .int .i64 (k : Int) ∧ (vs.take k).all twelve = true ∧ wr = w

set_option maxHeartbeats 1000000 in
set_option maxRecDepth 100000 in
theorem smallL_calls {a : Option Addr} {n c : Nat} {vs : List (Option Addr × Nat × Nat)} {w : World} (ha : DSl w a n c vs) :
    Calls Tryd.prog 8 #[.slice a n c] w (Ret (.bool (vs.all twelve)) w) := by
  obtain ⟨i0, hi, hs⟩ : ∃ i, Tryd.prog.info? 26 = some i ∧ i.size = 1 := by
    have h := infoDec
    cases hq : Tryd.prog.info? 26 with
    | none => simp [hq] at h
    | some i => simp [hq] at h; exact ⟨i, rfl, h.1⟩
  have H1 := Lib.hid hi; have H3 := Lib.hid hs
  clear hi hs
  have LA := Lib.hid ha.len
  have hbig : (n : Int) ≤ 9223372036854775807 := by have := ha.cap; have := ha.big; omega
  go_enter Tryd.func8, Tryd.ntmps8
  go_wp2_with fail
  go_loopw [3] (fun iv wr => SmRel w n vs iv wr) (fun iv _ => n - (intOf iv).toNat)
  case atStart => exact ⟨0, by omega, rfl, rfl, rfl⟩
  case round =>
    obtain ⟨k, hk, rfl, htk, rfl⟩ := hrel
    have HD := Lib.hid htk
    clear htk
    by_cases hkm : k = n
    · subst hkm
      have HR := Lib.hid (show vs.all twelve = true by
        have := HD.out
        rwa [List.take_of_length_le (by rw [LA.out]; omega)] at this)
      go_wp2_with fail
      go_ret
      exact ⟨by rw [HR.out]; rfl, rfl⟩
    · obtain ⟨ba, oa, hixa, hca⟩  := ha.ix (P := Tryd.prog) Tryd.underlying38 H1.out H3.out
      obtain ⟨v, hv⟩ : ∃ v, vs[k]? = some v := ⟨_, List.getElem?_eq_getElem (by rw [LA.out]; omega)⟩
      have x1 := hixa k (by omega)
      have x2 := hca k v hv
      have HV := Lib.hid hv
      have hlt : (k : Int) < (n : Int) := by omega
      clear hixa hca hv
      obtain ⟨v1, v2, v3⟩ := v
      simp only at x2
      by_cases h12 : v2 ≤ 12
      · have HN := Lib.hid (show (vs.take (k + 1)).all twelve = true by
          rw [List.take_add_one, HV.out, List.all_append, HD.out]
          simp [twelve, h12])
        have g1 : ¬ ((12 : Int) < (v2 : Int)) := by omega
        go_wp2_with fail
        go_roundw
        case rel => exact ⟨k + 1, by omega, by go_num, HN.out, rfl⟩
        case measure => simp only [intOf]; omega
      · have HN := Lib.hid (show vs.all twelve = false by
          rw [Bool.eq_false_iff]
          intro h
          have := List.all_eq_true.1 h _ (List.mem_of_getElem? HV.out)
          simp only [twelve, decide_eq_true_eq] at this
          exact h12 this)
        have g1 : ((12 : Int) < (v2 : Int)) := by omega
        go_wp2_with fail
        go_ret
        exact ⟨by rw [HN.out]; rfl, rfl⟩

end Go.Proofs.YtpfhifjkecoahaaDoor
