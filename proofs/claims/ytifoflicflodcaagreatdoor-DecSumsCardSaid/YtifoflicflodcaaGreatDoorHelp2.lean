/- gleanlaw2.small: what the statements themselves call. -/
import Derived.Test.YtifoflicflodcaaGreatDoorShift
namespace Go.Proofs.YtifoflicflodcaaGreatDoor
open Go.RowKit

/-- A slice of numbers with places: each cell holds a slice. -/
structure DSl (w : World) (a : Option Addr) (n c : Nat) (vs : List (Option Addr × Nat × Nat)) : Prop where
  len : vs.length = n
  cap : n ≤ c
  big : c ≤ 9223372036854775807
  at_ : (a = none ∧ n = 0 ∧ c = 0) ∨ ∃ b off, a = some ⟨b, off, none⟩ ∧ ∀ i v, vs[i]? = some v → w.cell? ⟨b, off + i, none⟩ = some (.slice v.1 v.2.1 v.2.2)
theorem DSl.old {w w' : World} {a : Option Addr} {n c : Nat} {vs : List (Option Addr × Nat × Nat)} (h : DSl w a n c vs) (hg : Ext w w') : DSl w' a n c vs := by
  refine ⟨h.len, h.cap, h.big, ?_⟩
  rcases h.at_ with hn | ⟨b, off, rfl, hc⟩
  · exact .inl hn
  · exact .inr ⟨b, off, rfl, fun i v hi => hg.cell (hc i v hi)⟩
theorem DSl.ix {w : World} {a : Option Addr} {n c : Nat} {vs : List (Option Addr × Nat × Nat)} (h : DSl w a n c vs) {P : Program} {T E : TypeId} {i : TypeInfo}
    (hT : P.underlying T = some (.slice E)) (hi : P.info? E = some i) (hs : i.size = 1) :
    ∃ b off, (∀ k, k < n → ∀ w' : World, (Instr.indexAt T (.slice a n c) (.int .i64 (k : Int))).run P w' = .ok (.pointer (some ⟨b, off + k, none⟩)) w') ∧
      (∀ k v, vs[k]? = some v → w.cell? ⟨b, off + k, none⟩ = some (.slice v.1 v.2.1 v.2.2)) := by
  rcases h.at_ with ⟨rfl, rfl, rfl⟩ | ⟨b, off, rfl, hc⟩
  · refine ⟨0, 0, fun k hk => absurd hk (by omega), fun k v hk => ?_⟩
    have hl := h.len
    rw [List.eq_nil_of_length_eq_zero hl] at hk
    simp at hk
  · refine ⟨b, off, fun k hk w' => ?_, hc⟩
    have hr := run_sizeOf hi w'
    rw [hs] at hr
    simp only [Instr.indexAt, Sem.run_bind, run_underlying hT, Result.andThen_ok, asIntOf, Sem.run_pure]
    have h1 : (0 : Int) ≤ (k : Int) ∧ (k : Int) < (n : Int) := ⟨by omega, by omega⟩
    simp [hk, hr, Addr.add]

theorem infoDec : (Tryz.prog.info? 25).map (fun i => (i.size, i.bytes)) = some (1, 24) := by kernel_rfl
def forty (v : Option Addr × Nat × Nat) : Bool := decide (v.2.1 ≤ 40)
def SmRel (w : World) (n : Nat) (vs : List (Option Addr × Nat × Nat)) (iv : Value) (wr : World) : Prop :=
  ∃ k : Nat, k ≤ n ∧ iv = .int .i64 (k : Int) ∧ (vs.take k).all forty = true ∧ wr = w

set_option maxHeartbeats 1000000 in
set_option maxRecDepth 100000 in
theorem small2_calls {a : Option Addr} {n c : Nat} {vs : List (Option Addr × Nat × Nat)} {w : World} (ha : DSl w a n c vs) :
    Calls Tryz.prog 6 #[.slice a n c] w (Ret (.bool (vs.all forty)) w) := by
  obtain ⟨i0, hi, hs⟩ : ∃ i, Tryz.prog.info? 25 = some i ∧ i.size = 1 := by
    have h := infoDec
    cases hq : Tryz.prog.info? 25 with
    | none => simp [hq] at h
    | some i => simp [hq] at h; exact ⟨i, rfl, h.1⟩
  have H1 := Lib.hid hi; have H3 := Lib.hid hs
  clear hi hs
  have LA := Lib.hid ha.len
  have hbig : (n : Int) ≤ 9223372036854775807 := by have := ha.cap; have := ha.big; omega
  go_enter Tryz.func6, Tryz.ntmps6
  go_wp2_with fail
  go_loopw [3] (fun iv wr => SmRel w n vs iv wr) (fun iv _ => n - (intOf iv).toNat)
  case atStart => exact ⟨0, by omega, rfl, rfl, rfl⟩
  case round =>
    obtain ⟨k, hk, rfl, htk, rfl⟩ := hrel
    have HD := Lib.hid htk
    clear htk
    by_cases hkm : k = n
    · subst hkm
      have HR := Lib.hid (show vs.all forty = true by
        have := HD.out
        rwa [List.take_of_length_le (by rw [LA.out]; omega)] at this)
      go_wp2_with fail
      go_ret
      exact ⟨by rw [HR.out]; rfl, rfl⟩
    · obtain ⟨ba, oa, hixa, hca⟩  := ha.ix (P := Tryz.prog) Tryz.underlying55 H1.out H3.out
      obtain ⟨v, hv⟩ : ∃ v, vs[k]? = some v := ⟨_, List.getElem?_eq_getElem (by rw [LA.out]; omega)⟩
      have x1 := hixa k (by omega)
      have x2 := hca k v hv
      have HV := Lib.hid hv
      have hlt : (k : Int) < (n : Int) := by omega
      clear hixa hca hv
      obtain ⟨v1, v2, v3⟩ := v
      simp only at x2
      by_cases h40 : v2 ≤ 40
      · have HN := Lib.hid (show (vs.take (k + 1)).all forty = true by
          rw [List.take_add_one, HV.out, List.all_append, HD.out]
          simp [forty, h40])
        have g1 : ¬ ((40 : Int) < (v2 : Int)) := by omega
        go_wp2_with fail
        go_roundw
        case rel => exact ⟨k + 1, by omega, by go_num, HN.out, rfl⟩
        case measure => simp only [intOf]; omega
      · have HN := Lib.hid (show vs.all forty = false by
          rw [Bool.eq_false_iff]
          intro h
          have := List.all_eq_true.1 h _ (List.mem_of_getElem? HV.out)
          simp only [forty, decide_eq_true_eq] at this
          exact h40 this)
        have g1 : ((40 : Int) < (v2 : Int)) := by omega
        go_wp2_with fail
        go_ret
        exact ⟨by rw [HN.out]; rfl, rfl⟩

theorem dsl_one (w : World) {a1 : Option Addr} {m1 c1 : Nat} : DSl (w.alloc (.cells #[.slice a1 m1 c1] 25)) (some ⟨w.heap.size, 0, none⟩) 1 1 [(a1, m1, c1)] := by
  refine ⟨rfl, Nat.le_refl _, by decide, .inr ⟨_, _, rfl, fun i v hv => ?_⟩⟩
  have hc := heap_alloc_new w (.cells #[.slice a1 m1 c1] 25)
  rw [cell_of_row _ _ _ _ _ _ hc]
  match i, hv with
  | 0, hv => simp at hv; subst hv; rfl
  | i + 1, hv => simp at hv
theorem sd_yes1 (w : World) {a1 : Option Addr} {m1 c1 : Nat} (h : m1 ≤ 40) : Calls Tryz.prog 6 #[.slice (some ⟨w.heap.size, 0, none⟩) 1 1] (w.alloc (.cells #[.slice a1 m1 c1] 25)) (Ret (.bool true) (w.alloc (.cells #[.slice a1 m1 c1] 25))) := by
  have := small2_calls (dsl_one w (a1 := a1) (m1 := m1) (c1 := c1))
  rwa [show ([(a1, m1, c1)] : List (Option Addr × Nat × Nat)).all forty = true by simp [forty, h]] at this
theorem sd_no1 (w : World) {a1 : Option Addr} {m1 c1 : Nat} (h : ¬ (m1 ≤ 40)) : Calls Tryz.prog 6 #[.slice (some ⟨w.heap.size, 0, none⟩) 1 1] (w.alloc (.cells #[.slice a1 m1 c1] 25)) (Ret (.bool false) (w.alloc (.cells #[.slice a1 m1 c1] 25))) := by
  have := small2_calls (dsl_one w (a1 := a1) (m1 := m1) (c1 := c1))
  rwa [show ([(a1, m1, c1)] : List (Option Addr × Nat × Nat)).all forty = false by
    rw [Bool.eq_false_iff]
    intro h2
    apply h
    simpa [forty] using h2] at this

theorem dsl_two (w : World) {a1 a2 : Option Addr} {m1 c1 m2 c2 : Nat} : DSl (w.alloc (.cells #[.slice a1 m1 c1, .slice a2 m2 c2] 25)) (some ⟨w.heap.size, 0, none⟩) 2 2 [(a1, m1, c1), (a2, m2, c2)] := by
  refine ⟨rfl, Nat.le_refl _, by decide, .inr ⟨_, _, rfl, fun i v hv => ?_⟩⟩
  have hc := heap_alloc_new w (.cells #[.slice a1 m1 c1, .slice a2 m2 c2] 25)
  rw [cell_of_row _ _ _ _ _ _ hc]
  match i, hv with
  | 0, hv => simp at hv; subst hv; rfl
  | 1, hv => simp at hv; subst hv; rfl
  | i + 2, hv => simp at hv
theorem sd_yes2 (w : World) {a1 a2 : Option Addr} {m1 c1 m2 c2 : Nat} (h : m1 ≤ 40 ∧ m2 ≤ 40) : Calls Tryz.prog 6 #[.slice (some ⟨w.heap.size, 0, none⟩) 2 2] (w.alloc (.cells #[.slice a1 m1 c1, .slice a2 m2 c2] 25)) (Ret (.bool true) (w.alloc (.cells #[.slice a1 m1 c1, .slice a2 m2 c2] 25))) := by
  have := small2_calls (dsl_two w (a1 := a1) (m1 := m1) (c1 := c1) (a2 := a2) (m2 := m2) (c2 := c2))
  rwa [show ([(a1, m1, c1), (a2, m2, c2)] : List (Option Addr × Nat × Nat)).all forty = true by simp [forty, h]] at this
theorem sd_no2 (w : World) {a1 a2 : Option Addr} {m1 c1 m2 c2 : Nat} (h : ¬ (m1 ≤ 40 ∧ m2 ≤ 40)) : Calls Tryz.prog 6 #[.slice (some ⟨w.heap.size, 0, none⟩) 2 2] (w.alloc (.cells #[.slice a1 m1 c1, .slice a2 m2 c2] 25)) (Ret (.bool false) (w.alloc (.cells #[.slice a1 m1 c1, .slice a2 m2 c2] 25))) := by
  have := small2_calls (dsl_two w (a1 := a1) (m1 := m1) (c1 := c1) (a2 := a2) (m2 := m2) (c2 := c2))
  rwa [show ([(a1, m1, c1), (a2, m2, c2)] : List (Option Addr × Nat × Nat)).all forty = false by
    rw [Bool.eq_false_iff]
    intro h2
    apply h
    simpa [forty] using h2] at this

theorem dsl_three (w : World) {a1 a2 a3 : Option Addr} {m1 c1 m2 c2 m3 c3 : Nat} : DSl (w.alloc (.cells #[.slice a1 m1 c1, .slice a2 m2 c2, .slice a3 m3 c3] 25)) (some ⟨w.heap.size, 0, none⟩) 3 3 [(a1, m1, c1), (a2, m2, c2), (a3, m3, c3)] := by
  refine ⟨rfl, Nat.le_refl _, by decide, .inr ⟨_, _, rfl, fun i v hv => ?_⟩⟩
  have hc := heap_alloc_new w (.cells #[.slice a1 m1 c1, .slice a2 m2 c2, .slice a3 m3 c3] 25)
  rw [cell_of_row _ _ _ _ _ _ hc]
  match i, hv with
  | 0, hv => simp at hv; subst hv; rfl
  | 1, hv => simp at hv; subst hv; rfl
  | 2, hv => simp at hv; subst hv; rfl
  | i + 3, hv => simp at hv
theorem sd_yes3 (w : World) {a1 a2 a3 : Option Addr} {m1 c1 m2 c2 m3 c3 : Nat} (h : m1 ≤ 40 ∧ m2 ≤ 40 ∧ m3 ≤ 40) : Calls Tryz.prog 6 #[.slice (some ⟨w.heap.size, 0, none⟩) 3 3] (w.alloc (.cells #[.slice a1 m1 c1, .slice a2 m2 c2, .slice a3 m3 c3] 25)) (Ret (.bool true) (w.alloc (.cells #[.slice a1 m1 c1, .slice a2 m2 c2, .slice a3 m3 c3] 25))) := by
  have := small2_calls (dsl_three w (a1 := a1) (m1 := m1) (c1 := c1) (a2 := a2) (m2 := m2) (c2 := c2) (a3 := a3) (m3 := m3) (c3 := c3))
  rwa [show ([(a1, m1, c1), (a2, m2, c2), (a3, m3, c3)] : List (Option Addr × Nat × Nat)).all forty = true by simp [forty, h]] at this
theorem sd_no3 (w : World) {a1 a2 a3 : Option Addr} {m1 c1 m2 c2 m3 c3 : Nat} (h : ¬ (m1 ≤ 40 ∧ m2 ≤ 40 ∧ m3 ≤ 40)) : Calls Tryz.prog 6 #[.slice (some ⟨w.heap.size, 0, none⟩) 3 3] (w.alloc (.cells #[.slice a1 m1 c1, .slice a2 m2 c2, .slice a3 m3 c3] 25)) (Ret (.bool false) (w.alloc (.cells #[.slice a1 m1 c1, .slice a2 m2 c2, .slice a3 m3 c3] 25))) := by
  have := small2_calls (dsl_three w (a1 := a1) (m1 := m1) (c1 := c1) (a2 := a2) (m2 := m2) (c2 := c2) (a3 := a3) (m3 := m3) (c3 := c3))
  rwa [show ([(a1, m1, c1), (a2, m2, c2), (a3, m3, c3)] : List (Option Addr × Nat × Nat)).all forty = false by
    rw [Bool.eq_false_iff]
    intro h2
    apply h
    simpa [forty] using h2] at this

theorem dsl_four (w : World) {a1 a2 a3 a4 : Option Addr} {m1 c1 m2 c2 m3 c3 m4 c4 : Nat} : DSl (w.alloc (.cells #[.slice a1 m1 c1, .slice a2 m2 c2, .slice a3 m3 c3, .slice a4 m4 c4] 25)) (some ⟨w.heap.size, 0, none⟩) 4 4 [(a1, m1, c1), (a2, m2, c2), (a3, m3, c3), (a4, m4, c4)] := by
  refine ⟨rfl, Nat.le_refl _, by decide, .inr ⟨_, _, rfl, fun i v hv => ?_⟩⟩
  have hc := heap_alloc_new w (.cells #[.slice a1 m1 c1, .slice a2 m2 c2, .slice a3 m3 c3, .slice a4 m4 c4] 25)
  rw [cell_of_row _ _ _ _ _ _ hc]
  match i, hv with
  | 0, hv => simp at hv; subst hv; rfl
  | 1, hv => simp at hv; subst hv; rfl
  | 2, hv => simp at hv; subst hv; rfl
  | 3, hv => simp at hv; subst hv; rfl
  | i + 4, hv => simp at hv
theorem sd_yes4 (w : World) {a1 a2 a3 a4 : Option Addr} {m1 c1 m2 c2 m3 c3 m4 c4 : Nat} (h : m1 ≤ 40 ∧ m2 ≤ 40 ∧ m3 ≤ 40 ∧ m4 ≤ 40) : Calls Tryz.prog 6 #[.slice (some ⟨w.heap.size, 0, none⟩) 4 4] (w.alloc (.cells #[.slice a1 m1 c1, .slice a2 m2 c2, .slice a3 m3 c3, .slice a4 m4 c4] 25)) (Ret (.bool true) (w.alloc (.cells #[.slice a1 m1 c1, .slice a2 m2 c2, .slice a3 m3 c3, .slice a4 m4 c4] 25))) := by
  have := small2_calls (dsl_four w (a1 := a1) (m1 := m1) (c1 := c1) (a2 := a2) (m2 := m2) (c2 := c2) (a3 := a3) (m3 := m3) (c3 := c3) (a4 := a4) (m4 := m4) (c4 := c4))
  rwa [show ([(a1, m1, c1), (a2, m2, c2), (a3, m3, c3), (a4, m4, c4)] : List (Option Addr × Nat × Nat)).all forty = true by simp [forty, h]] at this
theorem sd_no4 (w : World) {a1 a2 a3 a4 : Option Addr} {m1 c1 m2 c2 m3 c3 m4 c4 : Nat} (h : ¬ (m1 ≤ 40 ∧ m2 ≤ 40 ∧ m3 ≤ 40 ∧ m4 ≤ 40)) : Calls Tryz.prog 6 #[.slice (some ⟨w.heap.size, 0, none⟩) 4 4] (w.alloc (.cells #[.slice a1 m1 c1, .slice a2 m2 c2, .slice a3 m3 c3, .slice a4 m4 c4] 25)) (Ret (.bool false) (w.alloc (.cells #[.slice a1 m1 c1, .slice a2 m2 c2, .slice a3 m3 c3, .slice a4 m4 c4] 25))) := by
  have := small2_calls (dsl_four w (a1 := a1) (m1 := m1) (c1 := c1) (a2 := a2) (m2 := m2) (c2 := c2) (a3 := a3) (m3 := m3) (c3 := c3) (a4 := a4) (m4 := m4) (c4 := c4))
  rwa [show ([(a1, m1, c1), (a2, m2, c2), (a3, m3, c3), (a4, m4, c4)] : List (Option Addr × Nat × Nat)).all forty = false by
    rw [Bool.eq_false_iff]
    intro h2
    apply h
    simpa [forty] using h2] at this

end Go.Proofs.YtifoflicflodcaaGreatDoor
