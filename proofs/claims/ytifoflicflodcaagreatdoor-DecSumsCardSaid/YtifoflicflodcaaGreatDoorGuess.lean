/- nat.guess: a digit of a quotient, or one more. -/
import Derived.Test.YtifoflicflodcaaGreatDoorShort
namespace Go.Proofs.YtifoflicflodcaaGreatDoor
open Go.RowKit

/-- The call returns v; of what was there nothing has turned. -/
def RetE (v : Value) (w : World) (e : Ending) (w' : World) : Prop := e = .returned v ∧ Ext w w'

/-- The digit that is guessed. -/
def guessG (T V : Nat) : Nat := min (T / V) (B64 - 1)

/-- The two rows that came by value, laid in blocks of the call's own. -/
def guessW (w : World) (t0 t1 t2 b0 b1 : Nat) : World := (w.alloc (.cells #[.int .u64 (t0 : Int), .int .u64 (t1 : Int), .int .u64 (t2 : Int)] 129)).alloc (.cells #[.int .u64 (b0 : Int), .int .u64 (b1 : Int)] 131)

/-- What holds at the label. -/
def GuessRel (w : World) (t0 t1 t2 b0 b1 : Nat) (a' : Act) (w' : World) : Prop :=
  ∃ (d r o m : Nat) (u8 u9 u10 u11 u12 u13 u14 u15 u16 u17 u18 u19 u20 u21 u22 u23 u24 u25 u26 u27 u28 u29 u30 u31 u32 u33 u34 u35 u36 u37 u38 u39 u40 u41 u42 u43 u44 u45 u46 u47 u48 u49 u50 u51 u52 u53 u54 u55 u56 u57 u58 u59 u60 u61 u62 u63 u64 u65 u66 u67 u68 : Value), w' = (guessW w t0 t1 t2 b0 b1).drewN m ∧ d * b0 + r + B64 * o = t0 * B64 + t1 ∧ o ≤ 1 ∧ r < B64 ∧ d < B64 ∧ guessG ((t0 * B64 + t1) * B64 + t2) (b0 * B64 + b1) ≤ d ∧
    a' = { tmps := #[.agg #[.int .u64 (t0 : Int), .int .u64 (t1 : Int), .int .u64 (t2 : Int)], .agg #[.int .u64 (b0 : Int), .int .u64 (b1 : Int)], .pointer (some ⟨w.heap.size, 0, none⟩), .pointer (some ⟨w.heap.size + 1, 0, none⟩), .int .u64 0, .int .u64 (d : Int), .int .u64 (r : Int), .int .u64 (o : Int), u8, u9, u10, u11, u12, u13, u14, u15, u16, u17, u18, u19, u20, u21, u22, u23, u24, u25, u26, u27, u28, u29, u30, u31, u32, u33, u34, u35, u36, u37, u38, u39, u40, u41, u42, u43, u44, u45, u46, u47, u48, u49, u50, u51, u52, u53, u54, u55, u56, u57, u58, u59, u60, u61, u62, u63, u64, u65, u66, u67, u68], defers := [] }

theorem guess_over {b t0 t1 t2 b0 b1 d r o : Nat} (hb : 0 < b0) (hdb : d < b) (hk1 : b1 < b) (h2 : t2 < b) (he : d * b0 + r + b * o = t0 * b + t1) (hc : 0 < o ∨ d * b1 ≤ r * b + t2) : d ≤ ((t0 * b + t1) * b + t2) / (b0 * b + b1) := by
  have hV : 0 < b0 * b + b1 := by have : 0 < b0 * b := Nat.mul_pos hb (by omega); omega
  rw [Nat.le_div_iff_mul_le hV, ← he, Nat.mul_add, ← Nat.mul_assoc, Nat.add_mul, Nat.add_mul]
  have key : d * b1 ≤ r * b + b * o * b + t2 := by
    rcases hc with h | h
    · have h1 : d * b1 ≤ b * b := Nat.mul_le_mul (by omega) (by omega)
      have h3 : b * 1 * b ≤ b * o * b := Nat.mul_le_mul_right _ (Nat.mul_le_mul_left _ h)
      rw [Nat.mul_one] at h3
      omega
    · omega
  omega
theorem guess_more {b t0 t1 t2 b0 b1 d r : Nat} (hV : 0 < b0 * b + b1) (he : d * b0 + r = t0 * b + t1) (hc : r * b + t2 < d * b1) : ((t0 * b + t1) * b + t2) / (b0 * b + b1) + 1 ≤ d := by
  apply Nat.succ_le_of_lt
  rw [Nat.div_lt_iff_lt_mul hV, ← he, Nat.mul_add, ← Nat.mul_assoc, Nat.add_mul]
  omega
theorem guess_start {b t0 t1 t2 b0 b1 q r : Nat} (hb : 0 < b0) (he : q * b0 + r = t0 * b + t1) (hr : r < b0) (h2 : t2 < b) : ((t0 * b + t1) * b + t2) / (b0 * b + b1) ≤ q := by
  have hV : 0 < b0 * b + b1 := by have : 0 < b0 * b := Nat.mul_pos hb (by omega); omega
  apply Nat.le_of_lt_succ
  rw [Nat.div_lt_iff_lt_mul hV, ← he]
  have h1 : (q * b0 + r + 1) * b ≤ (q + 1) * b0 * b := Nat.mul_le_mul_right _ (by rw [Nat.add_mul]; omega)
  rw [Nat.add_mul] at h1
  have h3 : q.succ * (b0 * b + b1) = (q + 1) * b0 * b + (q + 1) * b1 := by rw [Nat.succ_eq_add_one, Nat.mul_add, Nat.mul_assoc]
  omega
theorem top_digit {b t0 t1 s c : Nat} (h : s + b * c = t1 + t0 + 0) (hb : 0 < b := by exact B64_pos) : (b - 1) * t0 + s + b * c = t0 * b + t1 := by
  have e : t0 * b = (b - 1) * t0 + t0 := by
    conv => lhs; rw [show b = (b - 1) + 1 by omega]
    rw [Nat.mul_add, Nat.mul_comm, Nat.mul_one]
  omega
theorem guess_eq (T V d : Nat) (h1 : guessG T V ≤ d) (h2 : d ≤ T / V) (h3 : d < B64) : d = guessG T V := by
  unfold guessG at *
  have := B64_pos
  omega

/-- The code of a scope, and what stands behind its label. -/
def firstScope : Code → Option Code
  | .scope c => some c
  | .seq a b => match firstScope a with
    | some c => some c
    | none => firstScope b
  | .block _ c => firstScope c
  | .cond _ a b => match firstScope a with
    | some c => some c
    | none => firstScope b
  | _ => none
def behindSkip : Code → Code
  | .seq .skip c => c
  | c => c
noncomputable def guessRest : Code := behindSkip (((Tryz.f110.body.bind firstScope).bind (findLabel · 0)).getD .skip)

/-- How far the digit may still fall. -/
def guessMu (a : Act) (_ : World) : Nat := (intOf (a.tmps.getD 5 undef)).toNat

theorem guessW_cells (w : World) (t0 t1 t2 b0 b1 : Nat) : (guessW w t0 t1 t2 b0 b1).cell? ⟨w.heap.size, 0, none⟩ = some (.int .u64 (t0 : Int)) ∧ (guessW w t0 t1 t2 b0 b1).cell? ⟨w.heap.size, 1, none⟩ = some (.int .u64 (t1 : Int)) ∧
    (guessW w t0 t1 t2 b0 b1).cell? ⟨w.heap.size, 2, none⟩ = some (.int .u64 (t2 : Int)) ∧ (guessW w t0 t1 t2 b0 b1).cell? ⟨w.heap.size + 1, 0, none⟩ = some (.int .u64 (b0 : Int)) ∧ (guessW w t0 t1 t2 b0 b1).cell? ⟨w.heap.size + 1, 1, none⟩ = some (.int .u64 (b1 : Int)) := by
  have e1 : (guessW w t0 t1 t2 b0 b1).heap[w.heap.size]? = some (.cells #[.int .u64 (t0 : Int), .int .u64 (t1 : Int), .int .u64 (t2 : Int)] 129 (0, 0)) := by
    unfold guessW
    rw [Below.heap_alloc _ _ _ (by simp)]
    exact heap_alloc_new w _
  have e2 : (guessW w t0 t1 t2 b0 b1).heap[w.heap.size + 1]? = some (.cells #[.int .u64 (b0 : Int), .int .u64 (b1 : Int)] 131 (0, 0)) := by
    have := heap_alloc_new (w.alloc (.cells #[.int .u64 (t0 : Int), .int .u64 (t1 : Int), .int .u64 (t2 : Int)] 129)) (.cells #[.int .u64 (b0 : Int), .int .u64 (b1 : Int)] 131)
    rw [World.size_alloc] at this; exact this
  refine ⟨?_, ?_, ?_, ?_, ?_⟩
  · rw [cell_of_row _ _ _ _ _ _ e1]; rfl
  · rw [cell_of_row _ _ _ _ _ _ e1]; rfl
  · rw [cell_of_row _ _ _ _ _ _ e1]; rfl
  · rw [cell_of_row _ _ _ _ _ _ e2]; rfl
  · rw [cell_of_row _ _ _ _ _ _ e2]; rfl
theorem guessW_ext (w : World) (t0 t1 t2 b0 b1 : Nat) : Ext w (guessW w t0 t1 t2 b0 b1) := ((Ext.refl w).alloc _).alloc _

set_option maxHeartbeats 4000000 in
set_option maxRecDepth 100000 in
theorem guess_pass (t0 t1 t2 b0 b1 : Nat) (h2 : t2 < B64) (k0 : b0 < B64) (k1 : b1 < B64) (hb : 0 < b0) (w : World) (a : Act) (w' : World) (h : GuessRel w t0 t1 t2 b0 b1 a w') :
    guessRest.wp Tryz.prog (Exit.jump 0 (fun a'' w'' => GuessRel w t0 t1 t2 b0 b1 a'' w'' ∧ guessMu a'' w'' < guessMu a w') (bodyPost Tryz.prog Tryz.f110 (RetE (.int .u64 (guessG ((t0 * B64 + t1) * B64 + t2) (b0 * B64 + b1) : Nat)) w))) a w' := by
  have HG := Lib.hid (guess_eq ((t0 * B64 + t1) * B64 + t2) (b0 * B64 + b1))
  have HGV := Lib.hid (show guessG ((t0 * B64 + t1) * B64 + t2) (b0 * B64 + b1) ≤ ((t0 * B64 + t1) * B64 + t2) / (b0 * B64 + b1) from Nat.min_le_left _ _)
  have hV : 0 < b0 * B64 + b1 := by have : 0 < b0 * B64 := Nat.mul_pos hb B64_pos; omega
  have HV := Lib.hid hV
  clear hV
  have HK1 := Lib.hid k1
  have H2 := Lib.hid h2
  obtain ⟨c0, c1, c2, c3, c4⟩ := guessW_cells w t0 t1 t2 b0 b1
  have hE := guessW_ext w t0 t1 t2 b0 b1
  have h : GuessRel w t0 t1 t2 b0 b1 a w' := h
  unfold GuessRel at h
  obtain ⟨d, h⟩ := h
  obtain ⟨r, h⟩ := h
  obtain ⟨o, h⟩ := h
  obtain ⟨m, h⟩ := h
  obtain ⟨u8, h⟩ := h
  obtain ⟨u9, h⟩ := h
  obtain ⟨u10, h⟩ := h
  obtain ⟨u11, h⟩ := h
  obtain ⟨u12, h⟩ := h
  obtain ⟨u13, h⟩ := h
  obtain ⟨u14, h⟩ := h
  obtain ⟨u15, h⟩ := h
  obtain ⟨u16, h⟩ := h
  obtain ⟨u17, h⟩ := h
  obtain ⟨u18, h⟩ := h
  obtain ⟨u19, h⟩ := h
  obtain ⟨u20, h⟩ := h
  obtain ⟨u21, h⟩ := h
  obtain ⟨u22, h⟩ := h
  obtain ⟨u23, h⟩ := h
  obtain ⟨u24, h⟩ := h
  obtain ⟨u25, h⟩ := h
  obtain ⟨u26, h⟩ := h
  obtain ⟨u27, h⟩ := h
  obtain ⟨u28, h⟩ := h
  obtain ⟨u29, h⟩ := h
  obtain ⟨u30, h⟩ := h
  obtain ⟨u31, h⟩ := h
  obtain ⟨u32, h⟩ := h
  obtain ⟨u33, h⟩ := h
  obtain ⟨u34, h⟩ := h
  obtain ⟨u35, h⟩ := h
  obtain ⟨u36, h⟩ := h
  obtain ⟨u37, h⟩ := h
  obtain ⟨u38, h⟩ := h
  obtain ⟨u39, h⟩ := h
  obtain ⟨u40, h⟩ := h
  obtain ⟨u41, h⟩ := h
  obtain ⟨u42, h⟩ := h
  obtain ⟨u43, h⟩ := h
  obtain ⟨u44, h⟩ := h
  obtain ⟨u45, h⟩ := h
  obtain ⟨u46, h⟩ := h
  obtain ⟨u47, h⟩ := h
  obtain ⟨u48, h⟩ := h
  obtain ⟨u49, h⟩ := h
  obtain ⟨u50, h⟩ := h
  obtain ⟨u51, h⟩ := h
  obtain ⟨u52, h⟩ := h
  obtain ⟨u53, h⟩ := h
  obtain ⟨u54, h⟩ := h
  obtain ⟨u55, h⟩ := h
  obtain ⟨u56, h⟩ := h
  obtain ⟨u57, h⟩ := h
  obtain ⟨u58, h⟩ := h
  obtain ⟨u59, h⟩ := h
  obtain ⟨u60, h⟩ := h
  obtain ⟨u61, h⟩ := h
  obtain ⟨u62, h⟩ := h
  obtain ⟨u63, h⟩ := h
  obtain ⟨u64, h⟩ := h
  obtain ⟨u65, h⟩ := h
  obtain ⟨u66, h⟩ := h
  obtain ⟨u67, h⟩ := h
  obtain ⟨u68, h⟩ := h
  obtain ⟨hw', he, ho, hr, hd, hGd, ha⟩ := h
  have HRel := Lib.hid (show ∀ (d r o m : Nat) (u8 u9 u10 u11 u12 u13 u14 u15 u16 u17 u18 u19 u20 u21 u22 u23 u24 u25 u26 u27 u28 u29 u30 u31 u32 u33 u34 u35 u36 u37 u38 u39 u40 u41 u42 u43 u44 u45 u46 u47 u48 u49 u50 u51 u52 u53 u54 u55 u56 u57 u58 u59 u60 u61 u62 u63 u64 u65 u66 u67 u68 : Value), d * b0 + r + B64 * o = t0 * B64 + t1 → o ≤ 1 → r < B64 → d < B64 → guessG ((t0 * B64 + t1) * B64 + t2) (b0 * B64 + b1) ≤ d →
    GuessRel w t0 t1 t2 b0 b1 { tmps := #[.agg #[.int .u64 (t0 : Int), .int .u64 (t1 : Int), .int .u64 (t2 : Int)], .agg #[.int .u64 (b0 : Int), .int .u64 (b1 : Int)], .pointer (some ⟨w.heap.size, 0, none⟩), .pointer (some ⟨w.heap.size + 1, 0, none⟩), .int .u64 0, .int .u64 (d : Int), .int .u64 (r : Int), .int .u64 (o : Int), u8, u9, u10, u11, u12, u13, u14, u15, u16, u17, u18, u19, u20, u21, u22, u23, u24, u25, u26, u27, u28, u29, u30, u31, u32, u33, u34, u35, u36, u37, u38, u39, u40, u41, u42, u43, u44, u45, u46, u47, u48, u49, u50, u51, u52, u53, u54, u55, u56, u57, u58, u59, u60, u61, u62, u63, u64, u65, u66, u67, u68], defers := [] } ((guessW w t0 t1 t2 b0 b1).drewN m) from fun d r o m u8 u9 u10 u11 u12 u13 u14 u15 u16 u17 u18 u19 u20 u21 u22 u23 u24 u25 u26 u27 u28 u29 u30 u31 u32 u33 u34 u35 u36 u37 u38 u39 u40 u41 u42 u43 u44 u45 u46 u47 u48 u49 u50 u51 u52 u53 u54 u55 u56 u57 u58 u59 u60 u61 u62 u63 u64 u65 u66 u67 u68 h1 h2 h3 h4 h5 => ⟨d, r, o, m, u8, u9, u10, u11, u12, u13, u14, u15, u16, u17, u18, u19, u20, u21, u22, u23, u24, u25, u26, u27, u28, u29, u30, u31, u32, u33, u34, u35, u36, u37, u38, u39, u40, u41, u42, u43, u44, u45, u46, u47, u48, u49, u50, u51, u52, u53, u54, u55, u56, u57, u58, u59, u60, u61, u62, u63, u64, u65, u66, u67, u68, rfl, h1, h2, h3, h4, h5, rfl⟩)
  have HE := Lib.hid he
  have HGd := Lib.hid hGd
  subst ha hw'
  clear he hGd
  generalize guessG ((t0 * B64 + t1) * B64 + t2) (b0 * B64 + b1) = G at *
  generalize guessW w t0 t1 t2 b0 b1 = W at *
  conv => arg 2; whnf
  rcases (by omega : o = 0 ∨ o = 1) with rfl | rfl
  · have cm := mul64_calls d b1 hd k1
    have e1 := mul_eq d b1
    have hl1 := mulL_lt d b1
    have hh1 := mulH_lt hd k1
    generalize mulH d b1 = hi at *
    generalize mulL d b1 = lo at *
    have HM := Lib.hid e1
    have CM := Lib.hid cm
    clear e1 cm
    have x8 := add64_run0 r b0
    have HSC := Lib.hid (addS_eq r b0 0)
    have hs := addS_lt r b0 0
    have hc := addC_le hr k0 (by omega : 0 ≤ 1)
    generalize addS r b0 0 = s at *
    generalize addC r b0 0 = c at *
    have HE0 := Lib.hid (show d * b0 + r = t0 * B64 + t1 by have := HE.out; omega)
    by_cases hc1 : (r : Int) < (hi : Int)
    · have HP : r * B64 + t2 < d * b1 := by
        have h3 : B64 * (r + 1) ≤ B64 * hi := Nat.mul_le_mul_left _ (by omega)
        rw [Nat.mul_add] at h3
        rw [← HM.out, Nat.mul_comm r]
        omega
      have hmore := guess_more (b := B64) (t2 := t2) HV.out HE0.out HP
      obtain ⟨d', hd'⟩ : ∃ d', d - 1 = d' := ⟨_, rfl⟩
      have hdpos : 1 ≤ d := Nat.le_trans (Nat.le_add_left _ _) hmore
      have hdd : (d : Int) - 1 = (d' : Int) := by omega
      have HG2 := Lib.hid (show G ≤ d' from Nat.le_trans HGV.out (by rw [← hd']; exact Nat.le_sub_one_of_lt hmore))
      have HE2 := Lib.hid (show d' * b0 + s + B64 * c = t0 * B64 + t1 by
        have e2 : d * b0 = d' * b0 + b0 := by rw [show d = d' + 1 by omega, Nat.add_mul, Nat.one_mul]
        have e3 := HE0.out
        have e4 := HSC.out
        omega)
      have hd'b : d' < B64 := by omega
      have hd'n : (d' : Int) < 18446744073709551616 := by have := B64_eq; omega
      have HML := Lib.hid (show d' < d by omega)
      clear hmore HP
      go_wp2_with fail
      refine (CM.out _).mono ?_
      rintro e w' ⟨rfl, rfl⟩
      go_wp2_with fail
      go_step3
      exact ⟨rfl, HRel.out d' s c m _ _ _ _ _ _ _ _ _ _ _ _ _ _ _ _ _ _ _ _ _ _ _ _ _ _ _ _ _ _ _ _ _ _ _ _ _ _ _ _ _ _ _ _ _ _ _ _ _ _ _ _ _ _ _ _ _ _ _ _ _ HE2.out hc hs hd'b HG2.out, by simp only [guessMu]; exact HML.out⟩
    · by_cases hc2 : hi = r
      · subst hc2
        clear hc1
        by_cases hc3 : (t2 : Int) < (lo : Int)
        · have HP : hi * B64 + t2 < d * b1 := by
            rw [← HM.out, Nat.mul_comm hi]; omega
          have hmore := guess_more (b := B64) (t2 := t2) HV.out HE0.out HP
          obtain ⟨d', hd'⟩ : ∃ d', d - 1 = d' := ⟨_, rfl⟩
          have hdpos : 1 ≤ d := Nat.le_trans (Nat.le_add_left _ _) hmore
          have hdd : (d : Int) - 1 = (d' : Int) := by omega
          have HG2 := Lib.hid (show G ≤ d' from Nat.le_trans HGV.out (by rw [← hd']; exact Nat.le_sub_one_of_lt hmore))
          have HE2 := Lib.hid (show d' * b0 + s + B64 * c = t0 * B64 + t1 by
            have e2 : d * b0 = d' * b0 + b0 := by rw [show d = d' + 1 by omega, Nat.add_mul, Nat.one_mul]
            have e3 := HE0.out
            have e4 := HSC.out
            omega)
          have hd'b : d' < B64 := by omega
          have hd'n : (d' : Int) < 18446744073709551616 := by have := B64_eq; omega
          have HML := Lib.hid (show d' < d by omega)
          clear hmore HP
          go_wp2_with fail
          refine (CM.out _).mono ?_
          rintro e w' ⟨rfl, rfl⟩
          go_wp2_with fail
          go_step3
          exact ⟨rfl, HRel.out d' s c m _ _ _ _ _ _ _ _ _ _ _ _ _ _ _ _ _ _ _ _ _ _ _ _ _ _ _ _ _ _ _ _ _ _ _ _ _ _ _ _ _ _ _ _ _ _ _ _ _ _ _ _ _ _ _ _ _ _ _ _ _ HE2.out hc hs hd'b HG2.out, by simp only [guessMu]; exact HML.out⟩
        · have HP : d * b1 ≤ hi * B64 + t2 := by
            rw [← HM.out, Nat.mul_comm hi]; omega
          have hret := HG.out d HGd.out (guess_over (o := 0) hb hd HK1.out H2.out HE.out (.inr HP)) hd
          have HRet := Lib.hid hret
          clear hret HP
          go_wp2_with fail
          refine (CM.out _).mono ?_
          rintro e w' ⟨rfl, rfl⟩
          go_wp2_with fail
          simp only [Exit.jump]
          go_ret
          exact ⟨by rw [← HRet.out]; rfl, hE.drewN m⟩
      · have g1 : ((hi : Int) == (r : Int)) = false := by rw [beq_eq_false_iff_ne]; omega
        have HP : d * b1 ≤ r * B64 + t2 := by
          have h3 : B64 * (hi + 1) ≤ B64 * r := Nat.mul_le_mul_left _ (by omega)
          rw [Nat.mul_add] at h3
          rw [← HM.out, Nat.mul_comm r]
          omega
        clear hc2
        have hret := HG.out d HGd.out (guess_over (o := 0) hb hd HK1.out H2.out HE.out (.inr HP)) hd
        have HRet := Lib.hid hret
        clear hret HP
        go_wp2_with fail
        refine (CM.out _).mono ?_
        rintro e w' ⟨rfl, rfl⟩
        go_wp2_with fail
        simp only [Exit.jump]
        go_ret
        exact ⟨by rw [← HRet.out]; rfl, hE.drewN m⟩
  · have hret := HG.out d HGd.out (guess_over (o := 1) hb hd HK1.out H2.out HE.out (.inl (by omega))) hd
    have HRet := Lib.hid hret
    clear hret
    go_wp2_with fail
    simp only [Exit.jump]
    go_ret
    exact ⟨by rw [← HRet.out]; rfl, hE.drewN m⟩

set_option maxHeartbeats 4000000 in
set_option maxRecDepth 100000 in
theorem guess_calls (t0 t1 t2 b0 b1 : Nat) (h1 : t1 < B64) (h2 : t2 < B64) (k0 : b0 < B64) (k1 : b1 < B64) (hle : t0 ≤ b0) (hb : 0 < b0) (w : World) :
    Calls Tryz.prog 110 #[.agg #[.int .u64 (t0 : Int), .int .u64 (t1 : Int), .int .u64 (t2 : Int)], .agg #[.int .u64 (b0 : Int), .int .u64 (b1 : Int)]] w (RetE (.int .u64 (guessG ((t0 * B64 + t1) * B64 + t2) (b0 * B64 + b1) : Nat)) w) := by
  have HPass := Lib.hid (guess_pass t0 t1 t2 b0 b1 h2 k0 k1 hb w)
  have HGB := Lib.hid (show guessG ((t0 * B64 + t1) * B64 + t2) (b0 * B64 + b1) ≤ B64 - 1 from Nat.min_le_right _ _)
  have HGV := Lib.hid (show guessG ((t0 * B64 + t1) * B64 + t2) (b0 * B64 + b1) ≤ ((t0 * B64 + t1) * B64 + t2) / (b0 * B64 + b1) from Nat.min_le_left _ _)
  have HW := Lib.hid (@rfl _ (guessW w t0 t1 t2 b0 b1))
  go_enter Tryz.func110, Tryz.ntmps110
  go_wp2_with fail
  refine wp_scope_jumps 0 (GuessRel w t0 t1 t2 b0 b1) guessMu rfl ?_ ?_
  rotate_left
  · intro a' w' h
    go_step
    go_step
    go_step
    go_step
    go_step
    exact HPass.out _ _ h
  rcases Nat.lt_or_eq_of_le hle with hlt | heq
  · have g1 : ¬ ((b0 : Int) ≤ (t0 : Int)) := by omega
    have HD := Lib.hid (fun w => div64_calls t0 t1 b0 hlt h1 k0 w)
    have hq := divQ_lt hlt h1
    have hrr := @divR_lt t0 t1 b0 hb
    have HE := Lib.hid (div_eq t0 t1 b0)
    have HQ := Lib.hid (guess_start (t2 := t2) (b1 := b1) hb HE.out hrr h2)
    have HQ2 := Lib.hid (Nat.le_trans HGV.out HQ.out)
    generalize divQ t0 t1 b0 = q at *
    generalize divR t0 t1 b0 = r' at *
    go_wp2_with fail
    go_quiet (fail)
    go_wp2_with fail
    refine (HD.out _).mono ?_
    rintro e w' ⟨rfl, nd, rfl⟩
    go_wp2_with fail
    go_step3
    have HRel := Lib.hid (show ∀ (m : Nat) (u8 u9 u10 u11 u12 u13 u14 u15 u16 u17 u18 u19 u20 u21 u22 u23 u24 u25 u26 u27 u28 u29 u30 u31 u32 u33 u34 u35 u36 u37 u38 u39 u40 u41 u42 u43 u44 u45 u46 u47 u48 u49 u50 u51 u52 u53 u54 u55 u56 u57 u58 u59 u60 u61 u62 u63 u64 u65 u66 u67 u68 : Value), GuessRel w t0 t1 t2 b0 b1 { tmps := #[.agg #[.int .u64 (t0 : Int), .int .u64 (t1 : Int), .int .u64 (t2 : Int)], .agg #[.int .u64 (b0 : Int), .int .u64 (b1 : Int)], .pointer (some ⟨w.heap.size, 0, none⟩), .pointer (some ⟨w.heap.size + 1, 0, none⟩), .int .u64 0, .int .u64 (q : Int), .int .u64 (r' : Int), .int .u64 0, u8, u9, u10, u11, u12, u13, u14, u15, u16, u17, u18, u19, u20, u21, u22, u23, u24, u25, u26, u27, u28, u29, u30, u31, u32, u33, u34, u35, u36, u37, u38, u39, u40, u41, u42, u43, u44, u45, u46, u47, u48, u49, u50, u51, u52, u53, u54, u55, u56, u57, u58, u59, u60, u61, u62, u63, u64, u65, u66, u67, u68], defers := [] } ((guessW w t0 t1 t2 b0 b1).drewN m) from fun m u8 u9 u10 u11 u12 u13 u14 u15 u16 u17 u18 u19 u20 u21 u22 u23 u24 u25 u26 u27 u28 u29 u30 u31 u32 u33 u34 u35 u36 u37 u38 u39 u40 u41 u42 u43 u44 u45 u46 u47 u48 u49 u50 u51 u52 u53 u54 u55 u56 u57 u58 u59 u60 u61 u62 u63 u64 u65 u66 u67 u68 => ⟨q, r', 0, m, u8, u9, u10, u11, u12, u13, u14, u15, u16, u17, u18, u19, u20, u21, u22, u23, u24, u25, u26, u27, u28, u29, u30, u31, u32, u33, u34, u35, u36, u37, u38, u39, u40, u41, u42, u43, u44, u45, u46, u47, u48, u49, u50, u51, u52, u53, u54, u55, u56, u57, u58, u59, u60, u61, u62, u63, u64, u65, u66, u67, u68, rfl, by rw [HE.out.symm.symm]; omega, by omega, by omega, hq, HQ2.out, rfl⟩)
    go_step
    go_step
    refine Code.wp_mono ?_ (HPass.out _ _ (HRel.out _ _ _ _ _ _ _ _ _ _ _ _ _ _ _ _ _ _ _ _ _ _ _ _ _ _ _ _ _ _ _ _ _ _ _ _ _ _ _ _ _ _ _ _ _ _ _ _ _ _ _ _ _ _ _ _ _ _ _ _ _ _))
    rintro e a w' hq
    cases e <;> first | exact ⟨hq.1, hq.2.1⟩ | exact hq
  · subst heq
    have x8 := add64_run0 t1 t0
    have hsc := addS_eq t1 t0 0
    have hs := addS_lt t1 t0 0
    have hc := addC_le h1 k0 (by omega : 0 ≤ 1)
    generalize addS t1 t0 0 = s at *
    generalize addC t1 t0 0 = c at *
    have HSC := Lib.hid hsc
    clear hsc
    go_wp2_with fail
    go_quiet (fail)
    go_wp2_with fail
    go_step3
    have HRel := Lib.hid (show ∀ (m : Nat) (u8 u9 u10 u11 u12 u13 u14 u15 u16 u17 u18 u19 u20 u21 u22 u23 u24 u25 u26 u27 u28 u29 u30 u31 u32 u33 u34 u35 u36 u37 u38 u39 u40 u41 u42 u43 u44 u45 u46 u47 u48 u49 u50 u51 u52 u53 u54 u55 u56 u57 u58 u59 u60 u61 u62 u63 u64 u65 u66 u67 u68 : Value), GuessRel w t0 t1 t2 t0 b1 { tmps := #[.agg #[.int .u64 (t0 : Int), .int .u64 (t1 : Int), .int .u64 (t2 : Int)], .agg #[.int .u64 (t0 : Int), .int .u64 (b1 : Int)], .pointer (some ⟨w.heap.size, 0, none⟩), .pointer (some ⟨w.heap.size + 1, 0, none⟩), .int .u64 0, .int .u64 18446744073709551615, .int .u64 (s : Int), .int .u64 (c : Int), u8, u9, u10, u11, u12, u13, u14, u15, u16, u17, u18, u19, u20, u21, u22, u23, u24, u25, u26, u27, u28, u29, u30, u31, u32, u33, u34, u35, u36, u37, u38, u39, u40, u41, u42, u43, u44, u45, u46, u47, u48, u49, u50, u51, u52, u53, u54, u55, u56, u57, u58, u59, u60, u61, u62, u63, u64, u65, u66, u67, u68], defers := [] } ((guessW w t0 t1 t2 t0 b1).drewN m) from fun m u8 u9 u10 u11 u12 u13 u14 u15 u16 u17 u18 u19 u20 u21 u22 u23 u24 u25 u26 u27 u28 u29 u30 u31 u32 u33 u34 u35 u36 u37 u38 u39 u40 u41 u42 u43 u44 u45 u46 u47 u48 u49 u50 u51 u52 u53 u54 u55 u56 u57 u58 u59 u60 u61 u62 u63 u64 u65 u66 u67 u68 => ⟨B64 - 1, s, c, m, u8, u9, u10, u11, u12, u13, u14, u15, u16, u17, u18, u19, u20, u21, u22, u23, u24, u25, u26, u27, u28, u29, u30, u31, u32, u33, u34, u35, u36, u37, u38, u39, u40, u41, u42, u43, u44, u45, u46, u47, u48, u49, u50, u51, u52, u53, u54, u55, u56, u57, u58, u59, u60, u61, u62, u63, u64, u65, u66, u67, u68, rfl, top_digit HSC.out, hc, hs, by have := B64_pos; omega, HGB.out, rfl⟩)
    go_step
    go_step
    refine Code.wp_mono ?_ (HPass.out _ _ (HRel.out _ _ _ _ _ _ _ _ _ _ _ _ _ _ _ _ _ _ _ _ _ _ _ _ _ _ _ _ _ _ _ _ _ _ _ _ _ _ _ _ _ _ _ _ _ _ _ _ _ _ _ _ _ _ _ _ _ _ _ _ _ _))
    rintro e a w hq
    cases e <;> first | exact ⟨hq.1, hq.2.1⟩ | exact hq

end Go.Proofs.YtifoflicflodcaaGreatDoor
