
/- Long division; bits. -/
import Derived.Test.YtimcnhlcepemjaaGreatDoorDiv64
import Derived.Deep.RegionLaw
import Derived.Deep.RegionWith
import Derived.BigRegion
import Derived.StillTailTactics

/- nat.short: a quotient by one limb. -/
namespace Go.Proofs.YtimcnhlcepemjaaGreatDoor
open Go.RowKit

theorem divQ_lt {hi lo y : Nat} (hhi : hi < y) (hlo : lo < B64) : divQ hi lo y < B64 := by
  unfold divQ
  rw [Nat.div_lt_iff_lt_mul (by omega)]
  have : (hi + 1) * B64 ≤ y * B64 := Nat.mul_le_mul_right _ hhi
  rw [Nat.add_mul] at this
  rw [Nat.mul_comm B64 y]
  omega
theorem divR_lt {hi lo y : Nat} (hy : 0 < y) : divR hi lo y < y := Nat.mod_lt _ hy
theorem div_eq (hi lo y : Nat) : divQ hi lo y * y + divR hi lo y = hi * B64 + lo := by
  have := Nat.div_add_mod (hi * B64 + lo) y
  rw [Nat.mul_comm] at this
  exact this

theorem div64_calls (hi lo y : Nat) (hhi : hi < y) (hlo : lo < B64) (hy : y < B64) (w : World) :
    Calls Tryz.prog 141 #[.int .u64 (hi : Int), .int .u64 (lo : Int), .int .u64 (y : Int)] w (RetD (.tuple #[.int .u64 (divQ hi lo y : Nat), .int .u64 (divR hi lo y : Nat)]) w) := by
  by_cases h0 : hi = 0
  · subst h0
    have e1 : divQ 0 lo y = lo / y := by simp [divQ]
    have e2 : divR 0 lo y = lo % y := by simp [divR]
    rw [e1, e2]
    exact div64_zero lo y hlo hy (by omega) w
  · exact div64_pos hi lo y hhi hlo hy h0 w

/-- What the loop keeps: from place k on all is divided. -/
def ShortRel (w : World) (o : Option Addr) (A b : Nat) (us : List Nat) (rv iv : Value) (wr : World) : Prop :=
  ∃ (k r : Nat) (os : List Nat), k ≤ A ∧ iv = .int .i64 ((k : Int) - 1) ∧ rv = .int .u64 r ∧ r < b ∧ Own w.heap.size wr o A A os ∧ Ext w wr ∧ nv B64 (os.drop k) * b + r = nv B64 (us.drop k)

theorem nv_drop_succ (b : Nat) (xs : List Nat) (k : Nat) (hk : k < xs.length) : nv b (xs.drop k) = xs.getD k 0 + b * nv b (xs.drop (k + 1)) := by
  rw [List.drop_eq_getElem_cons hk, nv_cons, getD_of_lt hk]
theorem drop_set_self {α : Type} (xs : List α) (k : Nat) (x : α) (hk : k < xs.length) : (xs.set k x).drop k = x :: xs.drop (k + 1) := by
  rw [List.drop_eq_getElem_cons (by rw [List.length_set]; exact hk), List.getElem_set_self, drop_set_lo _ _ _ _ (by omega)]
theorem short_step {os us : List Nat} {j b r u q r' : Nat} (hj : j < os.length) (hj' : j < us.length) (hu : us.getD j 0 = u) (hd : q * b + r' = r * B64 + u)
    (h : nv B64 (os.drop (j + 1)) * b + r = nv B64 (us.drop (j + 1))) : nv B64 ((os.set j q).drop j) * b + r' = nv B64 (us.drop j) := by
  rw [drop_set_self _ _ _ hj, nv_drop_succ _ us _ hj', nv_cons, hu, ← h, Nat.add_mul, Nat.mul_add, Nat.mul_assoc, Nat.mul_comm B64 r]
  omega

/-- What nat.short tells: the quotient, and the rest. -/
def ShortRes (w : World) (n b v : Nat) (e : Ending) (w' : World) : Prop :=
  ∃ a c L, e = .returned (.tuple #[.slice a L c, .int .u64 ((v % b : Nat) : Int)]) ∧ Own w.heap.size w' a L c (lim (v / b)) ∧ Ext w w' ∧ L ≤ n

set_option maxHeartbeats 2000000 in
set_option maxRecDepth 100000 in
theorem short_calls {a : Option Addr} {A c : Nat} {us : List Nat} {w : World} (ha : Sl w a A c us) (hm : A ≤ 1000000000) (b : Nat) (hb0 : 0 < b) (hb : b < B64) :
    Calls Tryz.prog 111 #[.slice a A c, .int .u64 (b : Int)] w (ShortRes w A b (val us)) := by
  obtain ⟨i0, hi, hz0, hs, hby⟩ := info_parts info64
  have H1 := Lib.hid hi; have H2 := Lib.hid hz0; have H3 := Lib.hid hs; have H4 := Lib.hid hby
  have HLU := Lib.hid ha.len
  have HB := Lib.hid hb
  clear hi hz0 hs hby hb
  go_enter Tryz.func111, Tryz.ntmps111
  go_wp2_with (at_make; refine make_sl _ rfl _ _ _ rfl _ _ Tryz.underlying33 H1.out H2.out H3.out H4.out _ _ rfl rfl A (by omega) (by omega) (by omega) ?_)
  intro o w1 ho hext
  go_wp2_with fail
  go_loopw [7, 8] (fun rv iv wr => ShortRel w o A b us rv iv wr) (fun _ iv _ => (intOf iv + 1).toNat)
  case atStart => exact ⟨A, 0, _, Nat.le_refl _, rfl, rfl, hb0, ho, hext, by rw [List.drop_of_length_le (by simp), List.drop_of_length_le (by rw [HLU.out]; exact Nat.le_refl _)]; simp⟩
  case round =>
    obtain ⟨k, r, os, hk, rfl, rfl, hr, hown, hex, hval⟩ := hrel
    have HV := Lib.hid hval
    clear hval
    by_cases hk0 : k = 0
    · subst hk0
      have hv : val us = b * val os + r := by have := HV.out; simp only [List.drop_zero] at this; rw [Nat.mul_comm b]; exact this.symm
      obtain ⟨h1, h2⟩ := div_unique hv hr
      have HQ := Lib.hid h1
      have HR := Lib.hid h2
      clear h1 h2 hv
      have CT := Lib.hid (trimmed_calls hown.sl)
      go_wp2_with fail
      refine CT.out.mono ?_
      rintro e w' ⟨rfl, rfl⟩
      go_wp2_with fail
      go_ret2
      have hfin := hown.trimmed
      have hll := hown.sl.trimmed_len
      rw [HQ.out] at hfin hll
      refine ⟨o, _, _, ?_, hfin, hex, hll⟩
      rw [← HR.out, ← HQ.out]; rfl
    · obtain ⟨j, rfl⟩ : ∃ j, k = j + 1 := ⟨k - 1, by omega⟩
      rw [show ((j + 1 : Nat) : Int) - 1 = (j : Int) by omega]
      have hj0 : (0 : Int) ≤ (j : Int) := by omega
      obtain ⟨bo, oo, hixo, hco, hao⟩ := hown.sl.ix (P := Tryz.prog) Tryz.underlying33 H1.out H3.out
      obtain ⟨ba, oa, hixa, hca, -⟩ := (ha.old hex).ix (P := Tryz.prog) Tryz.underlying33 H1.out H3.out
      have x1 := hixa j (by omega)
      have x2 := hca j (by omega)
      have x3 := hixo j (by omega)
      have x4 := hco j (by omega)
      have x5 := hown.free (hao (by omega)) (oo + j)
      have HO := Lib.hid (hao (by omega))
      have q1 := ha.bd.getD B64_pos j
      clear hixa hca hixo hco hao hk0
      obtain ⟨u, hu⟩ : ∃ u, us.getD j 0 = u := ⟨_, rfl⟩
      rw [hu] at x2 q1
      have HU := Lib.hid hu
      clear hu
      generalize os.getD j 0 = z at *
      have CD := Lib.hid (fun w => div64_calls r u b hr q1 HB.out w)
      have hq := divQ_lt hr q1
      have hrr := @divR_lt r u b hb0
      have HE := Lib.hid (div_eq r u b)
      generalize divQ r u b = q at *
      generalize divR r u b = r' at *
      have HS := Lib.hid (fun n : Nat => (hown.old ((Ext.refl _).drewN n)).store HO.out j q (by omega) hq)
      go_wp2_with fail
      refine (CD.out _).mono ?_
      rintro e w' ⟨rfl, nd, rfl⟩
      go_wp2_with fail
      go_roundw
      case rel =>
        refine ⟨j, r', os.set j q, by omega, by go_num, rfl, hrr, (HS.out nd).1, ?_, ?_⟩
        · exact (hex.drewN nd).grown' (hown.old ((Ext.refl _).drewN nd)) (Nat.le_refl _) (HS.out nd).2
        · exact short_step (by rw [hown.sl.len]; omega) (by rw [HLU.out]; omega) HU.out HE.out HV.out
      case measure => simp [intOf]

end Go.Proofs.YtimcnhlcepemjaaGreatDoor

/- nat.guess: a digit of a quotient, or one more. -/
namespace Go.Proofs.YtimcnhlcepemjaaGreatDoor
open Go.RowKit

/-- The call returns v; of what was there nothing has turned. -/
def RetE (v : Value) (w : World) (e : Ending) (w' : World) : Prop := e = .returned v ∧ Ext w w'

/-- The digit that is guessed. -/
def guessG (T V : Nat) : Nat := min (T / V) (B64 - 1)

/-- The two rows that came by value, laid in blocks of the call's own. -/
def guessW (w : World) (t0 t1 t2 b0 b1 : Nat) : World := (w.alloc (.cells #[.int .u64 (t0 : Int), .int .u64 (t1 : Int), .int .u64 (t2 : Int)] 161)).alloc (.cells #[.int .u64 (b0 : Int), .int .u64 (b1 : Int)] 163)

/-- What holds at the label. -/
def GuessRel (w : World) (t0 t1 t2 b0 b1 : Nat) (a' : Act) (w' : World) : Prop :=
  ∃ (d r o m : Nat) (u8 u9 u10 u11 u12 u13 u14 u15 u16 u17 u18 u19 u20 u21 u22 u23 u24 u25 u26 u27 u28 u29 u30 u31 u32 u33 u34 u35 u36 u37 u38 u39 u40 u41 u42 u43 u44 u45 u46 u47 u48 u49 u50 u51 u52 u53 u54 u55 u56 u57 u58 u59 u60 u61 u62 u63 u64 u65 u66 u67 u68 : Value), w' = (guessW w t0 t1 t2 b0 b1).drewN m ∧ d * b0 + r + B64 * o = t0 * B64 + t1 ∧ o ≤ 1 ∧ r < B64 ∧ d < B64 ∧ guessG ((t0 * B64 + t1) * B64 + t2) (b0 * B64 + b1) ≤ d ∧
    a' = { tmps := #[.agg #[.int .u64 (t0 : Int), .int .u64 (t1 : Int), .int .u64 (t2 : Int)], .agg #[.int .u64 (b0 : Int), .int .u64 (b1 : Int)], .pointer (some ⟨w.heap.size, 0, none⟩), .pointer (some ⟨w.heap.size + 1, 0, none⟩), .int .u64 0, .int .u64 (d : Int), .int .u64 (r : Int), .int .u64 (o : Int), u8, u9, u10, u11, u12, u13, u14, u15, u16, u17, u18, u19, u20, u21, u22, u23, u24, u25, u26, u27, u28, u29, u30, u31, u32, u33, u34, u35, u36, u37, u38, u39, u40, u41, u42, u43, u44, u45, u46, u47, u48, u49, u50, u51, u52, u53, u54, u55, u56, u57, u58, u59, u60, u61, u62, u63, u64, u65, u66, u67, u68], defers := [] }

theorem guess_over {b t0 t1 t2 b0 b1 d r o : Nat} (hb : 0 < b0) (hdb : d < b) (hk1 : b1 < b) (h2 : t2 < b) (he : d * b0 + r + b * o = t0 * b + t1) (hc : 0 < o ∨ d * b1 ≤ r * b + t2) : d ≤ ((t0 * b + t1) * b + t2) / (b0 * b + b1) := by
  have hV : 0 < b0 * b + b1 := by have : 0 < b0 * b := Nat.mul_pos hb (by omega); omega
  rw [Nat.le_div_iff_mul_le hV, ← he, Nat.mul_add, ← Nat.mul_assoc, Nat.add_mul, Nat.add_mul]
  have key : d * b1 ≤ r * b + b * o * b + t2 := by
    rcases hc with h | h
    · have h1 : d * b1 ≤ b * b := Nat.mul_le_mul (by omega) (by omega)
      have h3 : b * 1 * b ≤ b * o * b := Nat.mul_le_mul_right _ (Nat.mul_le_mul_left _ h)
      rw [Nat.mul_one] at h3
      omega
    · omega
  omega
theorem guess_more {b t0 t1 t2 b0 b1 d r : Nat} (hV : 0 < b0 * b + b1) (he : d * b0 + r = t0 * b + t1) (hc : r * b + t2 < d * b1) : ((t0 * b + t1) * b + t2) / (b0 * b + b1) + 1 ≤ d := by
  apply Nat.succ_le_of_lt
  rw [Nat.div_lt_iff_lt_mul hV, ← he, Nat.mul_add, ← Nat.mul_assoc, Nat.add_mul]
  omega
theorem guess_start {b t0 t1 t2 b0 b1 q r : Nat} (hb : 0 < b0) (he : q * b0 + r = t0 * b + t1) (hr : r < b0) (h2 : t2 < b) : ((t0 * b + t1) * b + t2) / (b0 * b + b1) ≤ q := by
  have hV : 0 < b0 * b + b1 := by have : 0 < b0 * b := Nat.mul_pos hb (by omega); omega
  apply Nat.le_of_lt_succ
  rw [Nat.div_lt_iff_lt_mul hV, ← he]
  have h1 : (q * b0 + r + 1) * b ≤ (q + 1) * b0 * b := Nat.mul_le_mul_right _ (by rw [Nat.add_mul]; omega)
  rw [Nat.add_mul] at h1
  have h3 : q.succ * (b0 * b + b1) = (q + 1) * b0 * b + (q + 1) * b1 := by rw [Nat.succ_eq_add_one, Nat.mul_add, Nat.mul_assoc]
  omega
theorem top_digit {b t0 t1 s c : Nat} (h : s + b * c = t1 + t0 + 0) (hb : 0 < b := by exact B64_pos) : (b - 1) * t0 + s + b * c = t0 * b + t1 := by
  have e : t0 * b = (b - 1) * t0 + t0 := by
    conv => lhs; rw [show b = (b - 1) + 1 by omega]
    rw [Nat.mul_add, Nat.mul_comm, Nat.mul_one]
  omega
theorem guess_eq (T V d : Nat) (h1 : guessG T V ≤ d) (h2 : d ≤ T / V) (h3 : d < B64) : d = guessG T V := by
  unfold guessG at *
  have := B64_pos
  omega

/-- The code of a scope, and what stands behind its label. -/
def firstScope : Code → Option Code
  | .scope c => some c
  | .seq a b => match firstScope a with
    | some c => some c
    | none => firstScope b
  | .block _ c => firstScope c
  | .cond _ a b => match firstScope a with
    | some c => some c
    | none => firstScope b
  | _ => none
def behindSkip : Code → Code
  | .seq .skip c => c
  | c => c
noncomputable def guessRest : Code := behindSkip (((Tryz.f143.body.bind firstScope).bind (findLabel · 0)).getD .skip)

/-- How far the digit may still fall. -/
def guessMu (a : Act) (_ : World) : Nat := (intOf (a.tmps.getD 5 undef)).toNat

theorem guessW_cells (w : World) (t0 t1 t2 b0 b1 : Nat) : (guessW w t0 t1 t2 b0 b1).cell? ⟨w.heap.size, 0, none⟩ = some (.int .u64 (t0 : Int)) ∧ (guessW w t0 t1 t2 b0 b1).cell? ⟨w.heap.size, 1, none⟩ = some (.int .u64 (t1 : Int)) ∧
    (guessW w t0 t1 t2 b0 b1).cell? ⟨w.heap.size, 2, none⟩ = some (.int .u64 (t2 : Int)) ∧ (guessW w t0 t1 t2 b0 b1).cell? ⟨w.heap.size + 1, 0, none⟩ = some (.int .u64 (b0 : Int)) ∧ (guessW w t0 t1 t2 b0 b1).cell? ⟨w.heap.size + 1, 1, none⟩ = some (.int .u64 (b1 : Int)) := by
  have e1 : (guessW w t0 t1 t2 b0 b1).heap[w.heap.size]? = some (.cells #[.int .u64 (t0 : Int), .int .u64 (t1 : Int), .int .u64 (t2 : Int)] 161 (0, 0)) := by
    unfold guessW
    rw [Below.heap_alloc _ _ _ (by simp)]
    exact heap_alloc_new w _
  have e2 : (guessW w t0 t1 t2 b0 b1).heap[w.heap.size + 1]? = some (.cells #[.int .u64 (b0 : Int), .int .u64 (b1 : Int)] 163 (0, 0)) := by
    have := heap_alloc_new (w.alloc (.cells #[.int .u64 (t0 : Int), .int .u64 (t1 : Int), .int .u64 (t2 : Int)] 161)) (.cells #[.int .u64 (b0 : Int), .int .u64 (b1 : Int)] 163)
    rw [World.size_alloc] at this; exact this
  refine ⟨?_, ?_, ?_, ?_, ?_⟩
  · rw [cell_of_row _ _ _ _ _ _ e1]; rfl
  · rw [cell_of_row _ _ _ _ _ _ e1]; rfl
  · rw [cell_of_row _ _ _ _ _ _ e1]; rfl
  · rw [cell_of_row _ _ _ _ _ _ e2]; rfl
  · rw [cell_of_row _ _ _ _ _ _ e2]; rfl
theorem guessW_ext (w : World) (t0 t1 t2 b0 b1 : Nat) : Ext w (guessW w t0 t1 t2 b0 b1) := ((Ext.refl w).alloc _).alloc _

set_option maxHeartbeats 4000000 in
set_option maxRecDepth 100000 in
theorem guess_pass (t0 t1 t2 b0 b1 : Nat) (h2 : t2 < B64) (k0 : b0 < B64) (k1 : b1 < B64) (hb : 0 < b0) (w : World) (a : Act) (w' : World) (h : GuessRel w t0 t1 t2 b0 b1 a w') :
    guessRest.wp Tryz.prog (Exit.jump 0 (fun a'' w'' => GuessRel w t0 t1 t2 b0 b1 a'' w'' ∧ guessMu a'' w'' < guessMu a w') (bodyPost Tryz.prog Tryz.f143 (RetE (.int .u64 (guessG ((t0 * B64 + t1) * B64 + t2) (b0 * B64 + b1) : Nat)) w))) a w' := by
  have HG := Lib.hid (guess_eq ((t0 * B64 + t1) * B64 + t2) (b0 * B64 + b1))
  have HGV := Lib.hid (show guessG ((t0 * B64 + t1) * B64 + t2) (b0 * B64 + b1) ≤ ((t0 * B64 + t1) * B64 + t2) / (b0 * B64 + b1) from Nat.min_le_left _ _)
  have hV : 0 < b0 * B64 + b1 := by have : 0 < b0 * B64 := Nat.mul_pos hb B64_pos; omega
  have HV := Lib.hid hV
  clear hV
  have HK1 := Lib.hid k1
  have H2 := Lib.hid h2
  obtain ⟨c0, c1, c2, c3, c4⟩ := guessW_cells w t0 t1 t2 b0 b1
  have hE := guessW_ext w t0 t1 t2 b0 b1
  have h : GuessRel w t0 t1 t2 b0 b1 a w' := h
  unfold GuessRel at h
  obtain ⟨d, h⟩ := h
  obtain ⟨r, h⟩ := h
  obtain ⟨o, h⟩ := h
  obtain ⟨m, h⟩ := h
  obtain ⟨u8, h⟩ := h
  obtain ⟨u9, h⟩ := h
  obtain ⟨u10, h⟩ := h
  obtain ⟨u11, h⟩ := h
  obtain ⟨u12, h⟩ := h
  obtain ⟨u13, h⟩ := h
  obtain ⟨u14, h⟩ := h
  obtain ⟨u15, h⟩ := h
  obtain ⟨u16, h⟩ := h
  obtain ⟨u17, h⟩ := h
  obtain ⟨u18, h⟩ := h
  obtain ⟨u19, h⟩ := h
  obtain ⟨u20, h⟩ := h
  obtain ⟨u21, h⟩ := h
  obtain ⟨u22, h⟩ := h
  obtain ⟨u23, h⟩ := h
  obtain ⟨u24, h⟩ := h
  obtain ⟨u25, h⟩ := h
  obtain ⟨u26, h⟩ := h
  obtain ⟨u27, h⟩ := h
  obtain ⟨u28, h⟩ := h
  obtain ⟨u29, h⟩ := h
  obtain ⟨u30, h⟩ := h
  obtain ⟨u31, h⟩ := h
  obtain ⟨u32, h⟩ := h
  obtain ⟨u33, h⟩ := h
  obtain ⟨u34, h⟩ := h
  obtain ⟨u35, h⟩ := h
  obtain ⟨u36, h⟩ := h
  obtain ⟨u37, h⟩ := h
  obtain ⟨u38, h⟩ := h
  obtain ⟨u39, h⟩ := h
  obtain ⟨u40, h⟩ := h
  obtain ⟨u41, h⟩ := h
  obtain ⟨u42, h⟩ := h
  obtain ⟨u43, h⟩ := h
  obtain ⟨u44, h⟩ := h
  obtain ⟨u45, h⟩ := h
  obtain ⟨u46, h⟩ := h
  obtain ⟨u47, h⟩ := h
  obtain ⟨u48, h⟩ := h
  obtain ⟨u49, h⟩ := h
  obtain ⟨u50, h⟩ := h
  obtain ⟨u51, h⟩ := h
  obtain ⟨u52, h⟩ := h
  obtain ⟨u53, h⟩ := h
  obtain ⟨u54, h⟩ := h
  obtain ⟨u55, h⟩ := h
  obtain ⟨u56, h⟩ := h
  obtain ⟨u57, h⟩ := h
  obtain ⟨u58, h⟩ := h
  obtain ⟨u59, h⟩ := h
  obtain ⟨u60, h⟩ := h
  obtain ⟨u61, h⟩ := h
  obtain ⟨u62, h⟩ := h
  obtain ⟨u63, h⟩ := h
  obtain ⟨u64, h⟩ := h
  obtain ⟨u65, h⟩ := h
  obtain ⟨u66, h⟩ := h
  obtain ⟨u67, h⟩ := h
  obtain ⟨u68, h⟩ := h
  obtain ⟨hw', he, ho, hr, hd, hGd, ha⟩ := h
  have HRel := Lib.hid (show ∀ (d r o m : Nat) (u8 u9 u10 u11 u12 u13 u14 u15 u16 u17 u18 u19 u20 u21 u22 u23 u24 u25 u26 u27 u28 u29 u30 u31 u32 u33 u34 u35 u36 u37 u38 u39 u40 u41 u42 u43 u44 u45 u46 u47 u48 u49 u50 u51 u52 u53 u54 u55 u56 u57 u58 u59 u60 u61 u62 u63 u64 u65 u66 u67 u68 : Value), d * b0 + r + B64 * o = t0 * B64 + t1 → o ≤ 1 → r < B64 → d < B64 → guessG ((t0 * B64 + t1) * B64 + t2) (b0 * B64 + b1) ≤ d →
    GuessRel w t0 t1 t2 b0 b1 { tmps := #[.agg #[.int .u64 (t0 : Int), .int .u64 (t1 : Int), .int .u64 (t2 : Int)], .agg #[.int .u64 (b0 : Int), .int .u64 (b1 : Int)], .pointer (some ⟨w.heap.size, 0, none⟩), .pointer (some ⟨w.heap.size + 1, 0, none⟩), .int .u64 0, .int .u64 (d : Int), .int .u64 (r : Int), .int .u64 (o : Int), u8, u9, u10, u11, u12, u13, u14, u15, u16, u17, u18, u19, u20, u21, u22, u23, u24, u25, u26, u27, u28, u29, u30, u31, u32, u33, u34, u35, u36, u37, u38, u39, u40, u41, u42, u43, u44, u45, u46, u47, u48, u49, u50, u51, u52, u53, u54, u55, u56, u57, u58, u59, u60, u61, u62, u63, u64, u65, u66, u67, u68], defers := [] } ((guessW w t0 t1 t2 b0 b1).drewN m) from fun d r o m u8 u9 u10 u11 u12 u13 u14 u15 u16 u17 u18 u19 u20 u21 u22 u23 u24 u25 u26 u27 u28 u29 u30 u31 u32 u33 u34 u35 u36 u37 u38 u39 u40 u41 u42 u43 u44 u45 u46 u47 u48 u49 u50 u51 u52 u53 u54 u55 u56 u57 u58 u59 u60 u61 u62 u63 u64 u65 u66 u67 u68 h1 h2 h3 h4 h5 => ⟨d, r, o, m, u8, u9, u10, u11, u12, u13, u14, u15, u16, u17, u18, u19, u20, u21, u22, u23, u24, u25, u26, u27, u28, u29, u30, u31, u32, u33, u34, u35, u36, u37, u38, u39, u40, u41, u42, u43, u44, u45, u46, u47, u48, u49, u50, u51, u52, u53, u54, u55, u56, u57, u58, u59, u60, u61, u62, u63, u64, u65, u66, u67, u68, rfl, h1, h2, h3, h4, h5, rfl⟩)
  have HE := Lib.hid he
  have HGd := Lib.hid hGd
  subst ha hw'
  clear he hGd
  generalize guessG ((t0 * B64 + t1) * B64 + t2) (b0 * B64 + b1) = G at *
  generalize guessW w t0 t1 t2 b0 b1 = W at *
  conv => arg 2; whnf
  rcases (by omega : o = 0 ∨ o = 1) with rfl | rfl
  · have cm := mul64_calls d b1 hd k1
    have e1 := mul_eq d b1
    have hl1 := mulL_lt d b1
    have hh1 := mulH_lt hd k1
    generalize mulH d b1 = hi at *
    generalize mulL d b1 = lo at *
    have HM := Lib.hid e1
    have CM := Lib.hid cm
    clear e1 cm
    have x8 := add64_run0 r b0
    have HSC := Lib.hid (addS_eq r b0 0)
    have hs := addS_lt r b0 0
    have hc := addC_le hr k0 (by omega : 0 ≤ 1)
    generalize addS r b0 0 = s at *
    generalize addC r b0 0 = c at *
    have HE0 := Lib.hid (show d * b0 + r = t0 * B64 + t1 by have := HE.out; omega)
    by_cases hc1 : (r : Int) < (hi : Int)
    · have HP : r * B64 + t2 < d * b1 := by
        have h3 : B64 * (r + 1) ≤ B64 * hi := Nat.mul_le_mul_left _ (by omega)
        rw [Nat.mul_add] at h3
        rw [← HM.out, Nat.mul_comm r]
        omega
      have hmore := guess_more (b := B64) (t2 := t2) HV.out HE0.out HP
      obtain ⟨d', hd'⟩ : ∃ d', d - 1 = d' := ⟨_, rfl⟩
      have hdpos : 1 ≤ d := Nat.le_trans (Nat.le_add_left _ _) hmore
      have hdd : (d : Int) - 1 = (d' : Int) := by omega
      have HG2 := Lib.hid (show G ≤ d' from Nat.le_trans HGV.out (by rw [← hd']; exact Nat.le_sub_one_of_lt hmore))
      have HE2 := Lib.hid (show d' * b0 + s + B64 * c = t0 * B64 + t1 by
        have e2 : d * b0 = d' * b0 + b0 := by rw [show d = d' + 1 by omega, Nat.add_mul, Nat.one_mul]
        have e3 := HE0.out
        have e4 := HSC.out
        omega)
      have hd'b : d' < B64 := by omega
      have hd'n : (d' : Int) < 18446744073709551616 := by have := B64_eq; omega
      have HML := Lib.hid (show d' < d by omega)
      clear hmore HP
      go_wp2_with fail
      refine (CM.out _).mono ?_
      rintro e w' ⟨rfl, rfl⟩
      go_wp2_with fail
      go_step3
      exact ⟨rfl, HRel.out d' s c m _ _ _ _ _ _ _ _ _ _ _ _ _ _ _ _ _ _ _ _ _ _ _ _ _ _ _ _ _ _ _ _ _ _ _ _ _ _ _ _ _ _ _ _ _ _ _ _ _ _ _ _ _ _ _ _ _ _ _ _ _ HE2.out hc hs hd'b HG2.out, by simp only [guessMu]; exact HML.out⟩
    · by_cases hc2 : hi = r
      · subst hc2
        clear hc1
        by_cases hc3 : (t2 : Int) < (lo : Int)
        · have HP : hi * B64 + t2 < d * b1 := by
            rw [← HM.out, Nat.mul_comm hi]; omega
          have hmore := guess_more (b := B64) (t2 := t2) HV.out HE0.out HP
          obtain ⟨d', hd'⟩ : ∃ d', d - 1 = d' := ⟨_, rfl⟩
          have hdpos : 1 ≤ d := Nat.le_trans (Nat.le_add_left _ _) hmore
          have hdd : (d : Int) - 1 = (d' : Int) := by omega
          have HG2 := Lib.hid (show G ≤ d' from Nat.le_trans HGV.out (by rw [← hd']; exact Nat.le_sub_one_of_lt hmore))
          have HE2 := Lib.hid (show d' * b0 + s + B64 * c = t0 * B64 + t1 by
            have e2 : d * b0 = d' * b0 + b0 := by rw [show d = d' + 1 by omega, Nat.add_mul, Nat.one_mul]
            have e3 := HE0.out
            have e4 := HSC.out
            omega)
          have hd'b : d' < B64 := by omega
          have hd'n : (d' : Int) < 18446744073709551616 := by have := B64_eq; omega
          have HML := Lib.hid (show d' < d by omega)
          clear hmore HP
          go_wp2_with fail
          refine (CM.out _).mono ?_
          rintro e w' ⟨rfl, rfl⟩
          go_wp2_with fail
          go_step3
          exact ⟨rfl, HRel.out d' s c m _ _ _ _ _ _ _ _ _ _ _ _ _ _ _ _ _ _ _ _ _ _ _ _ _ _ _ _ _ _ _ _ _ _ _ _ _ _ _ _ _ _ _ _ _ _ _ _ _ _ _ _ _ _ _ _ _ _ _ _ _ HE2.out hc hs hd'b HG2.out, by simp only [guessMu]; exact HML.out⟩
        · have HP : d * b1 ≤ hi * B64 + t2 := by
            rw [← HM.out, Nat.mul_comm hi]; omega
          have hret := HG.out d HGd.out (guess_over (o := 0) hb hd HK1.out H2.out HE.out (.inr HP)) hd
          have HRet := Lib.hid hret
          clear hret HP
          go_wp2_with fail
          refine (CM.out _).mono ?_
          rintro e w' ⟨rfl, rfl⟩
          go_wp2_with fail
          simp only [Exit.jump]
          go_ret
          exact ⟨by rw [← HRet.out]; rfl, hE.drewN m⟩
      · have g1 : ((hi : Int) == (r : Int)) = false := by rw [beq_eq_false_iff_ne]; omega
        have HP : d * b1 ≤ r * B64 + t2 := by
          have h3 : B64 * (hi + 1) ≤ B64 * r := Nat.mul_le_mul_left _ (by omega)
          rw [Nat.mul_add] at h3
          rw [← HM.out, Nat.mul_comm r]
          omega
        clear hc2
        have hret := HG.out d HGd.out (guess_over (o := 0) hb hd HK1.out H2.out HE.out (.inr HP)) hd
        have HRet := Lib.hid hret
        clear hret HP
        go_wp2_with fail
        refine (CM.out _).mono ?_
        rintro e w' ⟨rfl, rfl⟩
        go_wp2_with fail
        simp only [Exit.jump]
        go_ret
        exact ⟨by rw [← HRet.out]; rfl, hE.drewN m⟩
  · have hret := HG.out d HGd.out (guess_over (o := 1) hb hd HK1.out H2.out HE.out (.inl (by omega))) hd
    have HRet := Lib.hid hret
    clear hret
    go_wp2_with fail
    simp only [Exit.jump]
    go_ret
    exact ⟨by rw [← HRet.out]; rfl, hE.drewN m⟩

set_option maxHeartbeats 4000000 in
set_option maxRecDepth 100000 in
theorem guess_calls (t0 t1 t2 b0 b1 : Nat) (h1 : t1 < B64) (h2 : t2 < B64) (k0 : b0 < B64) (k1 : b1 < B64) (hle : t0 ≤ b0) (hb : 0 < b0) (w : World) :
    Calls Tryz.prog 143 #[.agg #[.int .u64 (t0 : Int), .int .u64 (t1 : Int), .int .u64 (t2 : Int)], .agg #[.int .u64 (b0 : Int), .int .u64 (b1 : Int)]] w (RetE (.int .u64 (guessG ((t0 * B64 + t1) * B64 + t2) (b0 * B64 + b1) : Nat)) w) := by
  have HPass := Lib.hid (guess_pass t0 t1 t2 b0 b1 h2 k0 k1 hb w)
  have HGB := Lib.hid (show guessG ((t0 * B64 + t1) * B64 + t2) (b0 * B64 + b1) ≤ B64 - 1 from Nat.min_le_right _ _)
  have HGV := Lib.hid (show guessG ((t0 * B64 + t1) * B64 + t2) (b0 * B64 + b1) ≤ ((t0 * B64 + t1) * B64 + t2) / (b0 * B64 + b1) from Nat.min_le_left _ _)
  have HW := Lib.hid (@rfl _ (guessW w t0 t1 t2 b0 b1))
  go_enter Tryz.func143, Tryz.ntmps143
  go_wp2_with fail
  refine wp_scope_jumps 0 (GuessRel w t0 t1 t2 b0 b1) guessMu rfl ?_ ?_
  rotate_left
  · intro a' w' h
    go_step
    go_step
    go_step
    go_step
    go_step
    exact HPass.out _ _ h
  rcases Nat.lt_or_eq_of_le hle with hlt | heq
  · have g1 : ¬ ((b0 : Int) ≤ (t0 : Int)) := by omega
    have HD := Lib.hid (fun w => div64_calls t0 t1 b0 hlt h1 k0 w)
    have hq := divQ_lt hlt h1
    have hrr := @divR_lt t0 t1 b0 hb
    have HE := Lib.hid (div_eq t0 t1 b0)
    have HQ := Lib.hid (guess_start (t2 := t2) (b1 := b1) hb HE.out hrr h2)
    have HQ2 := Lib.hid (Nat.le_trans HGV.out HQ.out)
    generalize divQ t0 t1 b0 = q at *
    generalize divR t0 t1 b0 = r' at *
    go_wp2_with fail
    go_quiet (fail)
    go_wp2_with fail
    refine (HD.out _).mono ?_
    rintro e w' ⟨rfl, nd, rfl⟩
    go_wp2_with fail
    go_step3
    have HRel := Lib.hid (show ∀ (m : Nat) (u8 u9 u10 u11 u12 u13 u14 u15 u16 u17 u18 u19 u20 u21 u22 u23 u24 u25 u26 u27 u28 u29 u30 u31 u32 u33 u34 u35 u36 u37 u38 u39 u40 u41 u42 u43 u44 u45 u46 u47 u48 u49 u50 u51 u52 u53 u54 u55 u56 u57 u58 u59 u60 u61 u62 u63 u64 u65 u66 u67 u68 : Value), GuessRel w t0 t1 t2 b0 b1 { tmps := #[.agg #[.int .u64 (t0 : Int), .int .u64 (t1 : Int), .int .u64 (t2 : Int)], .agg #[.int .u64 (b0 : Int), .int .u64 (b1 : Int)], .pointer (some ⟨w.heap.size, 0, none⟩), .pointer (some ⟨w.heap.size + 1, 0, none⟩), .int .u64 0, .int .u64 (q : Int), .int .u64 (r' : Int), .int .u64 0, u8, u9, u10, u11, u12, u13, u14, u15, u16, u17, u18, u19, u20, u21, u22, u23, u24, u25, u26, u27, u28, u29, u30, u31, u32, u33, u34, u35, u36, u37, u38, u39, u40, u41, u42, u43, u44, u45, u46, u47, u48, u49, u50, u51, u52, u53, u54, u55, u56, u57, u58, u59, u60, u61, u62, u63, u64, u65, u66, u67, u68], defers := [] } ((guessW w t0 t1 t2 b0 b1).drewN m) from fun m u8 u9 u10 u11 u12 u13 u14 u15 u16 u17 u18 u19 u20 u21 u22 u23 u24 u25 u26 u27 u28 u29 u30 u31 u32 u33 u34 u35 u36 u37 u38 u39 u40 u41 u42 u43 u44 u45 u46 u47 u48 u49 u50 u51 u52 u53 u54 u55 u56 u57 u58 u59 u60 u61 u62 u63 u64 u65 u66 u67 u68 => ⟨q, r', 0, m, u8, u9, u10, u11, u12, u13, u14, u15, u16, u17, u18, u19, u20, u21, u22, u23, u24, u25, u26, u27, u28, u29, u30, u31, u32, u33, u34, u35, u36, u37, u38, u39, u40, u41, u42, u43, u44, u45, u46, u47, u48, u49, u50, u51, u52, u53, u54, u55, u56, u57, u58, u59, u60, u61, u62, u63, u64, u65, u66, u67, u68, rfl, by rw [HE.out.symm.symm]; omega, by omega, by omega, hq, HQ2.out, rfl⟩)
    go_step
    go_step
    refine Code.wp_mono ?_ (HPass.out _ _ (HRel.out _ _ _ _ _ _ _ _ _ _ _ _ _ _ _ _ _ _ _ _ _ _ _ _ _ _ _ _ _ _ _ _ _ _ _ _ _ _ _ _ _ _ _ _ _ _ _ _ _ _ _ _ _ _ _ _ _ _ _ _ _ _))
    rintro e a w' hq
    cases e <;> first | exact ⟨hq.1, hq.2.1⟩ | exact hq
  · subst heq
    have x8 := add64_run0 t1 t0
    have hsc := addS_eq t1 t0 0
    have hs := addS_lt t1 t0 0
    have hc := addC_le h1 k0 (by omega : 0 ≤ 1)
    generalize addS t1 t0 0 = s at *
    generalize addC t1 t0 0 = c at *
    have HSC := Lib.hid hsc
    clear hsc
    go_wp2_with fail
    go_quiet (fail)
    go_wp2_with fail
    go_step3
    have HRel := Lib.hid (show ∀ (m : Nat) (u8 u9 u10 u11 u12 u13 u14 u15 u16 u17 u18 u19 u20 u21 u22 u23 u24 u25 u26 u27 u28 u29 u30 u31 u32 u33 u34 u35 u36 u37 u38 u39 u40 u41 u42 u43 u44 u45 u46 u47 u48 u49 u50 u51 u52 u53 u54 u55 u56 u57 u58 u59 u60 u61 u62 u63 u64 u65 u66 u67 u68 : Value), GuessRel w t0 t1 t2 t0 b1 { tmps := #[.agg #[.int .u64 (t0 : Int), .int .u64 (t1 : Int), .int .u64 (t2 : Int)], .agg #[.int .u64 (t0 : Int), .int .u64 (b1 : Int)], .pointer (some ⟨w.heap.size, 0, none⟩), .pointer (some ⟨w.heap.size + 1, 0, none⟩), .int .u64 0, .int .u64 18446744073709551615, .int .u64 (s : Int), .int .u64 (c : Int), u8, u9, u10, u11, u12, u13, u14, u15, u16, u17, u18, u19, u20, u21, u22, u23, u24, u25, u26, u27, u28, u29, u30, u31, u32, u33, u34, u35, u36, u37, u38, u39, u40, u41, u42, u43, u44, u45, u46, u47, u48, u49, u50, u51, u52, u53, u54, u55, u56, u57, u58, u59, u60, u61, u62, u63, u64, u65, u66, u67, u68], defers := [] } ((guessW w t0 t1 t2 t0 b1).drewN m) from fun m u8 u9 u10 u11 u12 u13 u14 u15 u16 u17 u18 u19 u20 u21 u22 u23 u24 u25 u26 u27 u28 u29 u30 u31 u32 u33 u34 u35 u36 u37 u38 u39 u40 u41 u42 u43 u44 u45 u46 u47 u48 u49 u50 u51 u52 u53 u54 u55 u56 u57 u58 u59 u60 u61 u62 u63 u64 u65 u66 u67 u68 => ⟨B64 - 1, s, c, m, u8, u9, u10, u11, u12, u13, u14, u15, u16, u17, u18, u19, u20, u21, u22, u23, u24, u25, u26, u27, u28, u29, u30, u31, u32, u33, u34, u35, u36, u37, u38, u39, u40, u41, u42, u43, u44, u45, u46, u47, u48, u49, u50, u51, u52, u53, u54, u55, u56, u57, u58, u59, u60, u61, u62, u63, u64, u65, u66, u67, u68, rfl, top_digit HSC.out, hc, hs, by have := B64_pos; omega, HGB.out, rfl⟩)
    go_step
    go_step
    refine Code.wp_mono ?_ (HPass.out _ _ (HRel.out _ _ _ _ _ _ _ _ _ _ _ _ _ _ _ _ _ _ _ _ _ _ _ _ _ _ _ _ _ _ _ _ _ _ _ _ _ _ _ _ _ _ _ _ _ _ _ _ _ _ _ _ _ _ _ _ _ _ _ _ _ _))
    rintro e a w hq
    cases e <;> first | exact ⟨hq.1, hq.2.1⟩ | exact hq

end Go.Proofs.YtimcnhlcepemjaaGreatDoor

/- nat.take: a digit times b is taken from what is left. -/
namespace Go.Proofs.YtimcnhlcepemjaaGreatDoor
open Go.RowKit

/-- Outside the n places from a on no cell has turned. -/
def Only (w w' : World) (a : Option Addr) (n : Nat) : Prop := ∀ p : Addr, (∀ b off i, a = some ⟨b, off, none⟩ → i < n → p ≠ ⟨b, off + i, none⟩) → w'.cell? p = w.cell? p
theorem Only.refl (w : World) (a : Option Addr) (n : Nat) : Only w w a n := fun _ _ => rfl
theorem Only.drew {w w1 : World} {a : Option Addr} {n : Nat} (h : Only w w1 a n) : Only w w1.drew a n := fun p hp => h p hp
theorem Only.store {w w1 : World} {a : Option Addr} {n : Nat} (h : Only w w1 a n) {b off i : Nat} (ha : a = some ⟨b, off, none⟩) (hi : i < n) (v : Value) : Only w (w1.setCell ⟨b, off + i, none⟩ v) a n := fun p hp => by
  rw [World.cell?_setCell_other w1 _ _ _ (fun e => hp b off i ha hi e.symm)]
  exact h p hp

/-- What the first loop keeps. -/
def TakeRel (B : Nat) (w : World) (a : Option Addr) (E : Nat) (d : Nat) (xs ys : List Nat) (cv bv iv : Value) (wr : World) : Prop :=
  ∃ (k cr br : Nat) (os : List Nat), k ≤ E ∧ iv = .int .i64 k ∧ cv = .int .u64 cr ∧ bv = .int .u64 br ∧ cr < B64 ∧ br ≤ 1 ∧ Own B wr a (E + 1) (E + 1) os ∧ w.grownBy wr (blk a) ∧ Only w wr a (E + 1) ∧ os.drop k = xs.drop k ∧
    nv B64 (os.take k) + d * nv B64 (ys.take k) = nv B64 (xs.take k) + B64 ^ k * (cr + br)
/-- What the second one keeps. -/
def BackRel (B : Nat) (w : World) (a : Option Addr) (E : Nat) (xs ys : List Nat) (cv iv : Value) (wr : World) : Prop :=
  ∃ (k cr : Nat) (os : List Nat), k ≤ E ∧ iv = .int .i64 k ∧ cv = .int .u64 cr ∧ cr ≤ 1 ∧ Own B wr a (E + 1) (E + 1) os ∧ w.grownBy wr (blk a) ∧ Only w wr a (E + 1) ∧ os.drop k = xs.drop k ∧
    nv B64 (os.take k) + B64 ^ k * cr = nv B64 (xs.take k) + nv B64 (ys.take k)

theorem take_round {os xs ys : List Nat} {k d cr br x y h l s1 c1 t b2 : Nat} (hk : k < os.length) (hx : xs.getD k 0 = x) (hy : ys.getD k 0 = y) (e1 : l + B64 * h = d * y) (e2 : s1 + B64 * c1 = l + cr + 0) (e3 : t + s1 + br = x + B64 * b2)
    (ih : nv B64 (os.take k) + d * nv B64 (ys.take k) = nv B64 (xs.take k) + B64 ^ k * (cr + br)) :
    nv B64 ((os.set k t).take (k + 1)) + d * nv B64 (ys.take (k + 1)) = nv B64 (xs.take (k + 1)) + B64 ^ (k + 1) * (h + c1 + b2) := by
  rw [nv_take_set _ _ _ _ hk, nv_take_succ' B64 xs k, nv_take_succ' B64 ys k, hx, hy, Nat.mul_add, Nat.pow_succ]
  have e5 : t + d * y + cr + br = x + B64 * (h + c1 + b2) := by rw [Nat.mul_add, Nat.mul_add]; omega
  have e6 : B64 ^ k * (t + d * y + cr + br) = B64 ^ k * (x + B64 * (h + c1 + b2)) := by rw [e5]
  rw [Nat.mul_add, Nat.mul_add, Nat.mul_add, Nat.mul_add, ← Nat.mul_assoc (B64 ^ k) B64] at e6
  rw [Nat.mul_add] at ih
  have e7 : d * (B64 ^ k * y) = B64 ^ k * (d * y) := by rw [Nat.mul_left_comm]
  omega

theorem back_round {os xs ys : List Nat} {k cr x y s c1 : Nat} (hk : k < os.length) (hx : xs.getD k 0 = x) (hy : ys.getD k 0 = y) (e1 : s + B64 * c1 = x + y + cr)
    (ih : nv B64 (os.take k) + B64 ^ k * cr = nv B64 (xs.take k) + nv B64 (ys.take k)) :
    nv B64 ((os.set k s).take (k + 1)) + B64 ^ (k + 1) * c1 = nv B64 (xs.take (k + 1)) + nv B64 (ys.take (k + 1)) := by
  rw [nv_take_set _ _ _ _ hk, nv_take_succ' B64 xs k, nv_take_succ' B64 ys k, hx, hy, Nat.pow_succ]
  exact add_round ih e1

theorem take_top {os xs ys : List Nat} {E d cr br z t b2 : Nat} (ho : os.length = E + 1) (hx : xs.length = E + 1) (hy : ys.length = E) (hz : os.getD E 0 = z) (hd : os.drop E = xs.drop E) (e3 : t + cr + br = z + B64 * b2)
    (ih : nv B64 (os.take E) + d * nv B64 (ys.take E) = nv B64 (xs.take E) + B64 ^ E * (cr + br)) : val (os.set E t) + d * val ys = val xs + B64 ^ (E + 1) * b2 := by
  unfold val
  have h1 := nv_take_set B64 os E t (by omega)
  rw [List.take_of_length_le (by rw [List.length_set]; omega)] at h1
  have h2 := nv_take_succ' B64 xs E
  rw [nv_take_of_le B64 xs _ (by omega), ← getD_of_drop hd, hz] at h2
  rw [nv_take_of_le B64 ys E (by omega)] at ih
  have e : B64 ^ E * (t + cr + br) = B64 ^ E * (z + B64 * b2) := by rw [e3]
  rw [Nat.mul_add, Nat.mul_add, Nat.mul_add, ← Nat.mul_assoc] at e
  rw [Nat.mul_add] at ih
  rw [h1, h2, Nat.pow_succ]
  omega
theorem take_yes_carry {os : List Nat} {E X dY b2 : Nat} (ho : os.length = E + 1) (bo : Bd B64 os) (h : val os + dY = X + B64 ^ (E + 1) * b2) (hle : dY ≤ X) (hb : b2 ≤ 1) : b2 = 0 ∧ val os = X - dY := by
  have := nv_lt bo
  rw [ho] at this
  unfold val at *
  rcases (by omega : b2 = 0 ∨ b2 = 1) with rfl | rfl
  · exact ⟨rfl, by omega⟩
  · exfalso; omega
theorem take_no_carry {os : List Nat} {E X dY b2 : Nat} (h : val os + dY = X + B64 ^ (E + 1) * b2) (hle : X < dY) (hb : b2 ≤ 1) : b2 = 1 := by
  rcases (by omega : b2 = 0 ∨ b2 = 1) with rfl | rfl
  · exfalso; omega
  · rfl
theorem wrap_once {b z cr t : Nat} (hge : b ≤ z + cr) (hz : z < b) (hcr : cr ≤ 1) (h2 : 2 ≤ b) (ht : (z + cr) % b = t) : t + b = z + cr := by
  rw [← ht, Nat.mod_eq_sub_mod hge, Nat.mod_eq_of_lt (by omega)]; omega
theorem back_top {os xs ys : List Nat} {E d cr z t X : Nat} (ho : os.length = E + 1) (hx : xs.length = E + 1) (hy : ys.length = E) (bo : Bd B64 os) (hz : os.getD E 0 = z) (hd : os.drop E = xs.drop E) (ht : (z + cr) % B64 = t)
    (ih : nv B64 (os.take E) + B64 ^ E * cr = nv B64 (xs.take E) + nv B64 (ys.take E)) (hz2 : z < B64) (hcr : cr ≤ 1)
    (hX : val xs + (d + 1) * val ys = X + B64 ^ (E + 1)) (hlo : d * val ys ≤ X) (_hhi : X < (d + 1) * val ys) : val (os.set E t) = X - d * val ys := by
  unfold val at *
  have h1 := nv_take_set B64 os E t (by omega)
  rw [List.take_of_length_le (by rw [List.length_set]; omega)] at h1
  have h2 := nv_take_succ' B64 xs E
  rw [nv_take_of_le B64 xs _ (by omega), ← getD_of_drop hd, hz] at h2
  rw [nv_take_of_le B64 ys E (by omega)] at ih
  have hOb := nv_lt (bo.take E)
  rw [List.length_take, Nat.min_eq_left (by omega)] at hOb
  rw [Nat.add_mul, Nat.one_mul] at hX
  have hp : 0 < B64 ^ E := Nat.pow_pos B64_pos
  -- the highest digit and the carry go over
  have hge : B64 ≤ z + cr := by
    rcases Nat.lt_or_ge (z + cr) B64 with h | h
    · exfalso
      have h3 : B64 ^ E * (z + cr + 1) ≤ B64 ^ E * B64 := Nat.mul_le_mul_left _ h
      rw [Nat.mul_add, Nat.mul_add, Nat.mul_one] at h3
      rw [Nat.pow_succ] at hX
      omega
    · exact h
  have e : B64 ^ E * (t + B64) = B64 ^ E * (z + cr) := by rw [wrap_once hge hz2 hcr B64_two ht]
  rw [Nat.mul_add, Nat.mul_add] at e
  rw [Nat.pow_succ] at hX
  rw [h1]
  omega

set_option maxHeartbeats 4000000 in
set_option maxRecDepth 100000 in
theorem take_yes {B : Nat} {a b : Option Addr} {E cb : Nat} {xs ys : List Nat} {w : World} (ha : Own B w a (E + 1) (E + 1) xs) (hb : Sl w b E cb ys) (hap : E = 0 ∨ blk a = none ∨ blk b ≠ blk a) (hE : E ≤ 1000000000)
    (d : Nat) (hd : d < B64) (hle : d * val ys ≤ val xs) :
    Calls Tryz.prog 144 #[.slice a (E + 1) (E + 1), .slice b E cb, .int .u64 (d : Int)] w (fun e w' => ∃ os, e = .returned (.bool true) ∧ val os = val xs - d * val ys ∧ Own B w' a (E + 1) (E + 1) os ∧ w.grownBy w' (blk a) ∧ Only w w' a (E + 1)) := by
  obtain ⟨i0, hi, hz0, hs, hby⟩ := info_parts info64
  have H1 := Lib.hid hi; have H3 := Lib.hid hs; have HP := Lib.hid hap
  have HLX := Lib.hid ha.sl.len; have HLY := Lib.hid hb.len
  have HLE := Lib.hid hle
  have q3 := hb.big
  have q4 := hb.cap
  clear hi hz0 hs hby hap hle
  go_enter Tryz.func144, Tryz.ntmps144
  go_wp2_with fail
  go_loopw [7, 8, 16] (fun cv bv iv wr => TakeRel B w a E d xs ys cv bv iv wr) (fun _ _ iv _ => E - (intOf iv).toNat)
  case atStart => exact ⟨0, 0, 0, xs, by omega, rfl, rfl, rfl, B64_pos, by omega, ha, grownBy_refl _ _, Only.refl _ _ _, rfl, by simp⟩
  case round =>
    obtain ⟨k, cr, br, os, hk, rfl, rfl, rfl, hcr, hbr, hown, hgr, honly, hdr, hval⟩ := hrel
    have HV := Lib.hid hval
    have HD := Lib.hid hdr
    clear hval hdr
    obtain ⟨ba, oa, hixa, hca, haa⟩ := hown.sl.ix (P := Tryz.prog) Tryz.underlying33 H1.out H3.out
    by_cases hlt : k < E
    · obtain ⟨bb, ob, hixb, hcb, -⟩ := (hb.grown hgr HP.out).ix (P := Tryz.prog) Tryz.underlying33 H1.out H3.out
      have x1 := hixa k (by omega)
      have x2 := hca k (by omega)
      have x3 := hown.free (haa (by omega)) (oa + k)
      have HO := Lib.hid (haa (by omega))
      have x4 := hixb k hlt
      have x5 := hcb k hlt
      have p1 := hown.sl.bd.getD B64_pos k
      have p2 := hb.bd.getD B64_pos k
      have hx := (getD_of_drop HD.out).symm
      clear hixa hca haa hixb hcb
      obtain ⟨x, hx'⟩ : ∃ x, os.getD k 0 = x := ⟨_, rfl⟩
      obtain ⟨y, hy'⟩ : ∃ y, ys.getD k 0 = y := ⟨_, rfl⟩
      rw [hx'] at hx x2 p1
      rw [hy'] at x5 p2
      have HX := Lib.hid hx; have HY := Lib.hid hy'
      clear hx hx' hy'
      have cm := mul64_calls d y hd p2
      have e1 := mul_eq d y
      have hl1 := mulL_lt d y
      generalize mulH d y = h at *
      generalize mulL d y = l at *
      have x8 := add64_run0 l cr
      have e2 := addS_eq l cr 0
      have hs1 := addS_lt l cr 0
      have hc1 := addC_le hl1 hcr (by omega : 0 ≤ 1)
      generalize addS l cr 0 = s1 at *
      generalize addC l cr 0 = c1 at *
      have x9 := sub64_run x s1 br hbr
      have e3 := subS_eq p1 hs1 hbr
      have ht := subS_lt x s1 br
      have hb2 := subC_le x s1 br
      generalize subS x s1 br = t at *
      generalize subC x s1 br = b2 at *
      have hbig : h + c1 < B64 := by
        have e4 : s1 + B64 * (h + c1) = d * y + cr := by rw [Nat.mul_add]; omega
        have h2 := mul_add_lt hd p2 hcr
        rw [← e4] at h2
        exact Nat.lt_of_mul_lt_mul_left (a := B64) (by omega)
      have hbig2 : h + c1 < 18446744073709551616 := hbig
      have HR := Lib.hid (take_round (os := os) (xs := xs) (ys := ys) (by rw [hown.sl.len]; omega) HX.out HY.out e1 e2 e3 HV.out)
      have CM := Lib.hid cm
      have HS := Lib.hid (hown.store HO.out k t (by omega) ht)
      clear e1 e2 e3 cm
      go_wp2_with fail
      refine (CM.out _).mono ?_
      rintro e w' ⟨rfl, rfl⟩
      go_wp2_with fail
      go_roundw
      case rel =>
        refine ⟨k + 1, h + c1, b2, os.set k t, by omega, by go_num, rfl, rfl, hbig, hb2, HS.out.1, grownBy_trans hgr HS.out.2, honly.store HO.out (by omega) _, ?_, HR.out⟩
        rw [drop_set_lo _ _ _ _ (by omega)]; exact drop_succ_of_drop HD.out
      case measure => simp [intOf]; omega
    · obtain rfl : k = E := by omega
      have x1 := hixa k (by omega)
      have x2 := hca k (by omega)
      have x3 := hown.free (haa (by omega)) (oa + k)
      have HO := Lib.hid (haa (by omega))
      have p1 := hown.sl.bd.getD B64_pos k
      obtain ⟨z, hz⟩ : ∃ z, os.getD k 0 = z := ⟨_, rfl⟩
      rw [hz] at x2 p1
      have HZ := Lib.hid hz
      clear hz hixa hca haa
      have x9 := sub64_run z cr br hbr
      have e3 := subS_eq p1 hcr hbr
      have ht := subS_lt z cr br
      have hb2 := subC_le z cr br
      have HT := Lib.hid (take_top (t := subS z cr br) (b2 := subC z cr br) hown.sl.len HLX.out HLY.out HZ.out HD.out e3 HV.out)
      generalize subS z cr br = t at *
      generalize subC z cr br = b2 at *
      have HS := Lib.hid (hown.store HO.out k t (by omega) ht)
      clear e3
      obtain ⟨hb0, hv⟩ := take_yes_carry (by rw [List.length_set]; exact hown.sl.len) HS.out.1.sl.bd HT.out HLE.out hb2
      subst hb0
      have HW := Lib.hid hv
      clear hv
      go_wp2_with fail
      go_ret
      exact ⟨os.set k t, rfl, HW.out, HS.out.1, grownBy_trans hgr HS.out.2, honly.store HO.out (by omega) _⟩

set_option maxHeartbeats 4000000 in
set_option maxRecDepth 100000 in
theorem take_no {B : Nat} {a b : Option Addr} {E cb : Nat} {xs ys : List Nat} {w : World} (ha : Own B w a (E + 1) (E + 1) xs) (hb : Sl w b E cb ys) (hap : E = 0 ∨ blk a = none ∨ blk b ≠ blk a) (hE : E ≤ 1000000000)
    (d' d : Nat) (hdd : d = d' + 1) (hd : d < B64) (hle : val xs < d * val ys) (hlo : d' * val ys ≤ val xs) :
    Calls Tryz.prog 144 #[.slice a (E + 1) (E + 1), .slice b E cb, .int .u64 (d : Int)] w (fun e w' => ∃ os, e = .returned (.bool false) ∧ val os = val xs - d' * val ys ∧ Own B w' a (E + 1) (E + 1) os ∧ w.grownBy w' (blk a) ∧ Only w w' a (E + 1)) := by
  have HDD := Lib.hid hdd
  have HLO := Lib.hid hlo
  clear hdd hlo
  obtain ⟨i0, hi, hz0, hs, hby⟩ := info_parts info64
  have H1 := Lib.hid hi; have H3 := Lib.hid hs; have HP := Lib.hid hap
  have HLX := Lib.hid ha.sl.len; have HLY := Lib.hid hb.len
  have HLE := Lib.hid hle
  have q3 := hb.big
  have q4 := hb.cap
  clear hi hz0 hs hby hap hle
  go_enter Tryz.func144, Tryz.ntmps144
  go_wp2_with fail
  go_loopw [7, 8, 16] (fun cv bv iv wr => TakeRel B w a E d xs ys cv bv iv wr) (fun _ _ iv _ => E - (intOf iv).toNat)
  case atStart => exact ⟨0, 0, 0, xs, by omega, rfl, rfl, rfl, B64_pos, by omega, ha, grownBy_refl _ _, Only.refl _ _ _, rfl, by simp⟩
  case round =>
    obtain ⟨k, cr, br, os, hk, rfl, rfl, rfl, hcr, hbr, hown, hgr, honly, hdr, hval⟩ := hrel
    have HV := Lib.hid hval
    have HD := Lib.hid hdr
    clear hval hdr
    obtain ⟨ba, oa, hixa, hca, haa⟩ := hown.sl.ix (P := Tryz.prog) Tryz.underlying33 H1.out H3.out
    by_cases hlt : k < E
    · obtain ⟨bb, ob, hixb, hcb, -⟩ := (hb.grown hgr HP.out).ix (P := Tryz.prog) Tryz.underlying33 H1.out H3.out
      have x1 := hixa k (by omega)
      have x2 := hca k (by omega)
      have x3 := hown.free (haa (by omega)) (oa + k)
      have HO := Lib.hid (haa (by omega))
      have x4 := hixb k hlt
      have x5 := hcb k hlt
      have p1 := hown.sl.bd.getD B64_pos k
      have p2 := hb.bd.getD B64_pos k
      have hx := (getD_of_drop HD.out).symm
      clear hixa hca haa hixb hcb
      obtain ⟨x, hx'⟩ : ∃ x, os.getD k 0 = x := ⟨_, rfl⟩
      obtain ⟨y, hy'⟩ : ∃ y, ys.getD k 0 = y := ⟨_, rfl⟩
      rw [hx'] at hx x2 p1
      rw [hy'] at x5 p2
      have HX := Lib.hid hx; have HY := Lib.hid hy'
      clear hx hx' hy'
      have cm := mul64_calls d y hd p2
      have e1 := mul_eq d y
      have hl1 := mulL_lt d y
      generalize mulH d y = h at *
      generalize mulL d y = l at *
      have x8 := add64_run0 l cr
      have e2 := addS_eq l cr 0
      have hs1 := addS_lt l cr 0
      have hc1 := addC_le hl1 hcr (by omega : 0 ≤ 1)
      generalize addS l cr 0 = s1 at *
      generalize addC l cr 0 = c1 at *
      have x9 := sub64_run x s1 br hbr
      have e3 := subS_eq p1 hs1 hbr
      have ht := subS_lt x s1 br
      have hb2 := subC_le x s1 br
      generalize subS x s1 br = t at *
      generalize subC x s1 br = b2 at *
      have hbig : h + c1 < B64 := by
        have e4 : s1 + B64 * (h + c1) = d * y + cr := by rw [Nat.mul_add]; omega
        have h2 := mul_add_lt hd p2 hcr
        rw [← e4] at h2
        exact Nat.lt_of_mul_lt_mul_left (a := B64) (by omega)
      have hbig2 : h + c1 < 18446744073709551616 := hbig
      have HR := Lib.hid (take_round (os := os) (xs := xs) (ys := ys) (by rw [hown.sl.len]; omega) HX.out HY.out e1 e2 e3 HV.out)
      have CM := Lib.hid cm
      have HS := Lib.hid (hown.store HO.out k t (by omega) ht)
      clear e1 e2 e3 cm
      go_wp2_with fail
      refine (CM.out _).mono ?_
      rintro e w' ⟨rfl, rfl⟩
      go_wp2_with fail
      go_roundw
      case rel =>
        refine ⟨k + 1, h + c1, b2, os.set k t, by omega, by go_num, rfl, rfl, hbig, hb2, HS.out.1, grownBy_trans hgr HS.out.2, honly.store HO.out (by omega) _, ?_, HR.out⟩
        rw [drop_set_lo _ _ _ _ (by omega)]; exact drop_succ_of_drop HD.out
      case measure => simp [intOf]; omega
    · obtain rfl : k = E := by omega
      have x1 := hixa k (by omega)
      have x2 := hca k (by omega)
      have x3 := hown.free (haa (by omega)) (oa + k)
      have HO := Lib.hid (haa (by omega))
      have p1 := hown.sl.bd.getD B64_pos k
      obtain ⟨z, hz⟩ : ∃ z, os.getD k 0 = z := ⟨_, rfl⟩
      rw [hz] at x2 p1
      have HZ := Lib.hid hz
      clear hz hixa hca haa
      have x9 := sub64_run z cr br hbr
      have e3 := subS_eq p1 hcr hbr
      have ht := subS_lt z cr br
      have hb2 := subC_le z cr br
      have HT := Lib.hid (take_top (t := subS z cr br) (b2 := subC z cr br) hown.sl.len HLX.out HLY.out HZ.out HD.out e3 HV.out)
      generalize subS z cr br = t at *
      generalize subC z cr br = b2 at *
      have HS := Lib.hid (hown.store HO.out k t (by omega) ht)
      clear e3
      have hb0 := take_no_carry HT.out HLE.out hb2
      subst hb0
      have hgr2 := grownBy_trans hgr HS.out.2
      have honly2 : Only w (wr.setCell ⟨ba, oa + k, none⟩ (.int .u64 (t : Int))) a (k + 1) := honly.store HO.out (by omega) _
      have HT2 := Lib.hid HT.out
      have HO1 := Lib.hid HS.out.1
      have hown1 := HS.out.1
      clear HT HV HD HZ
      go_wp2_with fail
      clear x1 x2 x3 x9
      generalize os.set k t = o1 at *
      generalize wr.setCell ⟨ba, oa + k, none⟩ (.int .u64 (t : Int)) = w2 at *
      clear HS HO1 hown hgr honly
      go_loopw [7, 70] (fun cv iv wr => BackRel B w a k o1 ys cv iv wr) (fun _ iv _ => k - (intOf iv).toNat)
      case atStart => exact ⟨0, 0, o1, by omega, rfl, rfl, by omega, hown1, hgr2, honly2, rfl, by simp⟩
      case round =>
        obtain ⟨j, cr, os, hk, rfl, rfl, hcr, hown, hgr, honly, hdr, hval⟩ := hrel
        have HV := Lib.hid hval
        have HD := Lib.hid hdr
        clear hval hdr
        obtain ⟨ba, oa, hixa, hca, haa⟩ := hown.sl.ix (P := Tryz.prog) Tryz.underlying33 H1.out H3.out
        by_cases hlt : j < k
        · obtain ⟨bb, ob, hixb, hcb, -⟩ := (hb.grown hgr HP.out).ix (P := Tryz.prog) Tryz.underlying33 H1.out H3.out
          have x1 := hixa j (by omega)
          have x2 := hca j (by omega)
          have x3 := hown.free (haa (by omega)) (oa + j)
          have HO := Lib.hid (haa (by omega))
          have x4 := hixb j hlt
          have x5 := hcb j hlt
          have p1 := hown.sl.bd.getD B64_pos j
          have p2 := hb.bd.getD B64_pos j
          have hx := (getD_of_drop HD.out).symm
          clear hixa hca haa hixb hcb
          obtain ⟨x, hx'⟩ : ∃ x, os.getD j 0 = x := ⟨_, rfl⟩
          obtain ⟨y, hy'⟩ : ∃ y, ys.getD j 0 = y := ⟨_, rfl⟩
          rw [hx'] at hx x2 p1
          rw [hy'] at x5 p2
          have HX := Lib.hid hx; have HY := Lib.hid hy'
          clear hx hx' hy'
          have x8 := add64_run x y cr hcr
          have e2 := addS_eq x y cr
          have hs1 := addS_lt x y cr
          have hc1 := addC_le p1 p2 hcr
          have HR := Lib.hid (back_round (os := os) (xs := o1) (ys := ys) (by rw [hown.sl.len]; omega) HX.out HY.out e2 HV.out)
          generalize addS x y cr = s1 at *
          generalize addC x y cr = c1 at *
          have HS := Lib.hid (fun n : Nat => (hown.old ((Ext.refl _).drewN n)).store HO.out j s1 (by omega) hs1)
          clear e2
          go_wp2_with fail
          go_region
          go_wp2_with fail
          go_roundw
          case rel =>
            refine ⟨j + 1, c1, os.set j s1, by omega, by go_num, rfl, hc1, (HS.out 0).1.old ((Ext.refl _).drew), grownBy_trans (grownBy_trans hgr (HS.out 0).2) (((Ext.refl _).drew).by_ _), (honly.store HO.out (by omega) _).drew, ?_, HR.out⟩
            rw [drop_set_lo _ _ _ _ (by omega)]; exact drop_succ_of_drop HD.out
          case measure => simp [intOf]; omega
        · obtain rfl : j = k := by omega
          have x1 := hixa j (by omega)
          have x2 := hca j (by omega)
          have x3 := hown.free (haa (by omega)) (oa + j)
          have HO := Lib.hid (haa (by omega))
          have p1 := hown.sl.bd.getD B64_pos j
          obtain ⟨z2, hz⟩ : ∃ z2, os.getD j 0 = z2 := ⟨_, rfl⟩
          rw [hz] at x2 p1
          have HZ := Lib.hid hz
          clear hz hixa hca haa
          obtain ⟨t2, ht2⟩ : ∃ t2, (z2 + cr) % B64 = t2 := ⟨_, rfl⟩
          have hw1 : IntKind.u64.wrap ((z2 : Int) + (cr : Int)) = (t2 : Int) := by
            rw [← Int.natCast_add, u64_wrap_nat, ht2]
          have htb : t2 < B64 := by rw [← ht2]; exact Nat.mod_lt _ B64_pos
          have hle2 : d' * val ys ≤ val xs := HLO.out
          have hX : val o1 + (d' + 1) * val ys = val xs + B64 ^ (j + 1) := by
            have := HT2.out
            rw [HDD.out, Nat.mul_one] at this
            exact this
          have hhi : val xs < (d' + 1) * val ys := by rw [← HDD.out]; exact HLE.out
          have HF := Lib.hid (back_top hown.sl.len hown1.sl.len HLY.out hown.sl.bd HZ.out HD.out ht2 HV.out p1 hcr hX hle2 hhi)
          have HS := Lib.hid (hown.store HO.out j t2 (by omega) htb)
          clear ht2 hX hhi hle2
          go_wp2_with fail
          go_ret
          exact ⟨os.set j t2, rfl, HF.out, HS.out.1, grownBy_trans hgr HS.out.2, honly.store HO.out (by omega) _⟩

end Go.Proofs.YtimcnhlcepemjaaGreatDoor

/- The long quotient, its plain law: what one digit's step keeps. -/
namespace Go.Proofs.YtimcnhlcepemjaaGreatDoor
open Go.RowKit

/-- A part of a slice. -/
theorem Sl.sub {w : World} {a : Option Addr} {n c : Nat} {xs : List Nat} (h : Sl w a n c xs) (j m d : Nat) (hj : j + m ≤ n) (hmd : m ≤ d) (hd : d ≤ c) : Sl w (a.map (·.add j)) m d ((xs.drop j).take m) := by
  refine ⟨by rw [List.length_take, List.length_drop, h.len]; omega, hmd, Nat.le_trans hd h.big, (h.bd.drop j).take m, ?_⟩
  rcases h.at_ with ⟨h2, h3⟩ | ⟨b, off, rfl, hc⟩
  · exact .inl ⟨by omega, by omega⟩
  · refine .inr ⟨b, off + j, ?_, fun i hi => ?_⟩
    · simp only [Option.map_some, Addr.add]
      split
      · rename_i h0; subst h0; rfl
      · rfl
    · rw [Nat.add_assoc, hc (j + i) (by omega)]
      congr 3
      rw [List.getD_eq_getElem?_getD, List.getD_eq_getElem?_getD, List.getElem?_take, if_pos hi, List.getElem?_drop]
theorem map_add_blk (a : Option Addr) (j : Nat) : blk (a.map (·.add j)) = blk a := by
  cases a with
  | none => rfl
  | some p => simp only [blk, Option.map_some, Addr.add]; split <;> rfl
theorem Own.sub {B : Nat} {w : World} {a : Option Addr} {n c : Nat} {xs : List Nat} (h : Own B w a n c xs) (j m d : Nat) (hj : j + m ≤ n) (hmd : m ≤ d) (hd : d ≤ c) : Own B w (a.map (·.add j)) m d ((xs.drop j).take m) := by
  refine ⟨h.sl.sub j m d hj hmd hd, ?_⟩
  rcases h.row with rfl | ⟨b, off, cur, e, rfl, hB, hh⟩
  · exact .inl rfl
  · refine .inr ⟨b, off + j, cur, e, ?_, hB, hh⟩
    simp only [Option.map_some, Addr.add]
    split
    · rename_i h0; subst h0; rfl
    · rfl
/-- A part has been written: the whole reads anew. -/
theorem Own.splice {B : Nat} {w w' : World} {a : Option Addr} {n c : Nat} {xs os : List Nat} (h : Own B w a n c xs) (j m : Nat) (hm : 0 < m) (hj : j + m ≤ n) (h' : Own B w' (a.map (·.add j)) m m os) (ho : Only w w' (a.map (·.add j)) m) :
    Own B w' a n c (xs.take j ++ os ++ xs.drop (j + m)) := by
  have hol := h'.sl.len
  rcases h.sl.at_ with ⟨h2, _⟩ | ⟨b, off, rfl, hc⟩
  · omega
  have ha : (some (⟨b, off, none⟩ : Addr)).map (·.add j) = some ⟨b, off + j, none⟩ := by
    simp only [Option.map_some, Addr.add]
    split
    · rename_i h0; subst h0; rfl
    · rfl
  rw [ha] at h' ho
  have hlen : (xs.take j ++ os ++ xs.drop (j + m)).length = n := by
    rw [List.length_append, List.length_append, List.length_take, List.length_drop, h.sl.len, hol]; omega
  refine ⟨⟨hlen, h.sl.cap, h.sl.big, ((h.sl.bd.take j).append h'.sl.bd).append (h.sl.bd.drop _), .inr ⟨b, off, rfl, fun i hi => ?_⟩⟩, ?_⟩
  · by_cases h1 : i < j
    · rw [ho _ (fun b' off' k e hk e2 => by cases e; injection e2 with e3 e4; omega), hc i hi]
      congr 3
      rw [List.getD_eq_getElem?_getD, List.getD_eq_getElem?_getD, List.append_assoc, List.getElem?_append_left (by rw [List.length_take, h.sl.len]; omega), List.getElem?_take, if_pos h1]
    · by_cases h2 : i < j + m
      · rcases h'.sl.at_ with ⟨h3, _⟩ | ⟨b', off', h3, hc'⟩
        · omega
        · cases h3
          have := hc' (i - j) (by omega)
          rw [show off + j + (i - j) = off + i by omega] at this
          rw [this]
          congr 3
          rw [List.getD_eq_getElem?_getD, List.getD_eq_getElem?_getD, List.getElem?_append_left (by rw [List.length_append, List.length_take, h.sl.len, hol]; omega), List.getElem?_append_right (by rw [List.length_take, h.sl.len]; omega), List.length_take, h.sl.len, Nat.min_eq_left (by omega)]
      · rw [ho _ (fun b' off' k e hk e2 => by cases e; injection e2 with e3 e4; omega), hc i hi]
        congr 3
        rw [List.getD_eq_getElem?_getD, List.getD_eq_getElem?_getD, List.getElem?_append_right (by rw [List.length_append, List.length_take, h.sl.len, hol]; omega), List.length_append, List.length_take, h.sl.len, hol, Nat.min_eq_left (by omega), List.getElem?_drop]
        congr 2
        omega
  · rcases h'.row with h3 | ⟨b', off', cur, e, h3, hB, hh⟩
    · cases h3
    · cases h3
      exact .inr ⟨b, off, cur, e, rfl, hB, hh⟩

/-- 'a[j:h:h]'. -/
theorem sliceAt_mid {P : Program} {T E : TypeId} {i : TypeInfo} (hT : P.underlying T = some (.slice E)) (hi : P.info? E = some i) (hs : i.size = 1) (a : Option Addr) (n c j h : Nat) (hjh : j < h) (hh : h ≤ c) (w : World) :
    (Instr.sliceAt T (.slice a n c) (some (.int .i64 (j : Int))) (some (.int .i64 (h : Int))) (some (.int .i64 (h : Int)))).run P w = .ok (.slice (a.map (·.add j)) (h - j) (h - j)) w := by
  have hr := run_sizeOf hi w
  rw [hs] at hr
  have h1 : (0 : Int) ≤ (h : Int) ∧ (h : Int) ≤ (c : Int) := ⟨by omega, by omega⟩
  have h2 : (0 : Int) ≤ (j : Int) ∧ (j : Int) ≤ (h : Int) := ⟨by omega, by omega⟩
  have h3 : j ≤ h := by omega
  have h4 : ¬ h = j := by omega
  simp [Instr.sliceAt, Instr.slice, run_underlying hT, Instr.sliceBounds, Instr.sliceBound, asIntOf, hh, hr, h3, h4]

/-! What is left, digit by digit. -/

/-- A row whose value is below a place has nothing from there on. -/
theorem nv_take_of_lt {b : Nat} {xs : List Nat} {n : Nat} (h : nv b xs < b ^ n) : nv b (xs.take n) = nv b xs := by
  by_cases hn : n ≤ xs.length
  · have e := nv_take_drop b xs n hn
    have hz : nv b (xs.drop n) = 0 := by
      rcases Nat.eq_zero_or_pos (nv b (xs.drop n)) with h0 | h0
      · exact h0
      · exfalso
        have h2 : b ^ n * 1 ≤ b ^ n * nv b (xs.drop n) := Nat.mul_le_mul_left _ h0
        omega
    rw [hz, Nat.mul_zero, Nat.add_zero] at e
    exact e.symm
  · rw [List.take_of_length_le (by omega)]
/-- The value of a row from place n on. -/
theorem nv_drop_div {b : Nat} {xs : List Nat} (n : Nat) (hx : Bd b xs) (hn : n ≤ xs.length) : nv b (xs.drop n) = nv b xs / b ^ n := by
  have e := nv_take_drop b xs n hn
  have h := nv_lt (hx.take n)
  rw [List.length_take, Nat.min_eq_left hn] at h
  exact (div_unique (by rw [e]; exact Nat.add_comm _ _) h).1

/-- The digit that is guessed is the quotient's, or one more. -/
theorem guess_good {S Y P n : Nat} (hP : P = B64 ^ n) (hY : B64 * P ≤ Y) (hS : S < B64 * Y) :
    S / Y ≤ guessG (S / P) (Y / P) ∧ guessG (S / P) (Y / P) ≤ S / Y + 1 ∧ guessG (S / P) (Y / P) < B64 := by
  have hb := B64_pos
  have hPp : 0 < P := by rw [hP]; exact Nat.pow_pos hb
  have hYp : 0 < Y := Nat.lt_of_lt_of_le (Nat.mul_pos hb hPp) hY
  have hV : B64 ≤ Y / P := (Nat.le_div_iff_mul_le hPp).2 hY
  have hTd := Nat.div_add_mod S P
  have hVd := Nat.div_add_mod Y P
  have hTm := Nat.mod_lt S hPp
  have hVm := Nat.mod_lt Y hPp
  have hTV : S / P / (Y / P) ≤ Y / P := by
    refine Nat.le_trans ?_ hV
    apply Nat.le_of_lt_succ
    rw [Nat.div_lt_iff_lt_mul (by omega), Nat.div_lt_iff_lt_mul hPp]
    refine Nat.lt_of_lt_of_le hS ?_
    have h1 : B64 * Y ≤ B64 * ((Y / P + 1) * P) := Nat.mul_le_mul_left _ (by rw [Nat.add_mul, Nat.mul_comm (Y / P)]; omega)
    refine Nat.le_trans h1 ?_
    rw [← Nat.mul_assoc]
    refine Nat.mul_le_mul_right P ?_
    rw [Nat.succ_mul, Nat.mul_add, Nat.mul_one]
    omega
  have hg := guess_bounds (P := P) (T := S / P) (V := Y / P) (a := S) (d := Y) (lo := S % P) (lo' := Y % P) (by rw [Nat.mul_comm]; exact hTd.symm) hTm (by rw [Nat.mul_comm]; exact hVd.symm) hVm (by omega) hTV hPp
  have hq : S / Y < B64 := by rw [Nat.div_lt_iff_lt_mul hYp]; exact hS
  unfold guessG
  omega

theorem nv_drop_getD (b : Nat) (xs : List Nat) (k : Nat) : nv b (xs.drop k) = xs.getD k 0 + b * nv b (xs.drop (k + 1)) := by
  by_cases hk : k < xs.length
  · exact nv_drop_succ b xs k hk
  · rw [List.drop_of_length_le (by omega), List.drop_of_length_le (by omega), getD_of_ge (by omega)]; simp
theorem getD_seg (xs : List Nat) (j m i : Nat) (h : i < m) : ((xs.drop j).take m).getD i 0 = xs.getD (j + i) 0 := by
  rw [List.getD_eq_getElem?_getD, List.getD_eq_getElem?_getD, List.getElem?_take, if_pos h, List.getElem?_drop]

/-- What holds of the shifted divisor and the shifted number ahead of the loop. -/
theorem long_setup {us vs R0 : List Nat} {A n s v : Nat} (hu : us.length = A) (hv : vs.length = n) (bu : Bd B64 us) (bv : Bd B64 vs) (bR : Bd B64 R0) (hR : R0.length = A + 1) (hn : 2 ≤ n) (hnA : n ≤ A) (hvv : vs.getD (n - 1) 0 = v) (hv0 : v ≠ 0)
    (hs : s < 64) (ht : v * 2 ^ s < B64) (hR0 : val R0 = val us * 2 ^ s) :
    val vs * 2 ^ s < B64 ^ n ∧ B64 * B64 ^ (n - 2) ≤ val vs * 2 ^ s ∧ nv B64 (R0.drop (A - n + 1)) < val vs * 2 ^ s := by
  have hb := B64_pos
  have hps : 0 < 2 ^ s := Nat.two_pow_pos s
  have e1 : n = (n - 1) + 1 := by omega
  have e2 : val vs = nv B64 (vs.take (n - 1)) + B64 ^ (n - 1) * v := by
    have := nv_take_succ' B64 vs (n - 1)
    rw [← e1, List.take_of_length_le (by omega), hvv] at this
    exact this
  have h1 := nv_lt (bv.take (n - 1))
  rw [List.length_take, Nat.min_eq_left (by omega)] at h1
  have e3 : B64 = 2 ^ (64 - s) * 2 ^ s := by rw [← Nat.pow_add, show 64 - s + s = 64 by omega]; rfl
  have h2 : v < 2 ^ (64 - s) := by
    rw [e3] at ht
    exact Nat.lt_of_mul_lt_mul_right ht
  have h3 : (v + 1) * 2 ^ s ≤ B64 := by rw [e3]; exact Nat.mul_le_mul_right _ h2
  have hp : 0 < B64 ^ (n - 1) := Nat.pow_pos hb
  have hlow : B64 ^ (n - 1) ≤ val vs := by
    rw [e2]
    have : B64 ^ (n - 1) * 1 ≤ B64 ^ (n - 1) * v := Nat.mul_le_mul_left _ (by omega)
    omega
  refine ⟨?_, ?_, ?_⟩
  · have h4 : val vs < B64 ^ (n - 1) * (v + 1) := by rw [e2, Nat.mul_add]; omega
    have h5 : val vs * 2 ^ s < B64 ^ (n - 1) * (v + 1) * 2 ^ s := Nat.mul_lt_mul_of_pos_right h4 hps
    have h6 : B64 ^ (n - 1) * (v + 1) * 2 ^ s ≤ B64 ^ (n - 1) * B64 := by rw [Nat.mul_assoc]; exact Nat.mul_le_mul_left _ h3
    have e4 : B64 ^ n = B64 ^ (n - 1) * B64 := by conv => lhs; rw [e1, Nat.pow_succ]
    omega
  · have e5 : B64 * B64 ^ (n - 2) = B64 ^ (n - 1) := by rw [Nat.mul_comm, ← Nat.pow_succ]; congr 1; omega
    rw [e5]
    refine Nat.le_trans hlow ?_
    exact Nat.le_mul_of_pos_right _ hps
  · rw [nv_drop_div _ bR (by omega)]
    have hX := nv_lt bu
    rw [hu] at hX
    rw [Nat.div_lt_iff_lt_mul (Nat.pow_pos hb)]
    have h7 : nv B64 R0 = val us * 2 ^ s := hR0
    rw [h7]
    have h8 : val us * 2 ^ s < B64 ^ A * 2 ^ s := Nat.mul_lt_mul_of_pos_right hX hps
    have e6 : B64 ^ A = B64 ^ (n - 1) * B64 ^ (A - n + 1) := by rw [← Nat.pow_add]; congr 1; omega
    have h9 : B64 ^ (n - 1) * B64 ^ (A - n + 1) * 2 ^ s ≤ val vs * 2 ^ s * B64 ^ (A - n + 1) := by
      rw [Nat.mul_assoc, Nat.mul_comm (B64 ^ (A - n + 1)), ← Nat.mul_assoc]
      exact Nat.mul_le_mul_right _ (Nat.mul_le_mul_right _ hlow)
    rw [e6] at h8
    omega

/-- One digit: the three highest limbs, the two of the divisor, the quotient. -/
theorem long_digit {rs bs : List Nat} {A n j D : Nat} (hr : rs.length = A + 1) (hb : bs.length = n) (br : Bd B64 rs) (bb : Bd B64 bs) (hn : 2 ≤ n) (hj : j + n ≤ A) (hD : nv B64 bs = D) (hDn : D < B64 ^ n) (hlow : B64 * B64 ^ (n - 2) ≤ D)
    (hrem : nv B64 (rs.drop (j + 1)) < D) :
    nv B64 ((rs.drop j).take (n + 1)) = nv B64 (rs.drop j) ∧ nv B64 (rs.drop j) < B64 * D ∧
      (rs.getD (j + n) 0 * B64 + rs.getD (j + n - 1) 0) * B64 + rs.getD (j + n - 2) 0 = nv B64 (rs.drop j) / B64 ^ (n - 2) ∧ bs.getD (n - 1) 0 * B64 + bs.getD (n - 2) 0 = D / B64 ^ (n - 2) ∧
      rs.getD (j + n) 0 ≤ bs.getD (n - 1) 0 ∧ 0 < bs.getD (n - 1) 0 ∧ nv B64 (rs.drop (j + n + 1)) = 0 := by
  have hbp := B64_pos
  have hS : nv B64 (rs.drop j) < B64 * D := by
    rw [nv_drop_getD]
    have h1 := br.getD hbp j
    have h2 : B64 * (nv B64 (rs.drop (j + 1)) + 1) ≤ B64 * D := Nat.mul_le_mul_left _ hrem
    rw [Nat.mul_add] at h2
    omega
  have hSn : nv B64 (rs.drop j) < B64 ^ (n + 1) := by
    refine Nat.lt_of_lt_of_le hS ?_
    rw [Nat.pow_succ, Nat.mul_comm]
    exact Nat.mul_le_mul_right _ (Nat.le_of_lt hDn)
  have hseg := nv_take_of_lt hSn
  have hsl : ((rs.drop j).take (n + 1)).length = n + 1 := by rw [List.length_take, List.length_drop, hr]; omega
  have hT := nv_drop_div (n - 2) ((br.drop j).take (n + 1)) (by omega)
  have hV := nv_drop_div (n - 2) bb (by omega)
  have hT2 := nv_drop_div n ((br.drop j).take (n + 1)) (by omega)
  have hV2 := nv_drop_div (n - 1) bb (by omega)
  rw [hseg] at hT hT2
  rw [hD] at hV hV2
  have d3 : nv B64 (((rs.drop j).take (n + 1)).drop (n + 1)) = 0 := by rw [List.drop_of_length_le (by omega)]; rfl
  have d0 := nv_drop_getD B64 ((rs.drop j).take (n + 1)) n
  have d1 := nv_drop_getD B64 ((rs.drop j).take (n + 1)) (n - 1)
  have d2 := nv_drop_getD B64 ((rs.drop j).take (n + 1)) (n - 2)
  rw [show n - 1 + 1 = n by omega] at d1
  rw [show n - 2 + 1 = n - 1 by omega] at d2
  rw [getD_seg _ _ _ _ (by omega)] at d0 d1 d2
  rw [d3] at d0
  replace d0 : nv B64 (((rs.drop j).take (n + 1)).drop n) = rs.getD (j + n) 0 := d0
  have f1 := nv_drop_getD B64 bs (n - 1)
  have f2 := nv_drop_getD B64 bs (n - 2)
  have f3 : nv B64 (bs.drop n) = 0 := by rw [List.drop_of_length_le (by omega)]; rfl
  rw [show n - 1 + 1 = n by omega, f3, Nat.mul_zero, Nat.add_zero] at f1
  rw [show n - 2 + 1 = n - 1 by omega] at f2
  rw [d0] at d1 hT2
  rw [d1] at d2
  rw [f1] at f2 hV2
  rw [show j + (n - 1) = j + n - 1 by omega] at d2
  rw [show j + (n - 2) = j + n - 2 by omega] at d2
  refine ⟨hseg, hS, ?_, ?_, ?_, ?_, ?_⟩
  · rw [← hT, d2, Nat.add_mul, Nat.mul_comm B64, Nat.add_mul, Nat.mul_comm B64 (rs.getD (j + n) 0)]; omega
  · rw [← hV, f2, Nat.mul_comm B64]; omega
  · rw [hT2, hV2]
    apply Nat.le_of_lt_succ
    rw [Nat.div_lt_iff_lt_mul (Nat.pow_pos hbp)]
    have e4 : B64 ^ n = B64 ^ (n - 1) * B64 := by conv => lhs; rw [show n = (n - 1) + 1 by omega, Nat.pow_succ]
    have h1 := Nat.div_add_mod D (B64 ^ (n - 1))
    have h2 := Nat.mod_lt D (Nat.pow_pos hbp : 0 < B64 ^ (n - 1))
    have h3 : B64 * D ≤ B64 * (B64 ^ (n - 1) * (D / B64 ^ (n - 1) + 1)) := Nat.mul_le_mul_left _ (by rw [Nat.mul_add]; omega)
    have h4 : B64 * (B64 ^ (n - 1) * (D / B64 ^ (n - 1) + 1)) = (D / B64 ^ (n - 1)).succ * B64 ^ n := by
      rw [e4, Nat.succ_eq_add_one, ← Nat.mul_assoc, Nat.mul_comm B64, Nat.mul_comm]
    omega
  · rw [hV2]
    have e5 : B64 * B64 ^ (n - 2) = B64 ^ (n - 1) := by rw [Nat.mul_comm, ← Nat.pow_succ]; congr 1; omega
    rw [e5] at hlow
    exact Nat.div_pos hlow (Nat.pow_pos hbp)
  · have e := nv_take_drop B64 (rs.drop j) (n + 1) (by rw [List.length_drop, hr]; omega)
    rw [hseg, List.drop_drop] at e
    have hz : B64 ^ (n + 1) * nv B64 (rs.drop (j + (n + 1))) = 0 := by omega
    rcases Nat.mul_eq_zero.1 hz with h | h
    · have := Nat.pow_pos (n := n + 1) hbp; omega
    · exact h

/-- What is left behind the digit. -/
theorem long_next {rs os ns R0 : List Nat} {j m D O q S : Nat} (hS : nv B64 (rs.drop j) = S) (hos : nv B64 ns = S - q * D) (hq : S / D = q) (hD : 0 < D) (hz : nv B64 (rs.drop (j + m)) = 0)
    (hj : j < os.length) (hO : nv B64 (os.drop (j + 1)) = O) (htk : rs.take (j + 1) = R0.take (j + 1)) (hjr2 : j < rs.length) (h : O * D + nv B64 (rs.drop (j + 1)) = nv B64 (R0.drop (j + 1))) :
    (rs.take j ++ ns ++ rs.drop (j + m)).take j = R0.take j ∧ nv B64 ((rs.take j ++ ns ++ rs.drop (j + m)).drop j) < D ∧
      nv B64 ((os.set j q).drop j) * D + nv B64 ((rs.take j ++ ns ++ rs.drop (j + m)).drop j) = nv B64 (R0.drop j) := by
  have hl : (rs.take j).length = j := by rw [List.length_take]; omega
  have e1 : (rs.take j ++ ns ++ rs.drop (j + m)).take j = rs.take j := by
    rw [List.append_assoc, List.take_append_of_le_length (by omega), List.take_of_length_le (by omega)]
  have e2 : (rs.take j ++ ns ++ rs.drop (j + m)).drop j = ns ++ rs.drop (j + m) := by
    rw [List.append_assoc, List.drop_append_of_le_length (by omega), List.drop_of_length_le (by omega), List.nil_append]
  have e3 : nv B64 (ns ++ rs.drop (j + m)) = S % D := by
    rw [nv_append, hz, Nat.mul_zero, Nat.add_zero, hos]
    have := Nat.div_add_mod S D
    rw [hq, Nat.mul_comm] at this
    omega
  have e4 : rs.getD j 0 = R0.getD j 0 := by
    have := congrArg (fun l => l.getD j 0) htk
    simpa [List.getD_eq_getElem?_getD, List.getElem?_take] using this
  refine ⟨?_, ?_, ?_⟩
  · rw [e1]
    have := congrArg (List.take j) htk
    rwa [List.take_take, List.take_take, Nat.min_eq_left (by omega)] at this
  · rw [e2, e3]; exact Nat.mod_lt _ hD
  · rw [e2, e3, drop_set_self _ _ _ hj, nv_cons, hO, nv_drop_getD B64 R0 j, ← h, ← e4]
    have h1 := nv_drop_getD B64 rs j
    rw [hS] at h1
    have h2 := Nat.div_add_mod S D
    rw [hq, Nat.mul_comm] at h2
    rw [Nat.add_mul, Nat.mul_add, Nat.mul_assoc]
    omega

end Go.Proofs.YtimcnhlcepemjaaGreatDoor

/- nat.long: a quotient by two limbs or more. -/
namespace Go.Proofs.YtimcnhlcepemjaaGreatDoor
open Go.RowKit

theorem Own.some_ {B : Nat} {w : World} {a : Option Addr} {n c : Nat} {xs : List Nat} (h : Own B w a n c xs) (hn : 0 < n) : ∃ b off, a = some ⟨b, off, none⟩ ∧ B ≤ b ∧ b < w.heap.size := by
  rcases h.sl.at_ with ⟨h0, _⟩ | ⟨b, off, h0, _⟩
  · omega
  · subst h0
    have := h.ge b rfl
    exact ⟨b, off, rfl, this.1, this.2⟩
theorem Own.ne {B1 B2 : Nat} {w1 w2 : World} {a b : Option Addr} {n c m d : Nat} {xs ys : List Nat} (h : Own B1 w1 a n c xs) (hn : 0 < n) (k : Own B2 w2 b m d ys) (hm : 0 < m) (hB : w1.heap.size ≤ B2) : blk b ≠ blk a := by
  obtain ⟨b1, o1, rfl, _, h2⟩ := h.some_ hn
  obtain ⟨b2, o2, rfl, h3, _⟩ := k.some_ hm
  intro e
  have : b2 = b1 := Option.some.inj e
  omega

/-- What the loop keeps. -/
def LongRel (B : Nat) (w : World) (ro oo bo : Option Addr) (A n D : Nat) (R0 bs : List Nat) (iv : Value) (wr : World) : Prop :=
  ∃ (k : Nat) (rs os : List Nat), k ≤ A - n + 1 ∧ iv = .int .i64 ((k : Int) - 1) ∧ Own B wr ro (A + 1) (A + 1) rs ∧ Own B wr oo (A - n + 1) (A - n + 1) os ∧ Own B wr bo n n bs ∧ Below B w wr ∧
    rs.take k = R0.take k ∧ nv B64 (rs.drop k) < D ∧ nv B64 (os.drop k) * D + nv B64 (rs.drop k) = nv B64 (R0.drop k)

theorem long_fin {O R X Y P : Nat} (hP : 0 < P) (h : O * (Y * P) + R = X * P) (hr : R < Y * P) : O = X / Y ∧ R / P = X % Y := by
  have h1 := div_unique (b := Y * P) (q := O) (r := R) (a := X * P) (by rw [← h, Nat.mul_comm]) hr
  rw [Nat.mul_div_mul_right _ _ hP, Nat.mul_mod_mul_right] at h1
  exact ⟨h1.1, by rw [h1.2, Nat.mul_div_cancel _ hP]⟩

/-- The quotient and the rest, each in a block of its own. -/
def LongRes (w : World) (A X Y : Nat) (e : Ending) (w' : World) : Prop :=
  ∃ a1 c1 L1 a2 c2 L2, e = .returned (.tuple #[.slice a1 L1 c1, .slice a2 L2 c2]) ∧ Own w.heap.size w' a1 L1 c1 (lim (X / Y)) ∧ Own w.heap.size w' a2 L2 c2 (lim (X % Y)) ∧ Ext w w' ∧ L1 ≤ A ∧ L2 ≤ A + 1 ∧ (L1 = 0 ∨ L2 = 0 ∨ blk a1 ≠ blk a2)

set_option maxHeartbeats 8000000 in
set_option maxRecDepth 100000 in
theorem long_calls {a b : Option Addr} {A n c d : Nat} {us vs : List Nat} {w : World} (ha : Sl w a A c us) (hb : Sl w b n d vs) (hA : A ≤ 900000000) (hn : 2 ≤ n) (hnA : n ≤ A) (htop : vs.getD (n - 1) 0 ≠ 0) :
    Calls Tryz.prog 112 #[.slice a A c, .slice b n d] w (LongRes w A (val us) (val vs)) := by
  obtain ⟨i0, hi, hz0, hs, hby⟩ := info_parts info64
  have H1 := Lib.hid hi; have H2 := Lib.hid hz0; have H3 := Lib.hid hs; have H4 := Lib.hid hby
  clear hi hz0 hs hby
  obtain ⟨bb, ob, hixb, hcb, -⟩ := hb.ix (P := Tryz.prog) Tryz.underlying33 H1.out H3.out
  have x1 := hixb (n - 1) (by omega)
  have x2 := hcb (n - 1) (by omega)
  rw [show ((n - 1 : Nat) : Int) = (n : Int) - 1 by omega] at x1
  have q1 := hb.bd.getD B64_pos (n - 1)
  clear hixb hcb
  obtain ⟨v, hv⟩ : ∃ v, vs.getD (n - 1) 0 = v := ⟨_, rfl⟩
  rw [hv] at x2 q1 htop
  have HVV := Lib.hid hv
  have CL := Lib.hid (fun w => lead_calls v q1 w)
  have hs := lead_lt htop
  have HT := Lib.hid (lead_top htop q1)
  generalize lead v = s at *
  have HTOP := Lib.hid htop
  have CA := Lib.hid (left_calls ha (by omega) s hs)
  clear hv htop
  have hbig1 := ha.big
  have hbig2 := hb.big
  have hcap1 := ha.cap
  have hcap2 := hb.cap
  go_enter Tryz.func112, Tryz.ntmps112
  go_wp2_with fail
  refine (CL.out _).mono ?_
  rintro e w' ⟨rfl, rfl⟩
  go_wp2_with fail
  refine CA.out.mono ?_
  rintro e w1 ⟨ro, R0, hR0, rfl, hro, hext1⟩
  go_wp2_with fail
  refine (left_calls (hb.old hext1) (by omega) s hs).mono ?_
  rintro e w2 ⟨bo, bs', hbs, rfl, hbo', hext2⟩
  have hsl := sliceAt_head (P := Tryz.prog) Tryz.underlying33 H1.out bo (n + 1) (n + 1) n (by omega)
  have HR0 := Lib.hid hR0
  have HBS := Lib.hid hbs
  clear hR0 hbs
  go_wp2_with (at_make; refine make_sl _ rfl _ _ _ rfl _ _ Tryz.underlying33 H1.out H2.out H3.out H4.out _ _ rfl rfl (A - n + 1) (by omega) (by omega) (by omega) ?_)
  intro oo w3 hoo hext3
  clear hsl x1 x2
  have hbo := (hbo'.head n n (by omega) (Nat.le_refl _) (by omega)).old hext3
  have hro2 := (hro.old hext2).old hext3
  have hN1 := hro.ne (by omega) hbo' (by omega) (Nat.le_refl _)
  have hN2 := hbo'.ne (by omega) hoo (by omega) (Nat.le_refl _)
  have hN3 := (hro.old hext2).ne (by omega) hoo (by omega) (Nat.le_refl _)
  have HN1 := Lib.hid hN1; have HN2 := Lib.hid hN2; have HN3 := Lib.hid hN3
  clear hN1 hN2 hN3
  have hset := long_setup ha.len hb.len ha.bd hb.bd hro.sl.bd hro.sl.len hn hnA HVV.out HTOP.out hs HT.out.1 HR0.out
  have hDval : nv B64 (bs'.take n) = val vs * 2 ^ s := by
    rw [nv_take_of_lt (by have := hset.1; rw [← HBS.out] at this; exact this)]; exact HBS.out
  have hRL := hro.sl.len
  have hBL : (bs'.take n).length = n := by rw [List.length_take, hbo'.sl.len]; omega
  generalize bs'.take n = bs at *
  obtain ⟨D, hD⟩ : ∃ D, val vs * 2 ^ s = D := ⟨_, rfl⟩
  rw [hD] at hset hDval
  have HD := Lib.hid hD; have HSET := Lib.hid hset; have HDV := Lib.hid hDval; have HRL := Lib.hid hRL; have HBL := Lib.hid hBL
  have hsz1 := hext1.size; have hsz2 := hext2.size; have hsz3 := hext3.size
  have hbel : Below w.heap.size w w3 := (hext1.trans hext2).trans hext3
  clear hD hset hDval hRL hBL
  go_wp2_with fail
  go_loopw [11] (fun iv wr => LongRel w.heap.size w ro oo bo A n D R0 bs iv wr) (fun iv _ => (intOf iv + 1).toNat)
  case atStart =>
    refine ⟨A - n + 1, R0, _, Nat.le_refl _, by go_num, hro2, hoo.mono (by omega), hbo.mono (by omega), hbel, rfl, HSET.out.2.2, ?_⟩
    rw [List.drop_of_length_le (by simp)]; simp
  case round =>
    obtain ⟨k, rs, os, hk, rfl, hr, ho, hbw, hbe, htk, hrem, hval⟩ := hrel
    have HTK := Lib.hid htk; have HREM := Lib.hid hrem; have HV := Lib.hid hval
    clear htk hrem hval
    by_cases hk0 : k = 0
    · subst hk0
      have hfin := long_fin (O := val os) (R := val rs) (X := val us) (Y := val vs) (P := 2 ^ s) (Nat.two_pow_pos s) (by have := HV.out; simp only [List.drop_zero] at this; rw [← HD.out] at this; rw [← HR0.out]; exact this) (by have := HREM.out; simp only [List.drop_zero] at this; rw [← HD.out] at this; exact this)
      have HF1 := Lib.hid hfin.1
      have HF2 := Lib.hid hfin.2
      clear hfin
      have CT1 := Lib.hid (trimmed_calls ho.sl)
      have CT2 := Lib.hid (trimmed_calls hr.sl)
      have hrl := hr.sl.trimmed_len
      have hol := ho.sl.trimmed_len
      have CR := Lib.hid (right_calls hr.trimmed (by omega) s hs)
      go_wp2_with fail
      refine CT1.out.mono ?_
      rintro e w' ⟨rfl, rfl⟩
      go_wp2_with fail
      refine CT2.out.mono ?_
      rintro e w' ⟨rfl, rfl⟩
      go_wp2_with fail
      refine CR.out.mono ?_
      rintro e w7 ⟨rfl, hown7, hgr7⟩
      go_wp2_with fail
      go_ret2
      have ho7 := ho.trimmed.grown hgr7 (.inr HN3.out)
      rw [HF1.out] at ho7 hol
      rw [val_lim, HF2.out] at hown7
      have hle7 : (lim (val us % val vs)).length ≤ A + 1 := by
        refine Nat.le_trans (digs_len_mono B64_two (Nat.mod_le _ _)) ?_
        have := ha.trimmed_len
        exact Nat.le_trans this (by omega)
      refine ⟨oo, _, _, ro, _, _, ?_, ho7, hown7, ?_, by omega, hle7, .inr (.inr HN3.out)⟩
      · rw [val_lim, HF1.out, HF2.out]; rfl
      · exact Below.grown hbe hgr7 hbe.size (fun k hk => (hr.ge k hk).1)
    · obtain ⟨j, rfl⟩ : ∃ j, k = j + 1 := ⟨k - 1, by omega⟩
      rw [show ((j + 1 : Nat) : Int) - 1 = (j : Int) by omega]
      have hj0 : (0 : Int) ≤ (j : Int) := by omega
      have HDG := Lib.hid (long_digit hr.sl.len HBL.out hr.sl.bd hbw.sl.bd hn (by omega : j + n ≤ A) HDV.out HSET.out.1 HSET.out.2.1 HREM.out)
      obtain ⟨br, orr, hixr, hcr, har⟩ := hr.sl.ix (P := Tryz.prog) Tryz.underlying33 H1.out H3.out
      obtain ⟨bb2, ob2, hixb, hcb, hab⟩ := hbw.sl.ix (P := Tryz.prog) Tryz.underlying33 H1.out H3.out
      have x1 := hixr (j + n) (by omega)
      have x2 := hcr (j + n) (by omega)
      have x3 := hixr (j + n - 1) (by omega)
      have x4 := hcr (j + n - 1) (by omega)
      have x5 := hixr (j + n - 2) (by omega)
      have x6 := hcr (j + n - 2) (by omega)
      have x7 := hixb (n - 1) (by omega)
      have x8 := hcb (n - 1) (by omega)
      have x9 := hixb (n - 2) (by omega)
      have x10 := hcb (n - 2) (by omega)
      rw [show ((j + n : Nat) : Int) = (j : Int) + (n : Int) by omega] at x1
      rw [show ((j + n - 1 : Nat) : Int) = (j : Int) + (n : Int) - 1 by omega] at x3
      rw [show ((j + n - 2 : Nat) : Int) = (j : Int) + (n : Int) - 2 by omega] at x5
      rw [show ((n - 1 : Nat) : Int) = (n : Int) - 1 by omega] at x7
      rw [show ((n - 2 : Nat) : Int) = (n : Int) - 2 by omega] at x9
      have p0 := hr.sl.bd.getD B64_pos (j + n)
      have p1 := hr.sl.bd.getD B64_pos (j + n - 1)
      have p2 := hr.sl.bd.getD B64_pos (j + n - 2)
      have p3 := hbw.sl.bd.getD B64_pos (n - 1)
      have p4 := hbw.sl.bd.getD B64_pos (n - 2)
      clear hixr hcr hixb hcb har hab hk0
      obtain ⟨t0, ht0⟩ : ∃ t0, rs.getD (j + n) 0 = t0 := ⟨_, rfl⟩
      obtain ⟨t1, ht1⟩ : ∃ t1, rs.getD (j + n - 1) 0 = t1 := ⟨_, rfl⟩
      obtain ⟨t2, ht2⟩ : ∃ t2, rs.getD (j + n - 2) 0 = t2 := ⟨_, rfl⟩
      obtain ⟨b0, hb0⟩ : ∃ b0, bs.getD (n - 1) 0 = b0 := ⟨_, rfl⟩
      obtain ⟨b1, hb1⟩ : ∃ b1, bs.getD (n - 2) 0 = b1 := ⟨_, rfl⟩
      rw [ht0] at x2 p0 HDG
      rw [ht1] at x4 p1 HDG
      rw [ht2] at x6 p2 HDG
      rw [hb0] at x8 p3 HDG
      rw [hb1] at x10 p4 HDG
      clear ht0 ht1 ht2 hb0 hb1
      have hbr : br < wr.heap.size := World.block_lt_of_cell? wr _ x2
      have hbb : bb2 < wr.heap.size := World.block_lt_of_cell? wr _ x8
      go_wp2_with fail
      have HGG := Lib.hid (guess_good (S := nv B64 (rs.drop j)) (Y := D) (n := n - 2) rfl HSET.out.2.1 HDG.out.2.1)
      have HT3 := Lib.hid HDG.out.2.2.1
      have HV2 := Lib.hid HDG.out.2.2.2.1
      have HDp := Lib.hid (show 0 < D from Nat.lt_of_le_of_lt (Nat.zero_le _) HREM.out)
      obtain ⟨q, hq⟩ : ∃ q, nv B64 (rs.drop j) / D = q := ⟨_, rfl⟩
      rw [hq] at HGG
      have HQ := Lib.hid hq
      obtain ⟨G, hG⟩ : ∃ G, guessG (nv B64 (rs.drop j) / B64 ^ (n - 2)) (D / B64 ^ (n - 2)) = G := ⟨_, rfl⟩
      rw [hG] at HGG
      have hGb := HGG.out.2.2
      have hqb : q < B64 := by have := HGG.out; omega
      have cg := fun w => guess_calls t0 t1 t2 b0 b1 p1 p2 p3 p4 HDG.out.2.2.2.2.1 HDG.out.2.2.2.2.2.1 w
      rw [HT3.out, HV2.out, hG] at cg
      have CG := Lib.hid cg
      clear hq hG cg
      obtain ⟨ra, hra⟩ : ∃ ra, ro.map (·.add j) = ra := ⟨_, rfl⟩
      have HBLK : Hid (blk ra = blk ro) := by rw [← hra]; exact map_add_blk ro j
      have hsl := sliceAt_mid (P := Tryz.prog) Tryz.underlying33 H1.out H3.out ro (A + 1) (A + 1) j (j + n + 1) (by omega) (by omega)
      rw [hra, show j + n + 1 - j = n + 1 by omega, show ((j + n + 1 : Nat) : Int) = (j : Int) + (n : Int) + 1 by omega] at hsl
      have HRA := Lib.hid hra
      clear hra
      go_wp2_with fail
      go_region
      go_wp2_with fail
      obtain ⟨W1, hW1⟩ : ∃ W1, (wr.alloc (.cells #[.int .u64 (t0 : Int), .int .u64 (t1 : Int), .int .u64 (t2 : Int)] 161)).drew = W1 := ⟨_, rfl⟩
      have hext1 : Ext wr W1 := by rw [← hW1]; exact ((Ext.refl wr).alloc _).drew
      have hrow : W1.heap[wr.heap.size]? = some (.cells #[.int .u64 (t0 : Int), .int .u64 (t1 : Int), .int .u64 (t2 : Int)] 161 (0, 0)) := by rw [← hW1]; exact heap_alloc_new wr _
      have z0 : W1.cell? ⟨wr.heap.size, 0, none⟩ = some (.int .u64 (t0 : Int)) := by rw [cell_of_row _ _ _ _ _ _ hrow]; rfl
      have z1 : W1.cell? ⟨wr.heap.size, 1, none⟩ = some (.int .u64 (t1 : Int)) := by rw [cell_of_row _ _ _ _ _ _ hrow]; rfl
      have z2 : W1.cell? ⟨wr.heap.size, 2, none⟩ = some (.int .u64 (t2 : Int)) := by rw [cell_of_row _ _ _ _ _ _ hrow]; rfl
      have z3 := hext1.cell x8
      have z4 := hext1.cell x10
      have hS : ∀ w', Ext W1 w' → w'.cell? ⟨wr.heap.size, 0, none⟩ = some (.int .u64 (t0 : Int)) ∧ w'.cell? ⟨wr.heap.size, 1, none⟩ = some (.int .u64 (t1 : Int)) ∧ w'.cell? ⟨wr.heap.size, 2, none⟩ = some (.int .u64 (t2 : Int)) ∧
          w'.cell? ⟨bb2, ob2 + (n - 1), none⟩ = some (.int .u64 (b0 : Int)) ∧ w'.cell? ⟨bb2, ob2 + (n - 2), none⟩ = some (.int .u64 (b1 : Int)) :=
        fun w' h => ⟨h.cell z0, h.cell z1, h.cell z2, h.cell z3, h.cell z4⟩
      have HS1 := Lib.hid hS
      rw [hW1]
      have HW1 := Lib.hid hW1
      clear hS hW1 hrow z0 z1 z2 z3 z4
      have hwr1 : IntKind.i64.wrap ((n : Int) - 1) = (n : Int) - 1 := IntWalk.i64_in _ (by omega)
      have hwr2 : IntKind.i64.wrap ((n : Int) - 2) = (n : Int) - 2 := IntWalk.i64_in _ (by omega)
      go_region_held3 (fun w' => w'.cell? ⟨wr.heap.size, 0, none⟩ = some (.int .u64 (t0 : Int)) ∧ w'.cell? ⟨wr.heap.size, 1, none⟩ = some (.int .u64 (t1 : Int)) ∧ w'.cell? ⟨wr.heap.size, 2, none⟩ = some (.int .u64 (t2 : Int)) ∧
          w'.cell? ⟨bb2, ob2 + (n - 1), none⟩ = some (.int .u64 (b0 : Int)) ∧ w'.cell? ⟨bb2, ob2 + (n - 2), none⟩ = some (.int .u64 (b1 : Int)))
        (first | exact HS1.out _ (Ext.refl _) | exact HS1.out _ ((Ext.refl _).drew) | exact HS1.out _ (((Ext.refl _).drew).trans (by assumption)))
        (first | (go_at_call 143; refine (CG.out _).mono ?_; rintro e w5 ⟨rfl, hext5⟩))
      clear hwr1 hwr2
      go_wp2_with fail
      have hextr : Ext wr w5 := hext1.drew.trans hext5
      have hr5 := hr.old hextr
      have ho5 := ho.old hextr
      have hb5 := hbw.old hextr
      have hbe5 : Below w.heap.size w w5 := Below.trans hbe (Below.mono hextr hbe.size)
      have hseg := hr5.sub j (n + 1) (n + 1) (by omega) (Nat.le_refl _) (by omega)
      rw [HRA.out] at hseg
      have HSEG := Lib.hid HDG.out.1
      have hapt : n = 0 ∨ blk ra = none ∨ blk bo ≠ blk ra := .inr (.inr (by rw [HBLK.out]; exact HN1.out))
      have HAP := Lib.hid hapt
      clear x1 x2 x3 x4 x5 x6 x7 x8 x9 x10 hapt hbr hbb
      by_cases hle : G * D ≤ nv B64 (rs.drop j)
      · have hGq : G = q := by
          have h1 := HGG.out.1
          have h2 : G ≤ q := by rw [← HQ.out]; exact (Nat.le_div_iff_mul_le HDp.out).2 hle
          omega
        subst hGq
        have CT := Lib.hid (take_yes hseg hb5.sl HAP.out (by omega) G hGb (by show G * nv B64 bs ≤ nv B64 _; rw [HDV.out, HSEG.out]; exact hle))
        clear hle
        go_wp2_with fail
        refine CT.out.mono ?_
        rintro e w6 ⟨ns, rfl, hns, hown6, hgr6, honly6⟩
        have HNS : Hid (nv B64 ns = nv B64 (rs.drop j) - G * D) := by
          have h1 : nv B64 ns = nv B64 ((rs.drop j).take (n + 1)) - G * nv B64 bs := hns
          rw [HDV.out, HSEG.out] at h1; exact h1
        clear hns
        have hr6 := (hr5.splice j (n + 1) (by omega) (by omega) (HRA.out.symm ▸ hown6) (HRA.out.symm ▸ honly6))
        have hgr6' : w5.grownBy w6 (blk ro) := by rw [← HBLK.out]; exact hgr6
        have ho6 := ho5.grown hgr6' (.inr HN3.out)
        have hb6 := hb5.grown hgr6' (.inr HN1.out)
        have hbe6 : Below w.heap.size w w6 := Below.grown hbe5 hgr6' hbe5.size (fun k hk => (hr5.ge k hk).1)
        obtain ⟨bo6, oo6, hixo, hco, hao⟩ := ho6.sl.ix (P := Tryz.prog) Tryz.underlying33 H1.out H3.out
        have y1 := hixo j (by omega)
        have y2 := hco j (by omega)
        have y3 := ho6.free (hao (by omega)) (oo6 + j)
        have HO6 := Lib.hid (hao (by omega))
        clear hixo hco hao
        generalize os.getD j 0 = z at *
        have HS6 := Lib.hid (ho6.store HO6.out j G (by omega) hqb)
        have HNX := Lib.hid (long_next (m := n + 1) (os := os) (O := nv B64 (os.drop (j + 1))) rfl HNS.out HQ.out HDp.out (by have := HDG.out.2.2.2.2.2.2; exact this) (by rw [ho.sl.len]; omega) rfl HTK.out (by rw [hr.sl.len]; omega) HV.out)
        clear hsl
        go_wp2_with fail
        go_roundw
        case rel =>
          refine ⟨j, _, os.set j G, by omega, by go_num, hr6.grown HS6.out.2 (.inr (Ne.symm HN3.out)), HS6.out.1, hb6.grown HS6.out.2 (.inr (Ne.symm HN2.out)), ?_, HNX.out.1, HNX.out.2.1, HNX.out.2.2⟩
          exact Below.grown hbe6 HS6.out.2 hbe6.size (fun k hk => (ho6.ge k hk).1)
        case measure => simp [intOf]
      · have hGq : G = q + 1 := by
          have h1 := HGG.out
          have h2 : ¬ G ≤ q := by
            intro h
            apply hle
            have h3 := Nat.mul_le_mul_right D h
            have h4 := Nat.div_mul_le_self (nv B64 (rs.drop j)) D
            rw [HQ.out] at h4
            omega
          omega
        have hq2 : q * D ≤ nv B64 (rs.drop j) := by rw [← HQ.out]; exact Nat.div_mul_le_self _ _
        have hGI : (G : Int) - 1 = (q : Int) := by omega
        have hqI : (q : Int) < 18446744073709551616 := by have := B64_eq; omega
        have hG1 : (1 : Int) ≤ (G : Int) := by omega
        have CT := Lib.hid (take_no hseg hb5.sl HAP.out (by omega) q G hGq hGb (by show nv B64 _ < G * nv B64 bs; rw [HDV.out, HSEG.out]; omega) (by show q * nv B64 bs ≤ nv B64 _; rw [HDV.out, HSEG.out]; exact hq2))
        clear hle hGq hq2
        go_wp2_with fail
        refine CT.out.mono ?_
        rintro e w6 ⟨ns, rfl, hns, hown6, hgr6, honly6⟩
        have HNS : Hid (nv B64 ns = nv B64 (rs.drop j) - q * D) := by
          have h1 : nv B64 ns = nv B64 ((rs.drop j).take (n + 1)) - q * nv B64 bs := hns
          rw [HDV.out, HSEG.out] at h1; exact h1
        clear hns
        have hr6 := (hr5.splice j (n + 1) (by omega) (by omega) (HRA.out.symm ▸ hown6) (HRA.out.symm ▸ honly6))
        have hgr6' : w5.grownBy w6 (blk ro) := by rw [← HBLK.out]; exact hgr6
        have ho6 := ho5.grown hgr6' (.inr HN3.out)
        have hb6 := hb5.grown hgr6' (.inr HN1.out)
        have hbe6 : Below w.heap.size w w6 := Below.grown hbe5 hgr6' hbe5.size (fun k hk => (hr5.ge k hk).1)
        obtain ⟨bo6, oo6, hixo, hco, hao⟩ := ho6.sl.ix (P := Tryz.prog) Tryz.underlying33 H1.out H3.out
        have y1 := hixo j (by omega)
        have y2 := hco j (by omega)
        have y3 := ho6.free (hao (by omega)) (oo6 + j)
        have HO6 := Lib.hid (hao (by omega))
        clear hixo hco hao
        generalize os.getD j 0 = z at *
        have HS6 := Lib.hid (ho6.store HO6.out j q (by omega) hqb)
        have HNX := Lib.hid (long_next (m := n + 1) (os := os) (O := nv B64 (os.drop (j + 1))) rfl HNS.out HQ.out HDp.out (by have := HDG.out.2.2.2.2.2.2; exact this) (by rw [ho.sl.len]; omega) rfl HTK.out (by rw [hr.sl.len]; omega) HV.out)
        clear hsl
        go_wp2_with fail
        go_roundw
        case rel =>
          refine ⟨j, _, os.set j q, by omega, by go_num, hr6.grown HS6.out.2 (.inr (Ne.symm HN3.out)), HS6.out.1, hb6.grown HS6.out.2 (.inr (Ne.symm HN2.out)), ?_, HNX.out.1, HNX.out.2.1, HNX.out.2.2⟩
          exact Below.grown hbe6 HS6.out.2 hbe6.size (fun k hk => (ho6.ge k hk).1)
        case measure => simp [intOf]

end Go.Proofs.YtimcnhlcepemjaaGreatDoor

/- nat.DivMod, nat.MulDiv. -/
namespace Go.Proofs.YtimcnhlcepemjaaGreatDoor
open Go.RowKit

/-- The quotient and the rest, new, each in a block of its own, and an error that is a number. -/
def DivRes (w : World) (L : Nat) (xs ys : List Nat) (er : Int) (e : Ending) (w' : World) : Prop :=
  ∃ a1 c1 L1 a2 c2 L2, e = .returned (.tuple #[.slice a1 L1 c1, .slice a2 L2 c2, .int .i64 er]) ∧ Own w.heap.size w' a1 L1 c1 xs ∧ Own w.heap.size w' a2 L2 c2 ys ∧ Ext w w' ∧ L1 ≤ L ∧ L2 ≤ L + 1 ∧ (L1 = 0 ∨ L2 = 0 ∨ blk a1 ≠ blk a2)

theorem lim_top {n : Nat} (h : n ≠ 0) : (lim n).getD ((lim n).length - 1) 0 ≠ 0 := by
  have hn := nrm_digs B64_two n
  have hne : lim n ≠ [] := fun e => h ((digs_nil B64_two).1 e)
  have hl : 0 < (lim n).length := List.length_pos_iff.2 hne
  intro h0
  apply hn
  show (lim n).getLast? = some 0
  rw [List.getLast?_eq_getElem?, List.getElem?_eq_getElem (by omega)]
  rw [getD_of_lt (by omega)] at h0
  rw [h0]

set_option maxHeartbeats 4000000 in
set_option maxRecDepth 100000 in
theorem divmod_pos {a b : Option Addr} {m n c d : Nat} {xs ys : List Nat} {w : World} (ha : Sl w a m c xs) (hb : Sl w b n d ys) (hm : m ≤ 900000000) (hn : n ≤ 900000000) (hz : val ys ≠ 0) :
    Calls Tryz.prog 83 #[.slice a m c, .slice b n d] w (DivRes w m (lim (val xs / val ys)) (lim (val xs % val ys)) 0) := by
  obtain ⟨i0, hi, hz0, hs, hby⟩ := info_parts info64
  have H1 := Lib.hid hi; have H2 := Lib.hid hz0; have H3 := Lib.hid hs; have H4 := Lib.hid hby
  clear hi hz0 hs hby
  have ca := trimmed_calls ha
  have cb := trimmed_calls hb
  have ha' := ha.trimmed
  have hb' := hb.trimmed
  have hla := ha.trimmed_len
  have hlb := hb.trimmed_len
  have HVA := Lib.hid (val_lim (val xs))
  have HVB := Lib.hid (val_lim (val ys))
  have HTOP := Lib.hid (lim_top hz)
  have HPOS := Lib.hid (show (lim (val ys)).length ≠ 0 from fun h => hz (lim_len_zero h))
  have HMON := Lib.hid (@digs_len_mono B64 B64_two (val ys) (val xs))
  have HONE := Lib.hid (@lim_len_one (val ys))
  generalize val xs = X at *
  generalize val ys = Y at *
  have HBD := Lib.hid (bd_lim Y)
  change Hid (Y ≤ X → (lim Y).length ≤ (lim X).length) at HMON
  generalize lim X = us at *
  generalize hvs : lim Y = vs at *
  have HVS := Lib.hid hvs
  clear hvs
  obtain ⟨A, hA⟩ : ∃ A, us.length = A := ⟨_, rfl⟩
  obtain ⟨E, hE⟩ : ∃ E, vs.length = E := ⟨_, rfl⟩
  rw [hA] at ca ha' hla HMON
  rw [hE] at cb hb' hlb HTOP HPOS HMON HONE
  have CA := Lib.hid ca; have CB := Lib.hid cb
  have HA := Lib.hid hA; have HE := Lib.hid hE
  clear ca cb hA hE
  have hE0 : E ≠ 0 := HPOS.out
  have g1 : ((E : Int) == 0) = false := by rw [beq_eq_false_iff_ne]; omega
  have CC := Lib.hid (cmp_calls ha' hb' (by omega) (by omega))
  by_cases hlt : X < Y
  · have hc := Lib.hid (show decide (cmpN (val us) (val vs) < 0) = true by rw [HVA.out, HVB.out, cmpN_lt hlt]; rfl)
    have HQ := Lib.hid (Nat.div_eq_of_lt hlt)
    have HR := Lib.hid (Nat.mod_eq_of_lt hlt)
    generalize cmpN (val us) (val vs) = cc at *
    clear hlt hE0
    go_enter Tryz.func83, Tryz.ntmps83
    go_wp2_with fail
    refine CA.out.mono ?_
    rintro e w' ⟨rfl, rfl⟩
    go_wp2_with fail
    refine CB.out.mono ?_
    rintro e w' ⟨rfl, rfl⟩
    go_wp2_with fail
    refine CC.out.mono ?_
    rintro e w' ⟨rfl, k, rfl⟩
    have hcc := hc.out
    go_wp2_with fail
    refine (norm_calls (ha'.old ((Ext.refl _).drewN k)) (by omega)).mono ?_
    rintro e w1 ⟨o, no, co, rfl, hown, hext, hno⟩
    go_wp2_with fail
    go_ret3
    rw [HVA.out] at hown
    refine ⟨none, 0, 0, o, co, no, rfl, ?_, ?_, ((Ext.refl _).drewN k).trans hext, by omega, by omega, .inl rfl⟩
    · rw [HQ.out]; exact Own.nil _ _
    · rw [HR.out]; exact hown.mono (by simp)
  · have hge : Y ≤ X := by omega
    have hc := Lib.hid (show decide (cmpN (val us) (val vs) < 0) = false by
      rw [HVA.out, HVB.out]; unfold cmpN; rw [if_neg hlt]; split <;> rfl)
    have hEA : E ≤ A := HMON.out hge
    generalize hcc0 : cmpN (val us) (val vs) = cc at *
    clear hcc0 hlt hge
    by_cases hE1 : E = 1
    · subst hE1
      have hYB := HONE.out (by omega)
      obtain ⟨bb, ob, hixb, hcb, -⟩ := hb'.ix (P := Tryz.prog) Tryz.underlying33 H1.out H3.out
      have x1 := hixb 0 (by omega)
      have x2 := hcb 0 (by omega)
      have hg : vs.getD 0 0 = Y := by
        have hl := HE.out
        have hv := HVB.out
        match vs, hl with
        | [u], _ => simpa [val] using hv
      rw [hg] at x2
      have HY0 := Lib.hid (show 0 < Y by
        rcases Nat.eq_zero_or_pos Y with h | h
        · exfalso; exact hz h
        · exact h)
      clear hixb hcb hg hE0
      rw [show ((0 : Nat) : Int) = 0 from rfl] at x1
      simp only [Nat.add_zero] at x1 x2
      have HYB := Lib.hid hYB
      clear hYB
      have HZ := Lib.hid hz
      clear hz
      go_enter Tryz.func83, Tryz.ntmps83
      go_wp2_with fail
      refine CA.out.mono ?_
      rintro e w' ⟨rfl, rfl⟩
      go_wp2_with fail
      refine CB.out.mono ?_
      rintro e w' ⟨rfl, rfl⟩
      go_wp2_with fail
      refine CC.out.mono ?_
      rintro e w' ⟨rfl, k, rfl⟩
      have hcc := hc.out
      go_wp2_with fail
      refine (short_calls (ha'.old ((Ext.refl _).drewN k)) (by omega) Y HY0.out HYB.out).mono ?_
      rintro e w1 ⟨o, co, no, rfl, hown, hext, hno⟩
      go_wp2_with fail
      refine (of_calls (val us % Y) (Nat.lt_of_lt_of_le (Nat.mod_lt _ HY0.out) (Nat.le_of_lt HYB.out)) _).mono ?_
      rintro e w2 ⟨o2, no2, co2, rfl, hown2, hext2, hno2⟩
      go_wp2_with fail
      go_ret3
      rw [HVA.out] at hown hown2
      have hext' := ((Ext.refl _).drewN k).trans hext
      refine ⟨o, co, no, o2, co2, no2, rfl, (hown.old hext2).mono (by simp), hown2.mono hext'.size, hext'.trans hext2, by omega, by omega, ?_⟩
      by_cases h0 : no = 0
      · exact .inl h0
      · by_cases h1 : no2 = 0
        · exact .inr (.inl h1)
        · exact .inr (.inr (Ne.symm (hown.ne (by omega) hown2 (by omega) (Nat.le_refl _))))
    · have hE2 : 2 ≤ E := by omega
      have g2 : ((E : Int) == 1) = false := by rw [beq_eq_false_iff_ne]; omega
      have HZ := Lib.hid hz
      clear hz hE0 hE1
      go_enter Tryz.func83, Tryz.ntmps83
      go_wp2_with fail
      refine CA.out.mono ?_
      rintro e w' ⟨rfl, rfl⟩
      go_wp2_with fail
      refine CB.out.mono ?_
      rintro e w' ⟨rfl, rfl⟩
      go_wp2_with fail
      refine CC.out.mono ?_
      rintro e w' ⟨rfl, k, rfl⟩
      have hcc := hc.out
      go_wp2_with fail
      refine (long_calls (ha'.old ((Ext.refl _).drewN k)) (hb'.old ((Ext.refl _).drewN k)) (by omega) hE2 hEA HTOP.out).mono ?_
      rintro e w1 ⟨a1, c1, L1, a2, c2, L2, rfl, hown1, hown2, hext, hl1, hl2, hap⟩
      go_wp2_with fail
      go_ret3
      rw [HVA.out, HVB.out] at hown1 hown2
      exact ⟨a1, c1, L1, a2, c2, L2, rfl, hown1.mono (by simp), hown2.mono (by simp), ((Ext.refl _).drewN k).trans hext, by omega, by omega, hap⟩

/-- What nat.DivMod tells, of every two numbers. -/
def quoL (X Y : Nat) : List Nat := if Y = 0 then [] else lim (X / Y)
def remL (X Y : Nat) : List Nat := if Y = 0 then [] else lim (X % Y)
def divE (Y : Nat) : Int := if Y = 0 then 11 else 0

end Go.Proofs.YtimcnhlcepemjaaGreatDoor

/- nat.Bits, nat.Pow10. -/
namespace Go.Proofs.YtimcnhlcepemjaaGreatDoor
open Go.RowKit

/-- The top limb, and the binary digits. -/
theorem bits_parts {X k : Nat} (hk : (lim X).length = k + 1) : bitLen X = 64 * k + bitLen ((lim X).getD k 0) ∧ (lim X).getD k 0 ≠ 0 := by
  have hX : X ≠ 0 := by rintro rfl; simp [lim_zero] at hk
  have ht := lim_top hX
  rw [hk, Nat.add_sub_cancel] at ht
  refine ⟨?_, ht⟩
  have hv := val_lim X
  have hs := nv_take_drop B64 (lim X) k (by omega)
  rw [nv_drop_succ B64 (lim X) k (by omega), List.drop_of_length_le (by omega), nv_nil, Nat.mul_zero, Nat.add_zero] at hs
  have hlt := nv_lt ((bd_lim X).take k)
  rw [List.length_take, Nat.min_eq_left (by omega)] at hlt
  have e : B64 ^ k = 2 ^ (64 * k) := by rw [Nat.pow_mul]; rfl
  have hv' : nv B64 (lim X) = X := hv
  generalize (lim X).getD k 0 = y at *
  rw [hv', e] at hs
  rw [e] at hlt
  have hp : 0 < 2 ^ (64 * k) := Nat.two_pow_pos _
  have hd : X / 2 ^ (64 * k) = y := by
    rw [hs, Nat.add_mul_div_left _ _ hp, Nat.div_eq_of_lt hlt, Nat.zero_add]
  have hge : 2 ^ (64 * k) ≤ X := by
    rw [hs]
    have : 2 ^ (64 * k) * 1 ≤ 2 ^ (64 * k) * y := Nat.mul_le_mul_left _ (by omega)
    omega
  have := bitLen_div X (64 * k) hge
  rw [hd] at this
  exact this

set_option maxHeartbeats 1000000 in
set_option maxRecDepth 100000 in
theorem bits_calls {a : Option Addr} {n c : Nat} {xs : List Nat} {w : World} (h : Sl w a n c xs) (hn : n ≤ 1000000000) :
    Calls Tryz.prog 80 #[.slice a n c] w (Ret (.int .i64 (bitLen (val xs) : Nat)) w) := by
  obtain ⟨i0, hi, hz0, hs, hby⟩ := info_parts info64
  have H1 := Lib.hid hi; have H3 := Lib.hid hs
  clear hi hz0 hs hby
  have ct := trimmed_calls h
  have ht := h.trimmed
  have hl := h.trimmed_len
  have e0 := Lib.hid (@lim_len_zero (val xs))
  have e1 := Lib.hid (fun k => @bits_parts (val xs) k)
  have hbd := bd_lim (val xs)
  generalize val xs = X at *
  generalize lim X = us at *
  obtain ⟨A, hA⟩ : ∃ A, us.length = A := ⟨_, rfl⟩
  rw [hA] at ct ht hl
  have CT := Lib.hid ct
  have HL := Lib.hid hA
  clear ct hA
  cases A with
  | zero =>
    have hX : X = 0 := e0.out HL.out
    subst hX
    go_enter Tryz.func80, Tryz.ntmps80
    go_wp2_with fail
    refine CT.out.mono ?_
    rintro e w' ⟨rfl, rfl⟩
    go_wp2_with fail
    go_ret
    exact ⟨rfl, rfl⟩
  | succ k =>
    obtain ⟨hv, hy⟩ := e1.out k HL.out
    have hyB : us.getD k 0 < B64 := hbd.getD B64_pos k
    obtain ⟨bb, ob, hixb, hcb, -⟩ := ht.ix (P := Tryz.prog) Tryz.underlying33 H1.out H3.out
    have x1 := hixb k (by omega)
    have x2 := hcb k (by omega)
    generalize us.getD k 0 = y at *
    clear hixb hcb
    have CY := Lib.hid (fun w => Tryz.bits_Len64 (y : Int) w (by omega) (by rw [B64_eq] at hyB; omega))
    have hb : bitLen y ≤ 64 := bitLen_le hyB
    have HV := Lib.hid hv
    have hlb : Lib.bitLen ((y : Int).toNat) = bitLen y := by rw [Int.toNat_natCast]; exact libBitLen hyB
    have HLB := Lib.hid hlb
    have g1 : (((k + 1 : Nat) : Int) == 0) = false := by rw [beq_eq_false_iff_ne]; omega
    have G5 := Lib.hid (show wrap64 (64 * (k : Int) + ((bitLen y : Nat) : Int)) = ((bitLen X : Nat) : Int) by
      rw [← IntWalk.i64_left, HV.out, show (64 * (k : Int) + ((bitLen y : Nat) : Int)) = ((64 * k + bitLen y : Nat) : Int) by omega]; exact IntWalk.i64_in _ (by omega))
    clear hbd hy hyB hb hv hlb
    generalize bitLen X = BX at *
    generalize bitLen y = BY at *
    go_enter Tryz.func80, Tryz.ntmps80
    go_wp2_with fail
    refine CT.out.mono ?_
    rintro e w' ⟨rfl, rfl⟩
    go_wp2_with fail
    refine (CY.out _).mono ?_
    rintro e w' ⟨rfl, rfl⟩
    rw [HLB.out]
    go_wp2_with fail
    go_ret
    refine ⟨?_, rfl⟩
    show Ending.returned (.int .i64 (wrap64 (64 * (k : Int) + (BY : Int)))) = _
    rw [G5.out]

/-- What a literal of one limb lays. -/
theorem own_lit (B : Nat) (w : World) (x : Nat) (hx : x < B64) (hB : B ≤ w.heap.size) :
    Own B (w.alloc (.cells #[.int .u64 (x : Int)] 31 (0, 0))) (some ⟨w.heap.size, 0, none⟩) 1 1 [x] := by
  have hc : (w.alloc (.cells #[.int .u64 (x : Int)] 31 (0, 0))).heap[w.heap.size]? = some (.cells #[.int .u64 (x : Int)] 31 (0, 0)) := heap_alloc_new w _
  refine ⟨⟨rfl, Nat.le_refl _, by decide, Bd.cons hx (Bd.nil _), .inr ⟨_, _, rfl, ?_⟩⟩, .inr ⟨_, _, _, _, rfl, hB, hc⟩⟩
  intro i hi
  obtain rfl : i = 0 := by omega
  rw [cell_of_row _ _ _ _ _ _ hc]; rfl

end Go.Proofs.YtimcnhlcepemjaaGreatDoor
