/- gleanref1.guess: bounds of a quotient's digit. -/
import Derived.Test.YtpfhifjkecoahaaGreatDoorRef6
namespace Go.Proofs.YtpfhifjkecoahaaGreatDoor
open Go.RowKit

theorem rguess_ok {P R Y T d r0 y0 : Nat} (hP : 0 < P) (hR : R = r0 + P * T) (hr0 : r0 < P) (hY : Y = y0 + P * d) (hy0 : y0 < P) (hd : 0 < d) :
    T / (d + 1) ≤ R / Y ∧ R / Y ≤ T / d := by
  have hYp : 0 < Y := by rw [hY]; have := Nat.mul_pos hP hd; omega
  constructor
  · rw [Nat.le_div_iff_mul_le hYp]
    have h1 : T / (d + 1) * (d + 1) ≤ T := Nat.div_mul_le_self _ _
    have h2 : Y ≤ P * (d + 1) := by rw [hY, Nat.mul_add]; omega
    calc T / (d + 1) * Y ≤ T / (d + 1) * (P * (d + 1)) := Nat.mul_le_mul_left _ h2
      _ = P * (T / (d + 1) * (d + 1)) := by rw [Nat.mul_left_comm]
      _ ≤ P * T := Nat.mul_le_mul_left _ h1
      _ ≤ R := by omega
  · rw [Nat.le_div_iff_mul_le hd]
    have h1 : R / Y * Y ≤ R := Nat.div_mul_le_self _ _
    have h2 : P * (R / Y * d) ≤ R / Y * Y := by
      rw [Nat.mul_left_comm]
      exact Nat.mul_le_mul_left _ (by omega)
    have h3 : P * (R / Y * d) < P * (T + 1) := by rw [Nat.mul_add]; omega
    have := Nat.lt_of_mul_lt_mul_left h3
    omega

/-- Where the two numbers' heads lie. -/
theorem rtop {us : List Nat} {L m : Nat} (hb : Bd B32 us) (hl : us.length = m) (hL : 0 < L) (hm : m = L) : ∃ r0, rval us = r0 + B32 ^ (L - 1) * us.getD (L - 1) 0 ∧ r0 < B32 ^ (L - 1) := by
  refine ⟨nv B32 (us.take (L - 1)), ?_, ?_⟩
  · have := nv_take_succ' B32 us (L - 1)
    rw [show L - 1 + 1 = L by omega, List.take_of_length_le (by omega)] at this
    exact this
  · have := nv_lt (hb.take (L - 1))
    rwa [List.length_take, hl, Nat.min_eq_left (by omega)] at this
theorem rtop2 {us : List Nat} {L m : Nat} (hb : Bd B32 us) (hl : us.length = m) (hL : 0 < L) (hm : m = L + 1) :
    ∃ r0, rval us = r0 + B32 ^ (L - 1) * (us.getD (L - 1) 0 + B32 * us.getD L 0) ∧ r0 < B32 ^ (L - 1) := by
  refine ⟨nv B32 (us.take (L - 1)), ?_, ?_⟩
  · have h1 := nv_take_succ' B32 us (L - 1)
    have h2 := nv_take_succ' B32 us L
    rw [List.take_of_length_le (by omega)] at h2
    rw [show L - 1 + 1 = L by omega] at h1
    unfold rval
    rw [h2, h1, Nat.mul_add, ← Nat.mul_assoc, ← Nat.pow_succ, show (L - 1).succ = L by omega, Nat.add_assoc]
  · have := nv_lt (hb.take (L - 1))
    rwa [List.length_take, hl, Nat.min_eq_left (by omega)] at this
theorem dig_top {n : Nat} (h : n ≠ 0) : (dig n).getD ((dig n).length - 1) 0 ≠ 0 := by
  intro h0
  have hn := nrm_digs B32_two n
  apply hn
  rw [List.getLast?_eq_getElem?]
  have hl : (dig n).length ≠ 0 := fun e => by
    have := List.eq_nil_of_length_eq_zero e
    exact h ((digs_nil B32_two).1 this)
  change (dig n)[(dig n).length - 1]? = some 0
  rw [List.getElem?_eq_getElem (by omega)]
  rw [List.getD_eq_getElem?_getD, List.getElem?_eq_getElem (by omega)] at h0
  simpa using h0
theorem dig_len_lt {m n : Nat} (h : (dig m).length < (dig n).length) : m < n := digs_len_lt B32_two h
theorem dig_lt (n : Nat) : n < B32 ^ (dig n).length := digs_lt_pow B32_two n
theorem dig_len_le {n k : Nat} (h : n < B32 ^ k) : (dig n).length ≤ k := digs_len_le B32_two h

def GuessRes (w : World) (q : Nat) (e : Ending) (w' : World) : Prop :=
  ∃ lo hi : Nat, lo ≤ q ∧ q ≤ hi ∧ hi < B32 ∧ RetD (.tuple #[.int .u64 (lo : Int), .int .u64 (hi : Int)]) w e w'

theorem guess_min {T d q : Nat} (h1 : T / (d + 1) ≤ q) (h2 : q ≤ T / d) (hq : q < B32) : min (T / (d + 1)) 4294967295 ≤ q ∧ q ≤ min (T / d) 4294967295 ∧ min (T / d) 4294967295 < B32 := by
  rw [B32_eq] at *
  exact ⟨Nat.le_trans (Nat.min_le_left _ _) h1, Nat.le_min.2 ⟨h2, by omega⟩, Nat.lt_of_le_of_lt (Nat.min_le_right _ _) (by decide)⟩

set_option maxHeartbeats 8000000 in
set_option maxRecDepth 100000 in
theorem rguess_calls {a b : Option Addr} {m L c d : Nat} (R Y : Nat) {w : World} (ha : Sl w a m c (dig R)) (hb : Sl w b L d (dig Y)) (hY : Y ≠ 0) (hR : R < Y * B32) :
    Calls Tryz.prog 80 #[.slice a m c, .slice b L d] w (GuessRes w (R / Y)) := by
  obtain ⟨i0, hi, hz0, hs, hby⟩ := info_parts info64
  have H1 := Lib.hid hi; have H3 := Lib.hid hs
  clear hi hz0 hs hby
  have hla := ha.len; have hlb := hb.len
  have hbig : m ≤ 9223372036854775807 := Nat.le_trans ha.cap ha.big
  have hbig2 : L ≤ 9223372036854775807 := Nat.le_trans hb.cap hb.big
  have hq : R / Y < B32 := by rw [Nat.div_lt_iff_lt_mul (Nat.pos_of_ne_zero hY), Nat.mul_comm]; exact hR
  have hL0 : 0 < L := by
    rcases Nat.eq_zero_or_pos L with h | h
    · exact absurd ((digs_nil B32_two).1 (List.eq_nil_of_length_eq_zero (by rw [← h]; exact hlb))) hY
    · exact h
  by_cases hlt : m < L
  · have hq0 : R / Y = 0 := Nat.div_eq_of_lt (dig_len_lt (by rw [hla, hlb]; exact hlt))
    have g1 : (m : Int) < (L : Int) := by omega
    rw [hq0]
    clear hq hq0 hR hY hla hlb
    go_enter Tryz.func80, Tryz.ntmps80
    go_wp2_with fail
    go_ret2
    exact ⟨0, 0, Nat.le_refl _, Nat.le_refl _, B32_pos, rfl, 0, rfl⟩
  have g1 : ¬ (m : Int) < (L : Int) := by omega
  have hmL : m = L ∨ m = L + 1 := by
    have h1 : R < B32 ^ (L + 1) := by
      have := dig_lt Y
      rw [hlb] at this
      rw [Nat.pow_succ]
      exact Nat.lt_trans hR (Nat.mul_lt_mul_of_pos_right this B32_pos)
    have := dig_len_le h1
    rw [hla] at this
    omega
  obtain ⟨bb, ob, hixb, hcb, -⟩ := hb.ix (P := Tryz.prog) Tryz.underlying23 H1.out H3.out
  obtain ⟨ba, oa, hixa, hca, -⟩ := ha.ix (P := Tryz.prog) Tryz.underlying23 H1.out H3.out
  have y1 := hixb (L - 1) (by omega)
  have y2 := hcb (L - 1) (by omega)
  rw [show ((L - 1 : Nat) : Int) = (L : Int) - 1 by omega] at y1
  obtain ⟨dd, hdd⟩ : ∃ dd, (dig Y).getD (L - 1) 0 = dd := ⟨_, rfl⟩
  have hd0 : dd ≠ 0 := by have := dig_top hY; rw [hlb, hdd] at this; exact this
  have hdB : dd < B32 := by rw [← hdd]; exact (bd_dig Y).getD B32_pos _
  obtain ⟨y0, hYe, hy0⟩ := rtop (bd_dig Y) hlb hL0 rfl
  rw [rval_dig, hdd] at hYe
  rw [hdd] at y2
  have hP : 0 < B32 ^ (L - 1) := Nat.pow_pos B32_pos
  obtain ⟨d1, hd1⟩ : ∃ d1, dd + 1 = d1 := ⟨_, rfl⟩
  have w1' : IntKind.u64.wrap ((dd : Int) + 1) = (d1 : Int) := by
    rw [B32_eq] at hdB; rw [show ((dd : Int) + 1) = (d1 : Int) by omega]; exact IntWalk.u64_in _ (by omega)
  have n1 : ((d1 : Int) == 0) = false := by rw [beq_eq_false_iff_ne]; omega
  have n2 : ((dd : Int) == 0) = false := by rw [beq_eq_false_iff_ne]; omega
  have n3 : ¬ (d1 : Int) = 0 := by omega
  have n4 : ¬ (dd : Int) = 0 := by omega
  clear hixb hcb
  rcases hmL with hmL | hmL
  · have x1 := hixa (m - 1) (by omega)
    have x2 := hca (m - 1) (by omega)
    rw [show ((m - 1 : Nat) : Int) = (m : Int) - 1 by omega] at x1
    obtain ⟨T, hT⟩ : ∃ T, (dig R).getD (m - 1) 0 = T := ⟨_, rfl⟩
    obtain ⟨r0, hRe, hr0⟩ := rtop (bd_dig R) hla hL0 hmL
    rw [rval_dig, ← hmL, hT] at hRe
    rw [hT] at x2
    have hRe' : R = r0 + B32 ^ (L - 1) * T := by rw [← hmL]; exact hRe
    have HG := rguess_ok hP hRe' hr0 hYe hy0 (by omega)
    have HM := guess_min HG.1 HG.2 hq
    rw [hd1] at HM
    obtain ⟨q1, hq1⟩ : ∃ q1, T / d1 = q1 := ⟨_, rfl⟩
    obtain ⟨q2, hq2⟩ : ∃ q2, T / dd = q2 := ⟨_, rfl⟩
    have f1 : (T : Int) / (d1 : Int) = (q1 : Int) := by rw [← hq1]; simp
    have f2 : (T : Int) / (dd : Int) = (q2 : Int) := by rw [← hq2]; simp
    have f3 : (T : Int).tdiv (d1 : Int) = (q1 : Int) := by rw [Int.tdiv_eq_ediv_of_nonneg (by omega)]; exact f1
    have f4 : (T : Int).tdiv (dd : Int) = (q2 : Int) := by rw [Int.tdiv_eq_ediv_of_nonneg (by omega)]; exact f2
    rw [hq1, hq2] at HM
    obtain ⟨lo, hlo⟩ : ∃ lo, min q1 4294967295 = lo := ⟨_, rfl⟩
    obtain ⟨hi, hhi⟩ : ∃ hi, min q2 4294967295 = hi := ⟨_, rfl⟩
    have f5 : min (q1 : Int) 4294967295 = (lo : Int) := by omega
    have f6 : min (q2 : Int) 4294967295 = (hi : Int) := by omega
    rw [hlo, hhi] at HM
    have HMH := Lib.hid HM
    have g2 : ¬ (L : Int) < (m : Int) := by omega
    have hTB : T < B32 := by rw [← hT]; exact (bd_dig R).getD B32_pos _
    have hq1B : q1 ≤ T := by rw [← hq1]; exact Nat.div_le_self _ _
    have hq2B : q2 ≤ T := by rw [← hq2]; exact Nat.div_le_self _ _
    rw [B32_eq] at hTB
    have wq1 : IntKind.u64.wrap (q1 : Int) = (q1 : Int) := IntWalk.u64_in _ (by omega)
    have wq2 : IntKind.u64.wrap (q2 : Int) = (q2 : Int) := IntWalk.u64_in _ (by omega)
    clear hTB hq1B hq2B
    clear hixa hca HG HM hRe hRe' hr0 hYe hy0 hP hT hdd hd0 hdB hd1 hq1 hq2 hlo hhi hq hR hY hla hlb hmL
    go_enter Tryz.func80, Tryz.ntmps80
    go_wp2_with fail
    go_quiet (fail)
    go_wp2_with fail
    go_ret2
    exact ⟨lo, hi, HMH.out.1, HMH.out.2.1, HMH.out.2.2, rfl, _, rfl⟩
  · have x1 := hixa (m - 1) (by omega)
    have x2 := hca (m - 1) (by omega)
    rw [show ((m - 1 : Nat) : Int) = (m : Int) - 1 by omega] at x1
    have x3 := hixa (m - 2) (by omega)
    have x4 := hca (m - 2) (by omega)
    rw [show ((m - 2 : Nat) : Int) = (m : Int) - 2 by omega] at x3
    obtain ⟨r0, hRe, hr0⟩ := rtop2 (bd_dig R) hla hL0 hmL
    have e4 : (dig R).getD (m - 2) 0 = (dig R).getD (L - 1) 0 := by rw [show m - 2 = L - 1 by omega]
    have e2 : (dig R).getD (m - 1) 0 = (dig R).getD L 0 := by rw [show m - 1 = L by omega]
    rw [e4] at x4
    rw [e2] at x2
    clear e4 e2
    obtain ⟨h, hh⟩ : ∃ h, (dig R).getD L 0 = h := ⟨_, rfl⟩
    obtain ⟨l, hl⟩ : ∃ l, (dig R).getD (L - 1) 0 = l := ⟨_, rfl⟩
    have hhB : h < B32 := by rw [← hh]; exact (bd_dig R).getD B32_pos _
    have hlB : l < B32 := by rw [← hl]; exact (bd_dig R).getD B32_pos _
    obtain ⟨T, hT⟩ : ∃ T, l + B32 * h = T := ⟨_, rfl⟩
    rw [rval_dig, hh, hl, hT] at hRe
    rw [hh] at x2; rw [hl] at x4
    have HG := rguess_ok hP hRe hr0 hYe hy0 (by omega)
    have HM := guess_min HG.1 HG.2 hq
    obtain ⟨s, hs⟩ : ∃ s, h * 4294967296 = s := ⟨_, rfl⟩
    have hsh : IntKind.u64.wrap ((h : Int) * 4294967296) = (s : Int) := by
      rw [B32_eq] at hhB
      rw [show ((h : Int) * 4294967296) = (s : Int) by omega]; exact IntWalk.u64_in _ (by omega)
    have hor : bits BinOp.or IntKind.u64 (s : Int) (l : Int) = (T : Int) := by
      have e := or_add (d := h) hlB
      rw [B32_eq] at hhB hlB
      rw [bits_or_u64_nat s l (by omega) (by omega), Nat.or_comm, ← hs, e, hT]
    have hTB : T < 18446744073709551616 := by rw [← hT]; rw [B32_eq] at *; omega
    rw [hd1] at HM
    obtain ⟨q1, hq1⟩ : ∃ q1, T / d1 = q1 := ⟨_, rfl⟩
    obtain ⟨q2, hq2⟩ : ∃ q2, T / dd = q2 := ⟨_, rfl⟩
    have f1 : (T : Int) / (d1 : Int) = (q1 : Int) := by rw [← hq1]; simp
    have f2 : (T : Int) / (dd : Int) = (q2 : Int) := by rw [← hq2]; simp
    have f3 : (T : Int).tdiv (d1 : Int) = (q1 : Int) := by rw [Int.tdiv_eq_ediv_of_nonneg (by omega)]; exact f1
    have f4 : (T : Int).tdiv (dd : Int) = (q2 : Int) := by rw [Int.tdiv_eq_ediv_of_nonneg (by omega)]; exact f2
    rw [hq1, hq2] at HM
    have hq1B : q1 ≤ T := by rw [← hq1]; exact Nat.div_le_self _ _
    have hq2B : q2 ≤ T := by rw [← hq2]; exact Nat.div_le_self _ _
    have wq1 : IntKind.u64.wrap (q1 : Int) = (q1 : Int) := IntWalk.u64_in _ (by omega)
    have wq2 : IntKind.u64.wrap (q2 : Int) = (q2 : Int) := IntWalk.u64_in _ (by omega)
    obtain ⟨lo, hlo⟩ : ∃ lo, min q1 4294967295 = lo := ⟨_, rfl⟩
    obtain ⟨hi, hhi⟩ : ∃ hi, min q2 4294967295 = hi := ⟨_, rfl⟩
    have f5 : min (q1 : Int) 4294967295 = (lo : Int) := by omega
    have f6 : min (q2 : Int) 4294967295 = (hi : Int) := by omega
    rw [hlo, hhi] at HM
    have HMH := Lib.hid HM
    have g2 : (L : Int) < (m : Int) := by omega
    clear hixa hca HG HM hRe hr0 hYe hy0 hP hT hdd hd0 hdB hd1 hq1 hq2 hlo hhi hq hR hY hla hlb hmL hTB hq1B hq2B hs hh hl hhB hlB
    go_enter Tryz.func80, Tryz.ntmps80
    go_wp2_with fail
    go_quiet (fail)
    go_wp2_with fail
    go_ret2
    exact ⟨lo, hi, HMH.out.1, HMH.out.2.1, HMH.out.2.2, rfl, _, rfl⟩

end Go.Proofs.YtpfhifjkecoahaaGreatDoor
