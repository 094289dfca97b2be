/- gleanref1.Add. -/
import Derived.Test.YtpfhifjkecoahaaGreatDoorRef2
namespace Go.Proofs.YtpfhifjkecoahaaGreatDoor
open Go.RowKit

def RAddRel (w : World) (o : Option Addr) (M : Nat) (us vs : List Nat) (cv iv : Value) (wr : World) : Prop :=
  ∃ (k cr : Nat) (os : List Nat), k ≤ M ∧ iv = .int .i64 (k : Int) ∧ cv = .int .u64 (cr : Int) ∧ cr ≤ 1 ∧ Own w.heap.size wr o M M os ∧ Bd B32 os ∧ Ext w wr ∧
    nv B32 (os.take k) + B32 ^ k * cr = nv B32 (us.take k) + nv B32 (vs.take k)
/-- A round's digits. -/
theorem radd_digits {u v cr : Nat} (hu : u < B32) (hv : v < B32) (hc : cr ≤ 1) : (cr + u + v) % B32 < B32 ∧ (cr + u + v) / B32 ≤ 1 ∧ (cr + u + v) % B32 + B32 * ((cr + u + v) / B32) = u + v + cr := by
  refine ⟨Nat.mod_lt _ B32_pos, ?_, ?_⟩
  · rw [← Nat.lt_succ_iff, Nat.div_lt_iff_lt_mul B32_pos]; omega
  · have := Nat.mod_add_div (cr + u + v) B32; omega
theorem radd_step {os us vs : List Nat} {k cr u v s c' : Nat} (hk : k < os.length) (hu : us.getD k 0 = u) (hv : vs.getD k 0 = v)
    (h : nv B32 (os.take k) + B32 ^ k * cr = nv B32 (us.take k) + nv B32 (vs.take k)) (hs : s + B32 * c' = u + v + cr) :
    nv B32 ((os.set k s).take (k + 1)) + B32 ^ (k + 1) * c' = nv B32 (us.take (k + 1)) + nv B32 (vs.take (k + 1)) := by
  rw [nv_take_set B32 os k s hk, nv_take_succ', nv_take_succ', hu, hv, Nat.pow_succ]
  exact add_round h hs
theorem rand_half (s : Nat) (hs : s < B64) : bits BinOp.and IntKind.u64 (s : Int) 4294967295 = ((s % B32 : Nat) : Int) := by
  have := bits_and_u64_nat s 4294967295 hs (by decide)
  rw [show ((4294967295 : Nat) : Int) = 4294967295 from rfl] at this
  rw [this, B32_eq]
  congr 1
  exact Nat.and_two_pow_sub_one_eq_mod s 32
theorem rshr_half (s : Nat) : (s : Int) / 4294967296 = ((s / B32 : Nat) : Int) := by rw [B32_eq]; simp
theorem Bd.set' {b : Nat} {os : List Nat} (h : Bd b os) (k : Nat) {x : Nat} (hx : x < b) : Bd b (os.set k x) := h.set k hx

set_option maxHeartbeats 8000000 in
set_option maxRecDepth 100000 in
theorem radd_calls {a b : Option Addr} {m n c d : Nat} {xs ys : List Nat} {w : World} (ha : Sl w a m c xs) (hb : Sl w b n d ys) (hm : m ≤ 400000000) (hn : n ≤ 400000000) :
    Calls Tryz.prog 34 #[.slice a m c, .slice b n d] w (New w (2 * m + 2 * n + 1) (lim (val xs + val ys))) := by
  obtain ⟨i0, hi, hz0, hs, hby⟩ := info_parts info64
  have H1 := Lib.hid hi; have H2 := Lib.hid hz0; have H3 := Lib.hid hs; have H4 := Lib.hid hby
  clear hi hz0 hs hby
  have HB := Lib.hid hb
  have CA := Lib.hid (digits_calls ha (by omega))
  generalize val xs = X at *
  clear ha hb
  go_enter Tryz.func34, Tryz.ntmps34
  go_wp2_with fail
  refine CA.out.mono ?_
  rintro e w1 ⟨o1, m1, c1, rfl, hown1, hext1, hno1⟩
  have CB := Lib.hid (digits_calls (HB.out.old hext1) (by omega))
  generalize val ys = Y at *
  go_wp2_with fail
  refine CB.out.mono ?_
  rintro e w2 ⟨o2, n1, c2, rfl, hown2, hext2, hno2⟩
  have hA := hown1.sl.old hext2
  have hB := hown2.sl
  have HEX := Lib.hid (hext1.trans hext2)
  have HLA := Lib.hid hA.len; have HLB := Lib.hid hB.len
  have HBU := Lib.hid (bd_dig X); have HBV := Lib.hid (bd_dig Y)
  have HVU := Lib.hid (rval_dig X); have HVV := Lib.hid (rval_dig Y)
  generalize dig X = us at *
  generalize dig Y = vs at *
  clear hown1 hown2 hext1 hext2
  obtain ⟨M, hM⟩ : ∃ M, max m1 n1 + 1 = M := ⟨_, rfl⟩
  have g1 : (max (m1 : Int) (n1 : Int)) + 1 = (M : Int) := by omega
  have HM := Lib.hid hM
  have hMb : M ≤ 2000000000 := by omega
  have hMm : m1 < M := by omega
  have hMn : n1 < M := by omega
  clear hM
  go_wp2_with (at_make; refine make_sl _ rfl _ _ _ rfl _ _ Tryz.underlying23 H1.out H2.out H3.out H4.out _ _ rfl rfl M (by omega) (by omega) (by omega) ?_)
  intro o w3 hown3 hext3
  have HA2 := Lib.hid hA; have HB2 := Lib.hid hB
  have HX3 := Lib.hid hext3
  clear hA hB hext3
  go_wp2_with fail
  go_loopw [9, 10] (fun cv iv wr => RAddRel w2 o M us vs cv iv wr) (fun _ iv _ => M - (intOf iv).toNat)
  case atStart => exact ⟨0, 0, List.replicate M 0, by omega, rfl, rfl, by omega, hown3, Bd.replicate B32_pos M, HX3.out, by simp⟩
  case round =>
    obtain ⟨k, cr, os, hk, rfl, rfl, hcr, hown, hbos, hex, hinv⟩ := hrel
    have HOWN := Lib.hid hown
    have HBO := Lib.hid hbos
    have HX := Lib.hid hex
    have HINV := Lib.hid hinv
    clear hown hbos hex hinv
    by_cases hkM : k = M
    · subst hkM
      have hl := HOWN.out.sl.len
      have hval : rval os = X + Y := by
        have h := HINV.out
        rw [List.take_of_length_le (by omega), List.take_of_length_le (by rw [HLA.out]; omega), List.take_of_length_le (by rw [HLB.out]; omega)] at h
        have e1 : nv B32 us = X := HVU.out
        have e2 : nv B32 vs = Y := HVV.out
        rw [e1, e2] at h
        have l1 := nv_lt HBU.out
        have l2 := nv_lt HBV.out
        rw [e1, HLA.out] at l1
        rw [e2, HLB.out] at l2
        have p1 : B32 ^ m1 ≤ B32 ^ (k - 1) := Nat.pow_le_pow_right B32_pos (by omega)
        have p2 : B32 ^ n1 ≤ B32 ^ (k - 1) := Nat.pow_le_pow_right B32_pos (by omega)
        have p3 : B32 ^ k = B32 ^ (k - 1) * B32 := by rw [← Nat.pow_succ]; congr 1; omega
        have p4 : B32 ^ (k - 1) * 2 ≤ B32 ^ (k - 1) * B32 := Nat.mul_le_mul_left _ B32_two
        have hc0 : cr = 0 := by
          rcases Nat.eq_zero_or_pos cr with h0 | h0
          · exact h0
          · have : cr = 1 := by omega
            subst this
            omega
        subst hc0
        unfold rval
        omega
      have HV := Lib.hid hval
      clear hval hl
      go_wp2_with fail
      refine (number_calls HOWN.out.sl HBO.out (by omega)).mono ?_
      rintro e w4 ⟨o4, n4, c4, rfl, hown4, hext4, hno4⟩
      rw [HV.out] at hown4
      go_wp2_with fail
      go_ret
      exact ⟨o4, n4, c4, rfl, hown4.mono (HEX.out.trans HX.out).size, (HEX.out.trans HX.out).trans hext4, by omega⟩
    · have hlt : (k : Int) < (M : Int) := by omega
      obtain ⟨bo, oo, hixo, hco, hao⟩ := HOWN.out.sl.ix (P := Tryz.prog) Tryz.underlying23 H1.out H3.out
      have z1 := hixo k (by omega)
      have z2 := hco k (by omega)
      have z3 := HOWN.out.free (hao (by omega)) (oo + k)
      have HAO := Lib.hid (hao (by omega))
      obtain ⟨ba, oa, hixa, hca, -⟩ := (HA2.out.old HX.out).ix (P := Tryz.prog) Tryz.underlying23 H1.out H3.out
      obtain ⟨bb, ob, hixb, hcb, -⟩ := (HB2.out.old HX.out).ix (P := Tryz.prog) Tryz.underlying23 H1.out H3.out
      have HIA := Lib.hid hixa; have HCA := Lib.hid hca; have HIB := Lib.hid hixb; have HCB := Lib.hid hcb
      obtain ⟨u, hu⟩ : ∃ u, us.getD k 0 = u := ⟨_, rfl⟩
      obtain ⟨v, hv⟩ : ∃ v, vs.getD k 0 = v := ⟨_, rfl⟩
      have huB : u < B32 := by rw [← hu]; exact HBU.out.getD B32_pos k
      have hvB : v < B32 := by rw [← hv]; exact HBV.out.getD B32_pos k
      obtain ⟨d1, d2, d3⟩ := radd_digits huB hvB hcr
      have HST := Lib.hid (radd_step (s := (cr + u + v) % B32) (c' := (cr + u + v) / B32) (by rw [HOWN.out.sl.len]; omega) hu hv HINV.out d3)
      obtain ⟨s, hs⟩ : ∃ s, cr + u + v = s := ⟨_, rfl⟩
      rw [hs] at HST d1 d2
      have hsB : s < B64 := by rw [← hs, B64_eq]; rw [B32_eq] at huB hvB; omega
      have hand := rand_half s hsB
      have hshr := rshr_half s
      obtain ⟨lo, hlo⟩ : ∃ lo, s % B32 = lo := ⟨_, rfl⟩
      obtain ⟨hi, hhi⟩ : ∃ hi, s / B32 = hi := ⟨_, rfl⟩
      rw [hlo] at hand HST d1; rw [hhi] at hshr HST d2
      have HHI := Lib.hid d2
      have HLO := Lib.hid d1
      have HSO := Lib.hid (HOWN.out.store HAO.out k lo (by omega) (Nat.lt_of_lt_of_le d1 B32_lt))
      obtain ⟨t, ht⟩ : ∃ t, cr + u = t := ⟨_, rfl⟩
      have w1' : IntKind.u64.wrap ((cr : Int) + (u : Int)) = (t : Int) := by
        rw [B32_eq] at huB; rw [show ((cr : Int) + (u : Int)) = (t : Int) by omega]; exact IntWalk.u64_in _ (by omega)
      have w2' : IntKind.u64.wrap ((t : Int) + (v : Int)) = (s : Int) := by
        rw [B32_eq] at huB hvB; rw [show ((t : Int) + (v : Int)) = (s : Int) by omega]; exact IntWalk.u64_in _ (by omega)
      have HU0 := Lib.hid (fun h : m1 ≤ k => (by rw [← hu, getD_of_ge (by rw [HLA.out]; exact h)] : u = 0))
      have HV0 := Lib.hid (fun h : n1 ≤ k => (by rw [← hv, getD_of_ge (by rw [HLB.out]; exact h)] : v = 0))
      have HUE := Lib.hid hu; have HVE := Lib.hid hv; have HT := Lib.hid ht; have HS := Lib.hid hs
      clear hixa hca hixb hcb hixo hco hao hu hv huB hvB d1 d2 d3 hs hsB hlo hhi ht
      by_cases hk1 : k < m1
      · have x1 := HIA.out k hk1
        have x2 := HCA.out k hk1
        rw [HUE.out] at x2
        have g2 : (k : Int) < (m1 : Int) := by omega
        by_cases hk2 : k < n1
        · have y1 := HIB.out k hk2
          have y2 := HCB.out k hk2
          rw [HVE.out] at y2
          have g3 : (k : Int) < (n1 : Int) := by omega
          go_wp2_with fail
          go_roundw
          case rel => exact ⟨k + 1, hi, os.set k lo, by omega, by go_num, rfl, HHI.out, HSO.out.1, HBO.out.set k HLO.out, Ext.grown' HX.out HOWN.out (Nat.le_refl _) HSO.out.2, HST.out⟩
          case measure => simp only [intOf]; omega
        · have g3 : ¬ (k : Int) < (n1 : Int) := by omega
          have hv0 := HV0.out (by omega)
          have hts : t = s := by have := HT.out; have := HS.out; omega
          subst hts hv0
          clear w2'
          go_wp2_with fail
          go_roundw
          case rel => exact ⟨k + 1, hi, os.set k lo, by omega, by go_num, rfl, HHI.out, HSO.out.1, HBO.out.set k HLO.out, Ext.grown' HX.out HOWN.out (Nat.le_refl _) HSO.out.2, HST.out⟩
          case measure => simp only [intOf]; omega
      · have g2 : ¬ (k : Int) < (m1 : Int) := by omega
        have hu0 := HU0.out (by omega)
        have hct : cr = t := by have := HT.out; omega
        subst hu0
        by_cases hk2 : k < n1
        · have y1 := HIB.out k hk2
          have y2 := HCB.out k hk2
          rw [HVE.out] at y2
          have g3 : (k : Int) < (n1 : Int) := by omega
          subst hct
          clear w1'
          go_wp2_with fail
          go_roundw
          case rel => exact ⟨k + 1, hi, os.set k lo, by omega, by go_num, rfl, HHI.out, HSO.out.1, HBO.out.set k HLO.out, Ext.grown' HX.out HOWN.out (Nat.le_refl _) HSO.out.2, HST.out⟩
          case measure => simp only [intOf]; omega
        · have g3 : ¬ (k : Int) < (n1 : Int) := by omega
          have hv0 := HV0.out (by omega)
          have hts : t = s := by have := HT.out; have := HS.out; omega
          subst hct hv0
          subst hts
          clear w1' w2'
          go_wp2_with fail
          go_roundw
          case rel => exact ⟨k + 1, hi, os.set k lo, by omega, by go_num, rfl, HHI.out, HSO.out.1, HBO.out.set k HLO.out, Ext.grown' HX.out HOWN.out (Nat.le_refl _) HSO.out.2, HST.out⟩
          case measure => simp only [intOf]; omega

end Go.Proofs.YtpfhifjkecoahaaGreatDoor
