/- gleanref1.small: digits by one digit. -/
import Derived.Test.YtpfhifjkecoahaaGreatDoorRef3
namespace Go.Proofs.YtpfhifjkecoahaaGreatDoor
open Go.RowKit

def RSmRel (w : World) (o : Option Addr) (N K : Nat) (vs : List Nat) (cv iv : Value) (wr : World) : Prop :=
  ∃ (k cr : Nat) (os : List Nat), k ≤ N ∧ iv = .int .i64 (k : Int) ∧ cv = .int .u64 (cr : Int) ∧ cr < B32 ∧ Own w.heap.size wr o (N + 1) (N + 1) os ∧ Bd B32 os ∧ Ext w wr ∧
    nv B32 (os.take k) + B32 ^ k * cr = K * nv B32 (vs.take k)
theorem rsm_step {os vs : List Nat} {k cr v K s c' : Nat} (hk : k < os.length) (hv : vs.getD k 0 = v)
    (h : nv B32 (os.take k) + B32 ^ k * cr = K * nv B32 (vs.take k)) (hs : s + B32 * c' = v * K + cr) :
    nv B32 ((os.set k s).take (k + 1)) + B32 ^ (k + 1) * c' = K * nv B32 (vs.take (k + 1)) := by
  rw [nv_take_set B32 os k s hk, nv_take_succ', hv, Nat.pow_succ, Nat.mul_add, ← h]
  have e1 : B32 ^ k * B32 * c' = B32 ^ k * (B32 * c') := Nat.mul_assoc ..
  have e2 : K * (B32 ^ k * v) = B32 ^ k * (v * K) := by rw [Nat.mul_left_comm, Nat.mul_comm K v]
  have e3 : B32 ^ k * s + B32 ^ k * (B32 * c') = B32 ^ k * (v * K) + B32 ^ k * cr := by rw [← Nat.mul_add, hs, Nat.mul_add]
  rw [e1, e2]
  omega

set_option maxHeartbeats 8000000 in
set_option maxRecDepth 100000 in
theorem rsm_calls {a : Option Addr} {n c : Nat} {vs : List Nat} {w : World} (K : Nat) (ha : Sl w a n c vs) (hbv : Bd B32 vs) (hK : K < B32) (hn : n ≤ 1000000000) :
    Calls Tryz.prog 81 #[.slice a n c, .int .u64 (K : Int)] w (New w (n + 1) (dig (rval vs * K))) := by
  obtain ⟨i0, hi, hz0, hs, hby⟩ := info_parts info64
  have H1 := Lib.hid hi; have H2 := Lib.hid hz0; have H3 := Lib.hid hs; have H4 := Lib.hid hby
  clear hi hz0 hs hby
  have HLA := Lib.hid ha.len
  have HBV := Lib.hid hbv
  have HK := Lib.hid hK
  have HA := Lib.hid ha
  clear ha hbv hK
  go_enter Tryz.func81, Tryz.ntmps81
  go_wp2_with (at_make; refine make_sl _ rfl _ _ _ rfl _ _ Tryz.underlying23 H1.out H2.out H3.out H4.out _ _ rfl rfl (n + 1) (by omega) (by omega) (by omega) ?_)
  intro o w3 hown3 hext3
  have HX3 := Lib.hid hext3
  clear hext3
  go_wp2_with fail
  go_loopw [6, 7] (fun cv iv wr => RSmRel w o n K vs cv iv wr) (fun _ iv _ => n - (intOf iv).toNat)
  case atStart => exact ⟨0, 0, List.replicate (n + 1) 0, by omega, rfl, rfl, B32_pos, hown3, Bd.replicate B32_pos _, HX3.out, by simp [nv]⟩
  case round =>
    obtain ⟨k, cr, os, hk, rfl, rfl, hcr, hown, hbos, hex, hinv⟩ := hrel
    have HOWN := Lib.hid hown
    have HBO := Lib.hid hbos
    have HX := Lib.hid hex
    have HINV := Lib.hid hinv
    have HCR := Lib.hid hcr
    clear hown hbos hex hinv hcr
    obtain ⟨bo, oo, hixo, hco, hao⟩ := HOWN.out.sl.ix (P := Tryz.prog) Tryz.underlying23 H1.out H3.out
    have z1 := hixo k (by omega)
    have z2 := hco k (by omega)
    have z3 := HOWN.out.free (hao (by omega)) (oo + k)
    have HAO := Lib.hid (hao (by omega))
    clear hixo hco hao
    by_cases hkn : k = n
    · subst hkn
      have HSO := Lib.hid (HOWN.out.store HAO.out k cr (by omega) (Nat.lt_of_lt_of_le HCR.out B32_lt))
      have hbd2 := HBO.out.set k HCR.out
      have hval : rval (os.set k cr) = rval vs * K := by
        have h := HINV.out
        have e := nv_take_set B32 os k cr (by rw [HOWN.out.sl.len]; omega)
        rw [List.take_of_length_le (by rw [List.length_set, HOWN.out.sl.len]; omega)] at e
        rw [List.take_of_length_le (l := vs) (by rw [HLA.out]; omega)] at h
        unfold rval
        rw [e, h, Nat.mul_comm]
      have HE := Lib.hid (trimL_dig hbd2)
      rw [hval] at HE
      have hle : (trimL (os.set k cr)).length ≤ k + 1 := by have := trimL_len (os.set k cr); rw [List.length_set, HOWN.out.sl.len] at this; exact this
      clear hval hbd2
      go_wp2_with fail
      refine (rtrim_calls HSO.out.1.sl).mono ?_
      rintro e w4 ⟨rfl, rfl⟩
      go_wp2_with fail
      go_ret
      have ho := HSO.out.1.rtrim
      rw [HE.out] at ho hle
      exact ⟨o, _, k + 1, by rw [HE.out]; rfl, ho, Ext.grown' HX.out HOWN.out (Nat.le_refl _) HSO.out.2, hle⟩
    · have g1 : (k : Int) < (n : Int) := by omega
      obtain ⟨ba, oa, hixa, hca, -⟩ := (HA.out.old HX.out).ix (P := Tryz.prog) Tryz.underlying23 H1.out H3.out
      have x1 := hixa k (by omega)
      have x2 := hca k (by omega)
      clear hixa hca
      obtain ⟨v, hv⟩ : ∃ v, vs.getD k 0 = v := ⟨_, rfl⟩
      rw [hv] at x2
      have hvB : v < B32 := by rw [← hv]; exact HBV.out.getD B32_pos k
      have hs64 : v * K + cr < B64 := by rw [← B32_sq]; exact mul_add_lt hvB HK.out HCR.out
      obtain ⟨s, hs⟩ : ∃ s, v * K + cr = s := ⟨_, rfl⟩
      obtain ⟨p, hp⟩ : ∃ p, v * K = p := ⟨_, rfl⟩
      rw [hs] at hs64
      have hand := rand_half s hs64
      have hshr := rshr_half s
      have w1' : IntKind.u64.wrap ((v : Int) * (K : Int)) = (p : Int) := by
        rw [B64_eq] at hs64
        rw [show ((v : Int) * (K : Int)) = (p : Int) by rw [← hp]; simp]; exact IntWalk.u64_in _ (by omega)
      have w2' : IntKind.u64.wrap ((p : Int) + (cr : Int)) = (s : Int) := by
        rw [B64_eq] at hs64
        rw [show ((p : Int) + (cr : Int)) = (s : Int) by omega]; exact IntWalk.u64_in _ (by omega)
      have HST := Lib.hid (rsm_step (s := s % B32) (c' := s / B32) (by rw [HOWN.out.sl.len]; omega) hv HINV.out (by rw [Nat.mod_add_div]; exact hs.symm))
      have d1 : s % B32 < B32 := Nat.mod_lt _ B32_pos
      have d2 : s / B32 < B32 := by rw [Nat.div_lt_iff_lt_mul B32_pos, B32_sq]; exact hs64
      obtain ⟨lo, hlo⟩ : ∃ lo, s % B32 = lo := ⟨_, rfl⟩
      obtain ⟨hi, hhi⟩ : ∃ hi, s / B32 = hi := ⟨_, rfl⟩
      rw [hlo] at hand HST d1; rw [hhi] at hshr HST d2
      have HHI := Lib.hid d2
      have HLO := Lib.hid d1
      have HSO := Lib.hid (HOWN.out.store HAO.out k lo (by omega) (Nat.lt_of_lt_of_le d1 B32_lt))
      clear hv hvB hs64 hs hp d1 d2 hlo hhi
      go_wp2_with fail
      go_roundw
      case rel => exact ⟨k + 1, hi, os.set k lo, by omega, by go_num, rfl, HHI.out, HSO.out.1, HBO.out.set k HLO.out, Ext.grown' HX.out HOWN.out (Nat.le_refl _) HSO.out.2, HST.out⟩
      case measure => simp only [intOf]; omega

end Go.Proofs.YtpfhifjkecoahaaGreatDoor
