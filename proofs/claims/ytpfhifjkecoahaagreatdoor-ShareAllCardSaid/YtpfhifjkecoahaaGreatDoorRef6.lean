/- gleanref1.take: digits taken away. -/
import Derived.Test.YtpfhifjkecoahaaGreatDoorRef5
namespace Go.Proofs.YtpfhifjkecoahaaGreatDoor
open Go.RowKit

def RTakeRel (w : World) (o : Option Addr) (M : Nat) (us vs : List Nat) (cv iv : Value) (wr : World) : Prop :=
  ∃ (k br : Nat) (os : List Nat), k ≤ M ∧ iv = .int .i64 (k : Int) ∧ cv = .int .u64 (br : Int) ∧ br ≤ 1 ∧ Own w.heap.size wr o M M os ∧ Bd B32 os ∧ Ext w wr ∧
    nv B32 (os.take k) + nv B32 (vs.take k) = nv B32 (us.take k) + B32 ^ k * br
theorem rtake_step {os us vs : List Nat} {k br u v x b' : Nat} (hk : k < os.length) (hu : us.getD k 0 = u) (hv : vs.getD k 0 = v)
    (h : nv B32 (os.take k) + nv B32 (vs.take k) = nv B32 (us.take k) + B32 ^ k * br) (hs : x + v + br = u + B32 * b') :
    nv B32 ((os.set k x).take (k + 1)) + nv B32 (vs.take (k + 1)) = nv B32 (us.take (k + 1)) + B32 ^ (k + 1) * b' := by
  rw [nv_take_set B32 os k x hk, nv_take_succ', nv_take_succ', hu, hv, Nat.pow_succ]
  exact sub_round h hs

set_option maxHeartbeats 8000000 in
set_option maxRecDepth 100000 in
theorem rtake_calls {a b : Option Addr} {m n1 c d : Nat} {us vs : List Nat} {w : World} (ha : Sl w a m c us) (hb : Sl w b n1 d vs) (hbu : Bd B32 us) (hbv : Bd B32 vs) (hnm : n1 ≤ m) (hle : rval vs ≤ rval us) (hm : m ≤ 1000000000) :
    Calls Tryz.prog 82 #[.slice a m c, .slice b n1 d] w (New w m (dig (rval us - rval vs))) := by
  obtain ⟨i0, hi, hz0, hs, hby⟩ := info_parts info64
  have H1 := Lib.hid hi; have H2 := Lib.hid hz0; have H3 := Lib.hid hs; have H4 := Lib.hid hby
  clear hi hz0 hs hby
  have HLA := Lib.hid ha.len; have HLB := Lib.hid hb.len
  have HBU := Lib.hid hbu; have HBV := Lib.hid hbv
  have HA := Lib.hid ha; have HB := Lib.hid hb; have HLE := Lib.hid hle
  clear ha hb hbu hbv hle
  go_enter Tryz.func82, Tryz.ntmps82
  go_wp2_with (at_make; refine make_sl _ rfl _ _ _ rfl _ _ Tryz.underlying23 H1.out H2.out H3.out H4.out _ _ rfl rfl m (by omega) (by omega) (by omega) ?_)
  intro o w3 hown3 hext3
  have HX3 := Lib.hid hext3
  clear hext3
  go_wp2_with fail
  go_loopw [6, 7] (fun cv iv wr => RTakeRel w o m us vs cv iv wr) (fun _ iv _ => m - (intOf iv).toNat)
  case atStart => exact ⟨0, 0, List.replicate m 0, by omega, rfl, rfl, by omega, hown3, Bd.replicate B32_pos _, HX3.out, by simp⟩
  case round =>
    obtain ⟨k, br, os, hk, rfl, rfl, hbr, hown, hbos, hex, hinv⟩ := hrel
    have HOWN := Lib.hid hown
    have HBO := Lib.hid hbos
    have HX := Lib.hid hex
    have HINV := Lib.hid hinv
    clear hown hbos hex hinv
    by_cases hkm : k = m
    · subst hkm
      have hval : rval os = rval us - rval vs := by
        have h := HINV.out
        have hl := HOWN.out.sl.len
        rw [List.take_of_length_le (by omega), List.take_of_length_le (by rw [HLB.out]; exact hnm), List.take_of_length_le (by rw [HLA.out]; omega)] at h
        have hlt := nv_lt HBO.out
        rw [hl] at hlt
        have hle := HLE.out
        unfold rval at *
        rcases Nat.eq_zero_or_pos br with h0 | h0
        · subst h0; omega
        · have : br = 1 := by omega
          subst this
          omega
      have HE := Lib.hid (trimL_dig HBO.out)
      rw [hval] at HE
      have hle2 : (trimL os).length ≤ k := by have := trimL_len os; rw [HOWN.out.sl.len] at this; exact this
      clear hval
      go_wp2_with fail
      refine (rtrim_calls HOWN.out.sl).mono ?_
      rintro e w4 ⟨rfl, rfl⟩
      go_wp2_with fail
      go_ret
      have ho := HOWN.out.rtrim
      rw [HE.out] at ho hle2
      exact ⟨o, _, k, by rw [HE.out]; rfl, ho, HX.out, hle2⟩
    · have g1 : (k : Int) < (m : Int) := by omega
      obtain ⟨bo, oo, hixo, hco, hao⟩ := HOWN.out.sl.ix (P := Tryz.prog) Tryz.underlying23 H1.out H3.out
      have z1 := hixo k (by omega)
      have z2 := hco k (by omega)
      have z3 := HOWN.out.free (hao (by omega)) (oo + k)
      have HAO := Lib.hid (hao (by omega))
      obtain ⟨ba, oa, hixa, hca, -⟩ := (HA.out.old HX.out).ix (P := Tryz.prog) Tryz.underlying23 H1.out H3.out
      obtain ⟨bb, ob, hixb, hcb, -⟩ := (HB.out.old HX.out).ix (P := Tryz.prog) Tryz.underlying23 H1.out H3.out
      have x1 := hixa k (by omega)
      have x2 := hca k (by omega)
      have HIB := Lib.hid hixb; have HCB := Lib.hid hcb
      clear hixa hca hixb hcb hixo hco hao
      obtain ⟨u, hu⟩ : ∃ u, us.getD k 0 = u := ⟨_, rfl⟩
      obtain ⟨v, hv⟩ : ∃ v, vs.getD k 0 = v := ⟨_, rfl⟩
      rw [hu] at x2
      have huB : u < B32 := by rw [← hu]; exact HBU.out.getD B32_pos k
      have hvB : v < B32 := by rw [← hv]; exact HBV.out.getD B32_pos k
      have hL := HOWN.out.sl.len
      obtain ⟨s, hs⟩ : ∃ s, br + v = s := ⟨_, rfl⟩
      have w1' : IntKind.u64.wrap ((br : Int) + (v : Int)) = (s : Int) := by
        rw [B32_eq] at hvB; rw [show ((br : Int) + (v : Int)) = (s : Int) by omega]; exact IntWalk.u64_in _ (by omega)
      have HS1 := Lib.hid (HOWN.out.store HAO.out k u (by omega) (Nat.lt_of_lt_of_le huB B32_lt))
      have HV0 := Lib.hid (fun h : n1 ≤ k => (by rw [← hv, getD_of_ge (by rw [HLB.out]; exact h)] : v = 0))
      by_cases hlt : u < s
      · obtain ⟨t, ht⟩ : ∃ t, u + 4294967295 = t := ⟨_, rfl⟩
        obtain ⟨t2, ht2⟩ : ∃ t2, t + 1 = t2 := ⟨_, rfl⟩
        obtain ⟨x, hx⟩ : ∃ x, t2 - s = x := ⟨_, rfl⟩
        have hxe : x + v + br = u + B32 * 1 := by rw [B32_eq] at *; omega
        have hxB : x < B32 := by rw [B32_eq] at *; omega
        have HST := Lib.hid (rtake_step (x := x) (b' := 1) (by omega) hu hv HINV.out hxe)
        have w2' : IntKind.u64.wrap ((u : Int) + 4294967295) = (t : Int) := by
          rw [B32_eq] at huB; rw [show ((u : Int) + 4294967295) = (t : Int) by omega]; exact IntWalk.u64_in _ (by omega)
        have w3' : IntKind.u64.wrap ((t : Int) + 1) = (t2 : Int) := by
          rw [B32_eq] at huB; rw [show ((t : Int) + 1) = (t2 : Int) by omega]; exact IntWalk.u64_in _ (by omega)
        have w4' : IntKind.u64.wrap ((t2 : Int) - (s : Int)) = (x : Int) := by
          rw [B32_eq] at hxB hxe huB; rw [show ((t2 : Int) - (s : Int)) = (x : Int) by omega]; exact IntWalk.u64_in _ (by omega)
        have HS2 := Lib.hid (HS1.out.1.store HAO.out k t2 (by omega) (by rw [B64_eq]; rw [B32_eq] at huB; omega))
        have HS3 := Lib.hid (HS2.out.1.store HAO.out k x (by omega) (Nat.lt_of_lt_of_le hxB B32_lt))
        have HFB := Lib.hid hxB
        have g2 : (u : Int) < (s : Int) := by omega
        have hset : ((os.set k u).set k t2).set k x = os.set k x := by rw [List.set_set, List.set_set]
        rw [hset] at HS3
        have HVE := Lib.hid hv; have HSE := Lib.hid hs
        clear hu hv huB hvB hL hs hlt ht ht2 hx hxe hxB hset
        by_cases hk2 : k < n1
        · have y1 := HIB.out k hk2
          have y2 := HCB.out k hk2
          rw [HVE.out] at y2
          have g3 : (k : Int) < (n1 : Int) := by omega
          go_wp2_with fail
          go_roundw
          case rel => exact ⟨k + 1, 1, os.set k x, by omega, by go_num, rfl, by omega, HS3.out.1, HBO.out.set k HFB.out, Ext.grown' (Ext.grown' (Ext.grown' HX.out HOWN.out (Nat.le_refl _) HS1.out.2) HS1.out.1 (Nat.le_refl _) HS2.out.2) HS2.out.1 (Nat.le_refl _) HS3.out.2, HST.out⟩
          case measure => simp only [intOf]; omega
        · have g3 : ¬ (k : Int) < (n1 : Int) := by omega
          have hv0 := HV0.out (by omega)
          have hbs : br = s := by have := HSE.out; omega
          subst hbs
          clear w1'
          go_wp2_with fail
          go_roundw
          case rel => exact ⟨k + 1, 1, os.set k x, by omega, by go_num, rfl, by omega, HS3.out.1, HBO.out.set k HFB.out, Ext.grown' (Ext.grown' (Ext.grown' HX.out HOWN.out (Nat.le_refl _) HS1.out.2) HS1.out.1 (Nat.le_refl _) HS2.out.2) HS2.out.1 (Nat.le_refl _) HS3.out.2, HST.out⟩
          case measure => simp only [intOf]; omega
      · obtain ⟨x, hx⟩ : ∃ x, u - s = x := ⟨_, rfl⟩
        have hxe : x + v + br = u + B32 * 0 := by omega
        have hxB : x < B32 := by omega
        have HST := Lib.hid (rtake_step (x := x) (b' := 0) (by omega) hu hv HINV.out hxe)
        have w4' : IntKind.u64.wrap ((u : Int) - (s : Int)) = (x : Int) := by
          rw [B32_eq] at huB; rw [show ((u : Int) - (s : Int)) = (x : Int) by omega]; exact IntWalk.u64_in _ (by omega)
        have HS3 := Lib.hid (HS1.out.1.store HAO.out k x (by omega) (Nat.lt_of_lt_of_le hxB B32_lt))
        have HFB := Lib.hid hxB
        have g2 : ¬ (u : Int) < (s : Int) := by omega
        have hset : (os.set k u).set k x = os.set k x := by rw [List.set_set]
        rw [hset] at HS3
        have HVE := Lib.hid hv; have HSE := Lib.hid hs
        clear hu hv huB hvB hL hs hlt hx hxe hxB hset
        by_cases hk2 : k < n1
        · have y1 := HIB.out k hk2
          have y2 := HCB.out k hk2
          rw [HVE.out] at y2
          have g3 : (k : Int) < (n1 : Int) := by omega
          go_wp2_with fail
          go_roundw
          case rel => exact ⟨k + 1, 0, os.set k x, by omega, by go_num, rfl, by omega, HS3.out.1, HBO.out.set k HFB.out, Ext.grown' (Ext.grown' HX.out HOWN.out (Nat.le_refl _) HS1.out.2) HS1.out.1 (Nat.le_refl _) HS3.out.2, HST.out⟩
          case measure => simp only [intOf]; omega
        · have g3 : ¬ (k : Int) < (n1 : Int) := by omega
          have hv0 := HV0.out (by omega)
          have hbs : br = s := by have := HSE.out; omega
          subst hbs
          clear w1'
          go_wp2_with fail
          go_roundw
          case rel => exact ⟨k + 1, 0, os.set k x, by omega, by go_num, rfl, by omega, HS3.out.1, HBO.out.set k HFB.out, Ext.grown' (Ext.grown' HX.out HOWN.out (Nat.le_refl _) HS1.out.2) HS1.out.1 (Nat.le_refl _) HS3.out.2, HST.out⟩
          case measure => simp only [intOf]; omega

end Go.Proofs.YtpfhifjkecoahaaGreatDoor
