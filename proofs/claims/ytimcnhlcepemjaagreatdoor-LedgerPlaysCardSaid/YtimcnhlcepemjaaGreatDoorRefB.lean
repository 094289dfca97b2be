
/- gleanref1.Mul. -/
import Derived.Test.YtimcnhlcepemjaaGreatDoorRefA
import Derived.Test.YtimcnhlcepemjaaGreatDoorMA
import Derived.Test.YtimcnhlcepemjaaGreatDoorMB
namespace Go.Proofs.YtimcnhlcepemjaaGreatDoor
open Go.RowKit

def RMulRel (w : World) (o : Option Addr) (A E : Nat) (us vs : List Nat) (iv : Value) (wr : World) : Prop :=
  ∃ (k : Nat) (os : List Nat), k ≤ A ∧ iv = .int .i64 k ∧ Own w.heap.size wr o (A + E) (A + E) os ∧ Bd B32 os ∧ Ext w wr ∧ nv B32 (os.take (k + E)) = nv B32 (us.take k) * nv B32 vs
def RMulRel2 (w : World) (o : Option Addr) (A E k u : Nat) (vs old : List Nat) (cv jv : Value) (wr : World) : Prop :=
  ∃ (j cr : Nat) (os : List Nat), j ≤ E ∧ jv = .int .i64 j ∧ cv = .int .u64 cr ∧ cr < B32 ∧ Own w.heap.size wr o (A + E) (A + E) os ∧ Bd B32 os ∧ Ext w wr ∧ os.drop (k + j) = old.drop (k + j) ∧
    nv B32 (os.take (k + j)) + B32 ^ (k + j) * cr = nv B32 (old.take (k + j)) + B32 ^ k * u * nv B32 (vs.take j)

set_option maxHeartbeats 8000000 in
set_option maxRecDepth 100000 in
theorem fmul_calls {a b : Option Addr} {m n c d : Nat} {xs ys : List Nat} {w : World} (ha : Sl w a m c xs) (hb : Sl w b n d ys) (hm : m ≤ 200000000) (hn : n ≤ 200000000) :
    Calls Tryz.prog 64 #[.slice a m c, .slice b n d] w (New w (2 * m + 2 * n) (lim (val xs * val ys))) := by
  obtain ⟨i0, hi, hz0, hs, hby⟩ := info_parts info64
  have H1 := Lib.hid hi; have H2 := Lib.hid hz0; have H3 := Lib.hid hs; have H4 := Lib.hid hby
  clear hi hz0 hs hby
  have HB := Lib.hid hb
  have CA := Lib.hid (digits_calls ha (by omega))
  generalize val xs = X at *
  clear ha hb
  go_enter Tryz.func64, Tryz.ntmps64
  go_wp2_with fail
  refine CA.out.mono ?_
  rintro e w1 ⟨o1, A, c1, rfl, hown1, hext1, hno1⟩
  have CB := Lib.hid (digits_calls (HB.out.old hext1) (by omega))
  generalize val ys = Y at *
  go_wp2_with fail
  refine CB.out.mono ?_
  rintro e w2 ⟨o2, E, c2, rfl, hown2, hext2, hno2⟩
  have ha' := hown1.sl.old hext2
  have hb' := hown2.sl
  have HEX := Lib.hid (hext1.trans hext2)
  have HA := Lib.hid ha'.len; have HE := Lib.hid hb'.len
  have HBU := Lib.hid (bd_dig X); have HBV := Lib.hid (bd_dig Y)
  have HVU := Lib.hid (rval_dig X); have HVV := Lib.hid (rval_dig Y)
  generalize dig X = us at *
  generalize dig Y = vs at *
  clear hown1 hown2 hext1 hext2
  go_wp2_with (at_make; refine make_sl _ rfl _ _ _ rfl _ _ Tryz.underlying32 H1.out H2.out H3.out H4.out _ _ rfl rfl (A + E) (by omega) (by omega) (by omega) ?_)
  intro o w3 ho hext
  go_wp2_with fail
  go_loopw [8] (fun iv wr => RMulRel w2 o A E us vs iv wr) (fun iv _ => A - (intOf iv).toNat)
  case atStart => exact ⟨0, _, by omega, rfl, ho, Bd.replicate B32_pos _, hext, by simp [List.take_replicate, nv_replicate]⟩
  case round =>
    obtain ⟨k, old, hk, rfl, hown, hbold, hex, hval⟩ := hrel
    have HV := Lib.hid hval
    have HBOLD := Lib.hid hbold
    clear hval hbold
    by_cases hlt : k < A
    · have g1 : (k : Int) < (A : Int) := by omega
      obtain ⟨wo, hwo⟩ : ∃ wo : World, wo = wr := ⟨_, rfl⟩
      subst hwo
      have q1 := HBU.out.getD B32_pos k
      obtain ⟨u, hu⟩ : ∃ u, us.getD k 0 = u := ⟨_, rfl⟩
      rw [hu] at q1
      have HU := Lib.hid hu
      have Q1 := Lib.hid q1
      clear hu q1
      go_wp2_with fail
      go_loopw [9, 10] (fun cv jv wr => RMulRel2 w2 o A E k u vs old cv jv wr) (fun _ jv _ => E - (intOf jv).toNat)
      case atStart => exact ⟨0, 0, old, by omega, rfl, rfl, B32_pos, hown, HBOLD.out, hex, rfl, by simp⟩
      case round =>
        obtain ⟨j, cr, os, hj, rfl, rfl, hcr, hown2, hbos, hex2, hdr, hval2⟩ := hrel
        have HV2 := Lib.hid hval2
        have HD := Lib.hid hdr
        have HBO := Lib.hid hbos
        have HCR := Lib.hid hcr
        clear hval2 hdr hbos hcr
        by_cases hlt2 : j < E
        · have g2 : (j : Int) < (E : Int) := by omega
          obtain ⟨bo, oo, hixo, hco, hao⟩ := hown2.sl.ix (P := Tryz.prog) Tryz.underlying32 H1.out H3.out
          obtain ⟨ba, oa, hixa, hca, -⟩ := (ha'.old hex2).ix (P := Tryz.prog) Tryz.underlying32 H1.out H3.out
          obtain ⟨bb, ob, hixb, hcb, -⟩ := (hb'.old hex2).ix (P := Tryz.prog) Tryz.underlying32 H1.out H3.out
          have x1 := hixa k hlt
          have x2 := hca k hlt
          rw [HU.out] at x2
          have x3 := hixb j hlt2
          have x4 := hcb j hlt2
          have x5 := hixo (k + j) (by omega)
          rw [show ((k + j : Nat) : Int) = (k : Int) + (j : Int) by omega] at x5
          have x6 := hco (k + j) (by omega)
          have x7 := hown2.free (hao (by omega)) (oo + (k + j))
          have HO := Lib.hid (hao (by omega))
          have p2 := HBV.out.getD B32_pos j
          have p3 := HBO.out.getD B32_pos (k + j)
          have HTY := Lib.hid (nv_take_succ' B32 vs j)
          have HTO := Lib.hid (nv_take_succ' B32 old (k + j))
          rw [← getD_of_drop HD.out] at HTO
          clear hixa hca hixb hcb hixo hco hao
          generalize vs.getD j 0 = v at *
          generalize os.getD (k + j) 0 = z at *
          have hs64 : u * v + z + cr < B64 := by rw [← B32_sq]; exact mul_add_add_lt Q1.out p2 p3 HCR.out
          obtain ⟨p, hp⟩ : ∃ p, u * v = p := ⟨_, rfl⟩
          rw [hp] at hs64
          obtain ⟨q, hq⟩ : ∃ q, z + p = q := ⟨_, rfl⟩
          obtain ⟨s, hs⟩ : ∃ s, q + cr = s := ⟨_, rfl⟩
          have hsB : s < B64 := by omega
          have hand := rand_half s hsB
          have hshr := rshr_half s
          have hs2 : s < 18446744073709551616 := hsB
          have w1' : IntKind.u64.wrap ((u : Int) * (v : Int)) = (p : Int) := by
            rw [show ((u : Int) * (v : Int)) = (p : Int) by rw [← hp]; simp]; exact IntWalk.u64_in _ (by omega)
          have w2' : IntKind.u64.wrap ((z : Int) + (p : Int)) = (q : Int) := by
            rw [show ((z : Int) + (p : Int)) = (q : Int) by omega]; exact IntWalk.u64_in _ (by omega)
          have w3' : IntKind.u64.wrap ((q : Int) + (cr : Int)) = (s : Int) := by
            rw [show ((q : Int) + (cr : Int)) = (s : Int) by omega]; exact IntWalk.u64_in _ (by omega)
          have d1 : s % B32 < B32 := Nat.mod_lt _ B32_pos
          have d2 : s / B32 < B32 := by rw [Nat.div_lt_iff_lt_mul B32_pos, B32_sq]; exact hsB
          have HSUM := Lib.hid (show s % B32 + B32 * (s / B32) = u * v + z + cr by rw [Nat.mod_add_div, hp]; omega)
          obtain ⟨lo, hlo⟩ : ∃ lo, s % B32 = lo := ⟨_, rfl⟩
          obtain ⟨hi, hhi⟩ : ∃ hi, s / B32 = hi := ⟨_, rfl⟩
          rw [hlo] at hand HSUM d1; rw [hhi] at hshr HSUM d2
          have D1 := Lib.hid d1; have D2 := Lib.hid d2
          have HS := Lib.hid (fun n : Nat => (hown2.old ((Ext.refl _).drewN n)).store HO.out (k + j) lo (by omega) (Nat.lt_of_lt_of_le d1 B32_lt))
          clear p2 p3 hs64 hp hq hs hsB hs2 d1 d2 hlo hhi
          go_wp2_with fail
          go_quiet (fail)
          go_wp2_with fail
          go_roundw
          case rel =>
            refine ⟨j + 1, hi, os.set (k + j) lo, by omega, by go_num, rfl, D2.out, (HS.out _).1, HBO.out.set _ D1.out, ?_, ?_, ?_⟩
            · exact Ext.grown' (hex2.drewN _) (hown2.old ((Ext.refl _).drewN _)) (Nat.le_refl _) (HS.out _).2
            · rw [← Nat.add_assoc, drop_set_lo _ _ _ _ (by omega)]; exact drop_succ_of_drop HD.out
            · rw [← Nat.add_assoc, HTO.out, HTY.out, nv_take_set _ _ _ _ (by rw [hown2.sl.len]; omega), Nat.pow_succ, mul_step]
              exact mul_round HV2.out HSUM.out
          case measure => simp [intOf]; omega
        · obtain rfl : j = E := by omega
          obtain ⟨bo, oo, hixo, hco, hao⟩ := hown2.sl.ix (P := Tryz.prog) Tryz.underlying32 H1.out H3.out
          have x5 := hixo (k + j) (by omega)
          rw [show ((k + j : Nat) : Int) = (k : Int) + (j : Int) by omega] at x5
          have x6 := hco (k + j) (by omega)
          have x7 := hown2.free (hao (by omega)) (oo + (k + j))
          have HO := Lib.hid (hao (by omega))
          have HW := Lib.hid (mul_outer HU.out HE.out hown2.sl.len hlt HV.out HV2.out)
          clear hixo hco hao
          generalize os.getD (k + j) 0 = z at *
          have HS := Lib.hid (hown2.store HO.out (k + j) cr (by omega) (Nat.lt_of_lt_of_le HCR.out B32_lt))
          go_wp2_with fail
          go_roundw
          case rel =>
            exact ⟨k + 1, os.set (k + j) cr, by omega, by go_num, HS.out.1, HBO.out.set _ HCR.out, Ext.grown' hex2 hown2 (Nat.le_refl _) HS.out.2, HW.out⟩
          case measure => simp [intOf]; omega
    · obtain rfl : k = A := by omega
      have hv : rval old = X * Y := by
        have := HV.out
        rw [nv_take_of_le B32 old _ (by rw [hown.sl.len]; omega), nv_take_of_le B32 us _ (by rw [HA.out]; omega)] at this
        rw [← HVU.out, ← HVV.out]; exact this
      have HW := Lib.hid hv
      clear hv
      go_wp2_with fail
      refine (number_calls hown.sl HBOLD.out (by omega)).mono ?_
      rintro e w4 ⟨o4, n4, c4, rfl, hown4, hext4, hno4⟩
      rw [HW.out] at hown4
      go_wp2_with fail
      go_ret
      exact ⟨o4, n4, c4, rfl, hown4.mono (HEX.out.trans hex).size, (HEX.out.trans hex).trans hext4, by omega⟩

end Go.Proofs.YtimcnhlcepemjaaGreatDoor

/- gleanref1.take: digits taken away. -/
namespace Go.Proofs.YtimcnhlcepemjaaGreatDoor
open Go.RowKit

def RTakeRel (w : World) (o : Option Addr) (M : Nat) (us vs : List Nat) (cv iv : Value) (wr : World) : Prop :=
  ∃ (k br : Nat) (os : List Nat), k ≤ M ∧ iv = .int .i64 (k : Int) ∧ cv = .int .u64 (br : Int) ∧ br ≤ 1 ∧ Own w.heap.size wr o M M os ∧ Bd B32 os ∧ Ext w wr ∧
    nv B32 (os.take k) + nv B32 (vs.take k) = nv B32 (us.take k) + B32 ^ k * br
theorem rtake_step {os us vs : List Nat} {k br u v x b' : Nat} (hk : k < os.length) (hu : us.getD k 0 = u) (hv : vs.getD k 0 = v)
    (h : nv B32 (os.take k) + nv B32 (vs.take k) = nv B32 (us.take k) + B32 ^ k * br) (hs : x + v + br = u + B32 * b') :
    nv B32 ((os.set k x).take (k + 1)) + nv B32 (vs.take (k + 1)) = nv B32 (us.take (k + 1)) + B32 ^ (k + 1) * b' := by
  rw [nv_take_set B32 os k x hk, nv_take_succ', nv_take_succ', hu, hv, Nat.pow_succ]
  exact sub_round h hs

set_option maxHeartbeats 8000000 in
set_option maxRecDepth 100000 in
theorem rtake_calls {a b : Option Addr} {m n1 c d : Nat} {us vs : List Nat} {w : World} (ha : Sl w a m c us) (hb : Sl w b n1 d vs) (hbu : Bd B32 us) (hbv : Bd B32 vs) (hnm : n1 ≤ m) (hle : rval vs ≤ rval us) (hm : m ≤ 1000000000) :
    Calls Tryz.prog 160 #[.slice a m c, .slice b n1 d] w (New w m (dig (rval us - rval vs))) := by
  obtain ⟨i0, hi, hz0, hs, hby⟩ := info_parts info64
  have H1 := Lib.hid hi; have H2 := Lib.hid hz0; have H3 := Lib.hid hs; have H4 := Lib.hid hby
  clear hi hz0 hs hby
  have HLA := Lib.hid ha.len; have HLB := Lib.hid hb.len
  have HBU := Lib.hid hbu; have HBV := Lib.hid hbv
  have HA := Lib.hid ha; have HB := Lib.hid hb; have HLE := Lib.hid hle
  clear ha hb hbu hbv hle
  go_enter Tryz.func160, Tryz.ntmps160
  go_wp2_with (at_make; refine make_sl _ rfl _ _ _ rfl _ _ Tryz.underlying32 H1.out H2.out H3.out H4.out _ _ rfl rfl m (by omega) (by omega) (by omega) ?_)
  intro o w3 hown3 hext3
  have HX3 := Lib.hid hext3
  clear hext3
  go_wp2_with fail
  go_loopw [6, 7] (fun cv iv wr => RTakeRel w o m us vs cv iv wr) (fun _ iv _ => m - (intOf iv).toNat)
  case atStart => exact ⟨0, 0, List.replicate m 0, by omega, rfl, rfl, by omega, hown3, Bd.replicate B32_pos _, HX3.out, by simp⟩
  case round =>
    obtain ⟨k, br, os, hk, rfl, rfl, hbr, hown, hbos, hex, hinv⟩ := hrel
    have HOWN := Lib.hid hown
    have HBO := Lib.hid hbos
    have HX := Lib.hid hex
    have HINV := Lib.hid hinv
    clear hown hbos hex hinv
    by_cases hkm : k = m
    · subst hkm
      have hval : rval os = rval us - rval vs := by
        have h := HINV.out
        have hl := HOWN.out.sl.len
        rw [List.take_of_length_le (by omega), List.take_of_length_le (by rw [HLB.out]; exact hnm), List.take_of_length_le (by rw [HLA.out]; omega)] at h
        have hlt := nv_lt HBO.out
        rw [hl] at hlt
        have hle := HLE.out
        unfold rval at *
        rcases Nat.eq_zero_or_pos br with h0 | h0
        · subst h0; omega
        · have : br = 1 := by omega
          subst this
          omega
      have HE := Lib.hid (trimL_dig HBO.out)
      rw [hval] at HE
      have hle2 : (trimL os).length ≤ k := by have := trimL_len os; rw [HOWN.out.sl.len] at this; exact this
      clear hval
      go_wp2_with fail
      refine (rtrim_calls HOWN.out.sl).mono ?_
      rintro e w4 ⟨rfl, rfl⟩
      go_wp2_with fail
      go_ret
      have ho := HOWN.out.rtrim
      rw [HE.out] at ho hle2
      exact ⟨o, _, k, by rw [HE.out]; rfl, ho, HX.out, hle2⟩
    · have g1 : (k : Int) < (m : Int) := by omega
      obtain ⟨bo, oo, hixo, hco, hao⟩ := HOWN.out.sl.ix (P := Tryz.prog) Tryz.underlying32 H1.out H3.out
      have z1 := hixo k (by omega)
      have z2 := hco k (by omega)
      have z3 := HOWN.out.free (hao (by omega)) (oo + k)
      have HAO := Lib.hid (hao (by omega))
      obtain ⟨ba, oa, hixa, hca, -⟩ := (HA.out.old HX.out).ix (P := Tryz.prog) Tryz.underlying32 H1.out H3.out
      obtain ⟨bb, ob, hixb, hcb, -⟩ := (HB.out.old HX.out).ix (P := Tryz.prog) Tryz.underlying32 H1.out H3.out
      have x1 := hixa k (by omega)
      have x2 := hca k (by omega)
      have HIB := Lib.hid hixb; have HCB := Lib.hid hcb
      clear hixa hca hixb hcb hixo hco hao
      obtain ⟨u, hu⟩ : ∃ u, us.getD k 0 = u := ⟨_, rfl⟩
      obtain ⟨v, hv⟩ : ∃ v, vs.getD k 0 = v := ⟨_, rfl⟩
      rw [hu] at x2
      have huB : u < B32 := by rw [← hu]; exact HBU.out.getD B32_pos k
      have hvB : v < B32 := by rw [← hv]; exact HBV.out.getD B32_pos k
      have hL := HOWN.out.sl.len
      obtain ⟨s, hs⟩ : ∃ s, br + v = s := ⟨_, rfl⟩
      have w1' : IntKind.u64.wrap ((br : Int) + (v : Int)) = (s : Int) := by
        rw [B32_eq] at hvB; rw [show ((br : Int) + (v : Int)) = (s : Int) by omega]; exact IntWalk.u64_in _ (by omega)
      have HS1 := Lib.hid (HOWN.out.store HAO.out k u (by omega) (Nat.lt_of_lt_of_le huB B32_lt))
      have HV0 := Lib.hid (fun h : n1 ≤ k => (by rw [← hv, getD_of_ge (by rw [HLB.out]; exact h)] : v = 0))
      by_cases hlt : u < s
      · obtain ⟨t, ht⟩ : ∃ t, u + 4294967295 = t := ⟨_, rfl⟩
        obtain ⟨t2, ht2⟩ : ∃ t2, t + 1 = t2 := ⟨_, rfl⟩
        obtain ⟨x, hx⟩ : ∃ x, t2 - s = x := ⟨_, rfl⟩
        have hxe : x + v + br = u + B32 * 1 := by rw [B32_eq] at *; omega
        have hxB : x < B32 := by rw [B32_eq] at *; omega
        have HST := Lib.hid (rtake_step (x := x) (b' := 1) (by omega) hu hv HINV.out hxe)
        have w2' : IntKind.u64.wrap ((u : Int) + 4294967295) = (t : Int) := by
          rw [B32_eq] at huB; rw [show ((u : Int) + 4294967295) = (t : Int) by omega]; exact IntWalk.u64_in _ (by omega)
        have w3' : IntKind.u64.wrap ((t : Int) + 1) = (t2 : Int) := by
          rw [B32_eq] at huB; rw [show ((t : Int) + 1) = (t2 : Int) by omega]; exact IntWalk.u64_in _ (by omega)
        have w4' : IntKind.u64.wrap ((t2 : Int) - (s : Int)) = (x : Int) := by
          rw [B32_eq] at hxB hxe huB; rw [show ((t2 : Int) - (s : Int)) = (x : Int) by omega]; exact IntWalk.u64_in _ (by omega)
        have HS2 := Lib.hid (HS1.out.1.store HAO.out k t2 (by omega) (by rw [B64_eq]; rw [B32_eq] at huB; omega))
        have HS3 := Lib.hid (HS2.out.1.store HAO.out k x (by omega) (Nat.lt_of_lt_of_le hxB B32_lt))
        have HFB := Lib.hid hxB
        have g2 : (u : Int) < (s : Int) := by omega
        have hset : ((os.set k u).set k t2).set k x = os.set k x := by rw [List.set_set, List.set_set]
        rw [hset] at HS3
        have HVE := Lib.hid hv; have HSE := Lib.hid hs
        clear hu hv huB hvB hL hs hlt ht ht2 hx hxe hxB hset
        by_cases hk2 : k < n1
        · have y1 := HIB.out k hk2
          have y2 := HCB.out k hk2
          rw [HVE.out] at y2
          have g3 : (k : Int) < (n1 : Int) := by omega
          go_wp2_with fail
          go_roundw
          case rel => exact ⟨k + 1, 1, os.set k x, by omega, by go_num, rfl, by omega, HS3.out.1, HBO.out.set k HFB.out, Ext.grown' (Ext.grown' (Ext.grown' HX.out HOWN.out (Nat.le_refl _) HS1.out.2) HS1.out.1 (Nat.le_refl _) HS2.out.2) HS2.out.1 (Nat.le_refl _) HS3.out.2, HST.out⟩
          case measure => simp only [intOf]; omega
        · have g3 : ¬ (k : Int) < (n1 : Int) := by omega
          have hv0 := HV0.out (by omega)
          have hbs : br = s := by have := HSE.out; omega
          subst hbs
          clear w1'
          go_wp2_with fail
          go_roundw
          case rel => exact ⟨k + 1, 1, os.set k x, by omega, by go_num, rfl, by omega, HS3.out.1, HBO.out.set k HFB.out, Ext.grown' (Ext.grown' (Ext.grown' HX.out HOWN.out (Nat.le_refl _) HS1.out.2) HS1.out.1 (Nat.le_refl _) HS2.out.2) HS2.out.1 (Nat.le_refl _) HS3.out.2, HST.out⟩
          case measure => simp only [intOf]; omega
      · obtain ⟨x, hx⟩ : ∃ x, u - s = x := ⟨_, rfl⟩
        have hxe : x + v + br = u + B32 * 0 := by omega
        have hxB : x < B32 := by omega
        have HST := Lib.hid (rtake_step (x := x) (b' := 0) (by omega) hu hv HINV.out hxe)
        have w4' : IntKind.u64.wrap ((u : Int) - (s : Int)) = (x : Int) := by
          rw [B32_eq] at huB; rw [show ((u : Int) - (s : Int)) = (x : Int) by omega]; exact IntWalk.u64_in _ (by omega)
        have HS3 := Lib.hid (HS1.out.1.store HAO.out k x (by omega) (Nat.lt_of_lt_of_le hxB B32_lt))
        have HFB := Lib.hid hxB
        have g2 : ¬ (u : Int) < (s : Int) := by omega
        have hset : (os.set k u).set k x = os.set k x := by rw [List.set_set]
        rw [hset] at HS3
        have HVE := Lib.hid hv; have HSE := Lib.hid hs
        clear hu hv huB hvB hL hs hlt hx hxe hxB hset
        by_cases hk2 : k < n1
        · have y1 := HIB.out k hk2
          have y2 := HCB.out k hk2
          rw [HVE.out] at y2
          have g3 : (k : Int) < (n1 : Int) := by omega
          go_wp2_with fail
          go_roundw
          case rel => exact ⟨k + 1, 0, os.set k x, by omega, by go_num, rfl, by omega, HS3.out.1, HBO.out.set k HFB.out, Ext.grown' (Ext.grown' HX.out HOWN.out (Nat.le_refl _) HS1.out.2) HS1.out.1 (Nat.le_refl _) HS3.out.2, HST.out⟩
          case measure => simp only [intOf]; omega
        · have g3 : ¬ (k : Int) < (n1 : Int) := by omega
          have hv0 := HV0.out (by omega)
          have hbs : br = s := by have := HSE.out; omega
          subst hbs
          clear w1'
          go_wp2_with fail
          go_roundw
          case rel => exact ⟨k + 1, 0, os.set k x, by omega, by go_num, rfl, by omega, HS3.out.1, HBO.out.set k HFB.out, Ext.grown' (Ext.grown' HX.out HOWN.out (Nat.le_refl _) HS1.out.2) HS1.out.1 (Nat.le_refl _) HS3.out.2, HST.out⟩
          case measure => simp only [intOf]; omega

end Go.Proofs.YtimcnhlcepemjaaGreatDoor

/- gleanref1.guess: bounds of a quotient's digit. -/
namespace Go.Proofs.YtimcnhlcepemjaaGreatDoor
open Go.RowKit

theorem rguess_ok {P R Y T d r0 y0 : Nat} (hP : 0 < P) (hR : R = r0 + P * T) (hr0 : r0 < P) (hY : Y = y0 + P * d) (hy0 : y0 < P) (hd : 0 < d) :
    T / (d + 1) ≤ R / Y ∧ R / Y ≤ T / d := by
  have hYp : 0 < Y := by rw [hY]; have := Nat.mul_pos hP hd; omega
  constructor
  · rw [Nat.le_div_iff_mul_le hYp]
    have h1 : T / (d + 1) * (d + 1) ≤ T := Nat.div_mul_le_self _ _
    have h2 : Y ≤ P * (d + 1) := by rw [hY, Nat.mul_add]; omega
    calc T / (d + 1) * Y ≤ T / (d + 1) * (P * (d + 1)) := Nat.mul_le_mul_left _ h2
      _ = P * (T / (d + 1) * (d + 1)) := by rw [Nat.mul_left_comm]
      _ ≤ P * T := Nat.mul_le_mul_left _ h1
      _ ≤ R := by omega
  · rw [Nat.le_div_iff_mul_le hd]
    have h1 : R / Y * Y ≤ R := Nat.div_mul_le_self _ _
    have h2 : P * (R / Y * d) ≤ R / Y * Y := by
      rw [Nat.mul_left_comm]
      exact Nat.mul_le_mul_left _ (by omega)
    have h3 : P * (R / Y * d) < P * (T + 1) := by rw [Nat.mul_add]; omega
    have := Nat.lt_of_mul_lt_mul_left h3
    omega

/-- Where the two numbers' heads lie. -/
theorem rtop {us : List Nat} {L m : Nat} (hb : Bd B32 us) (hl : us.length = m) (hL : 0 < L) (hm : m = L) : ∃ r0, rval us = r0 + B32 ^ (L - 1) * us.getD (L - 1) 0 ∧ r0 < B32 ^ (L - 1) := by
  refine ⟨nv B32 (us.take (L - 1)), ?_, ?_⟩
  · have := nv_take_succ' B32 us (L - 1)
    rw [show L - 1 + 1 = L by omega, List.take_of_length_le (by omega)] at this
    exact this
  · have := nv_lt (hb.take (L - 1))
    rwa [List.length_take, hl, Nat.min_eq_left (by omega)] at this
theorem rtop2 {us : List Nat} {L m : Nat} (hb : Bd B32 us) (hl : us.length = m) (hL : 0 < L) (hm : m = L + 1) :
    ∃ r0, rval us = r0 + B32 ^ (L - 1) * (us.getD (L - 1) 0 + B32 * us.getD L 0) ∧ r0 < B32 ^ (L - 1) := by
  refine ⟨nv B32 (us.take (L - 1)), ?_, ?_⟩
  · have h1 := nv_take_succ' B32 us (L - 1)
    have h2 := nv_take_succ' B32 us L
    rw [List.take_of_length_le (by omega)] at h2
    rw [show L - 1 + 1 = L by omega] at h1
    unfold rval
    rw [h2, h1, Nat.mul_add, ← Nat.mul_assoc, ← Nat.pow_succ, show (L - 1).succ = L by omega, Nat.add_assoc]
  · have := nv_lt (hb.take (L - 1))
    rwa [List.length_take, hl, Nat.min_eq_left (by omega)] at this
theorem dig_top {n : Nat} (h : n ≠ 0) : (dig n).getD ((dig n).length - 1) 0 ≠ 0 := by
  intro h0
  have hn := nrm_digs B32_two n
  apply hn
  rw [List.getLast?_eq_getElem?]
  have hl : (dig n).length ≠ 0 := fun e => by
    have := List.eq_nil_of_length_eq_zero e
    exact h ((digs_nil B32_two).1 this)
  change (dig n)[(dig n).length - 1]? = some 0
  rw [List.getElem?_eq_getElem (by omega)]
  rw [List.getD_eq_getElem?_getD, List.getElem?_eq_getElem (by omega)] at h0
  simpa using h0
theorem dig_len_lt {m n : Nat} (h : (dig m).length < (dig n).length) : m < n := digs_len_lt B32_two h
theorem dig_lt (n : Nat) : n < B32 ^ (dig n).length := digs_lt_pow B32_two n
theorem dig_len_le {n k : Nat} (h : n < B32 ^ k) : (dig n).length ≤ k := digs_len_le B32_two h

def GuessRes (w : World) (q : Nat) (e : Ending) (w' : World) : Prop :=
  ∃ lo hi : Nat, lo ≤ q ∧ q ≤ hi ∧ hi < B32 ∧ RetD (.tuple #[.int .u64 (lo : Int), .int .u64 (hi : Int)]) w e w'

theorem guess_min {T d q : Nat} (h1 : T / (d + 1) ≤ q) (h2 : q ≤ T / d) (hq : q < B32) : min (T / (d + 1)) 4294967295 ≤ q ∧ q ≤ min (T / d) 4294967295 ∧ min (T / d) 4294967295 < B32 := by
  rw [B32_eq] at *
  exact ⟨Nat.le_trans (Nat.min_le_left _ _) h1, Nat.le_min.2 ⟨h2, by omega⟩, Nat.lt_of_le_of_lt (Nat.min_le_right _ _) (by decide)⟩

set_option maxHeartbeats 8000000 in
set_option maxRecDepth 100000 in
theorem rguess_calls {a b : Option Addr} {m L c d : Nat} (R Y : Nat) {w : World} (ha : Sl w a m c (dig R)) (hb : Sl w b L d (dig Y)) (hY : Y ≠ 0) (hR : R < Y * B32) :
    Calls Tryz.prog 158 #[.slice a m c, .slice b L d] w (GuessRes w (R / Y)) := by
  obtain ⟨i0, hi, hz0, hs, hby⟩ := info_parts info64
  have H1 := Lib.hid hi; have H3 := Lib.hid hs
  clear hi hz0 hs hby
  have hla := ha.len; have hlb := hb.len
  have hbig : m ≤ 9223372036854775807 := Nat.le_trans ha.cap ha.big
  have hbig2 : L ≤ 9223372036854775807 := Nat.le_trans hb.cap hb.big
  have hq : R / Y < B32 := by rw [Nat.div_lt_iff_lt_mul (Nat.pos_of_ne_zero hY), Nat.mul_comm]; exact hR
  have hL0 : 0 < L := by
    rcases Nat.eq_zero_or_pos L with h | h
    · exact absurd ((digs_nil B32_two).1 (List.eq_nil_of_length_eq_zero (by rw [← h]; exact hlb))) hY
    · exact h
  by_cases hlt : m < L
  · have hq0 : R / Y = 0 := Nat.div_eq_of_lt (dig_len_lt (by rw [hla, hlb]; exact hlt))
    have g1 : (m : Int) < (L : Int) := by omega
    rw [hq0]
    clear hq hq0 hR hY hla hlb
    go_enter Tryz.func158, Tryz.ntmps158
    go_wp2_with fail
    go_ret2
    exact ⟨0, 0, Nat.le_refl _, Nat.le_refl _, B32_pos, rfl, 0, rfl⟩
  have g1 : ¬ (m : Int) < (L : Int) := by omega
  have hmL : m = L ∨ m = L + 1 := by
    have h1 : R < B32 ^ (L + 1) := by
      have := dig_lt Y
      rw [hlb] at this
      rw [Nat.pow_succ]
      exact Nat.lt_trans hR (Nat.mul_lt_mul_of_pos_right this B32_pos)
    have := dig_len_le h1
    rw [hla] at this
    omega
  obtain ⟨bb, ob, hixb, hcb, -⟩ := hb.ix (P := Tryz.prog) Tryz.underlying32 H1.out H3.out
  obtain ⟨ba, oa, hixa, hca, -⟩ := ha.ix (P := Tryz.prog) Tryz.underlying32 H1.out H3.out
  have y1 := hixb (L - 1) (by omega)
  have y2 := hcb (L - 1) (by omega)
  rw [show ((L - 1 : Nat) : Int) = (L : Int) - 1 by omega] at y1
  obtain ⟨dd, hdd⟩ : ∃ dd, (dig Y).getD (L - 1) 0 = dd := ⟨_, rfl⟩
  have hd0 : dd ≠ 0 := by have := dig_top hY; rw [hlb, hdd] at this; exact this
  have hdB : dd < B32 := by rw [← hdd]; exact (bd_dig Y).getD B32_pos _
  obtain ⟨y0, hYe, hy0⟩ := rtop (bd_dig Y) hlb hL0 rfl
  rw [rval_dig, hdd] at hYe
  rw [hdd] at y2
  have hP : 0 < B32 ^ (L - 1) := Nat.pow_pos B32_pos
  obtain ⟨d1, hd1⟩ : ∃ d1, dd + 1 = d1 := ⟨_, rfl⟩
  have w1' : IntKind.u64.wrap ((dd : Int) + 1) = (d1 : Int) := by
    rw [B32_eq] at hdB; rw [show ((dd : Int) + 1) = (d1 : Int) by omega]; exact IntWalk.u64_in _ (by omega)
  have n1 : ((d1 : Int) == 0) = false := by rw [beq_eq_false_iff_ne]; omega
  have n2 : ((dd : Int) == 0) = false := by rw [beq_eq_false_iff_ne]; omega
  have n3 : ¬ (d1 : Int) = 0 := by omega
  have n4 : ¬ (dd : Int) = 0 := by omega
  clear hixb hcb
  rcases hmL with hmL | hmL
  · have x1 := hixa (m - 1) (by omega)
    have x2 := hca (m - 1) (by omega)
    rw [show ((m - 1 : Nat) : Int) = (m : Int) - 1 by omega] at x1
    obtain ⟨T, hT⟩ : ∃ T, (dig R).getD (m - 1) 0 = T := ⟨_, rfl⟩
    obtain ⟨r0, hRe, hr0⟩ := rtop (bd_dig R) hla hL0 hmL
    rw [rval_dig, ← hmL, hT] at hRe
    rw [hT] at x2
    have hRe' : R = r0 + B32 ^ (L - 1) * T := by rw [← hmL]; exact hRe
    have HG := rguess_ok hP hRe' hr0 hYe hy0 (by omega)
    have HM := guess_min HG.1 HG.2 hq
    rw [hd1] at HM
    obtain ⟨q1, hq1⟩ : ∃ q1, T / d1 = q1 := ⟨_, rfl⟩
    obtain ⟨q2, hq2⟩ : ∃ q2, T / dd = q2 := ⟨_, rfl⟩
    have f1 : (T : Int) / (d1 : Int) = (q1 : Int) := by rw [← hq1]; simp
    have f2 : (T : Int) / (dd : Int) = (q2 : Int) := by rw [← hq2]; simp
    have f3 : (T : Int).tdiv (d1 : Int) = (q1 : Int) := by rw [Int.tdiv_eq_ediv_of_nonneg (by omega)]; exact f1
    have f4 : (T : Int).tdiv (dd : Int) = (q2 : Int) := by rw [Int.tdiv_eq_ediv_of_nonneg (by omega)]; exact f2
    rw [hq1, hq2] at HM
    obtain ⟨lo, hlo⟩ : ∃ lo, min q1 4294967295 = lo := ⟨_, rfl⟩
    obtain ⟨hi, hhi⟩ : ∃ hi, min q2 4294967295 = hi := ⟨_, rfl⟩
    have f5 : min (q1 : Int) 4294967295 = (lo : Int) := by omega
    have f6 : min (q2 : Int) 4294967295 = (hi : Int) := by omega
    rw [hlo, hhi] at HM
    have HMH := Lib.hid HM
    have g2 : ¬ (L : Int) < (m : Int) := by omega
    have hTB : T < B32 := by rw [← hT]; exact (bd_dig R).getD B32_pos _
    have hq1B : q1 ≤ T := by rw [← hq1]; exact Nat.div_le_self _ _
    have hq2B : q2 ≤ T := by rw [← hq2]; exact Nat.div_le_self _ _
    rw [B32_eq] at hTB
    have wq1 : IntKind.u64.wrap (q1 : Int) = (q1 : Int) := IntWalk.u64_in _ (by omega)
    have wq2 : IntKind.u64.wrap (q2 : Int) = (q2 : Int) := IntWalk.u64_in _ (by omega)
    clear hTB hq1B hq2B
    clear hixa hca HG HM hRe hRe' hr0 hYe hy0 hP hT hdd hd0 hdB hd1 hq1 hq2 hlo hhi hq hR hY hla hlb hmL
    go_enter Tryz.func158, Tryz.ntmps158
    go_wp2_with fail
    go_quiet (fail)
    go_wp2_with fail
    go_ret2
    exact ⟨lo, hi, HMH.out.1, HMH.out.2.1, HMH.out.2.2, rfl, _, rfl⟩
  · have x1 := hixa (m - 1) (by omega)
    have x2 := hca (m - 1) (by omega)
    rw [show ((m - 1 : Nat) : Int) = (m : Int) - 1 by omega] at x1
    have x3 := hixa (m - 2) (by omega)
    have x4 := hca (m - 2) (by omega)
    rw [show ((m - 2 : Nat) : Int) = (m : Int) - 2 by omega] at x3
    obtain ⟨r0, hRe, hr0⟩ := rtop2 (bd_dig R) hla hL0 hmL
    have e4 : (dig R).getD (m - 2) 0 = (dig R).getD (L - 1) 0 := by rw [show m - 2 = L - 1 by omega]
    have e2 : (dig R).getD (m - 1) 0 = (dig R).getD L 0 := by rw [show m - 1 = L by omega]
    rw [e4] at x4
    rw [e2] at x2
    clear e4 e2
    obtain ⟨h, hh⟩ : ∃ h, (dig R).getD L 0 = h := ⟨_, rfl⟩
    obtain ⟨l, hl⟩ : ∃ l, (dig R).getD (L - 1) 0 = l := ⟨_, rfl⟩
    have hhB : h < B32 := by rw [← hh]; exact (bd_dig R).getD B32_pos _
    have hlB : l < B32 := by rw [← hl]; exact (bd_dig R).getD B32_pos _
    obtain ⟨T, hT⟩ : ∃ T, l + B32 * h = T := ⟨_, rfl⟩
    rw [rval_dig, hh, hl, hT] at hRe
    rw [hh] at x2; rw [hl] at x4
    have HG := rguess_ok hP hRe hr0 hYe hy0 (by omega)
    have HM := guess_min HG.1 HG.2 hq
    obtain ⟨s, hs⟩ : ∃ s, h * 4294967296 = s := ⟨_, rfl⟩
    have hsh : IntKind.u64.wrap ((h : Int) * 4294967296) = (s : Int) := by
      rw [B32_eq] at hhB
      rw [show ((h : Int) * 4294967296) = (s : Int) by omega]; exact IntWalk.u64_in _ (by omega)
    have hor : bits BinOp.or IntKind.u64 (s : Int) (l : Int) = (T : Int) := by
      have e := or_add (d := h) hlB
      rw [B32_eq] at hhB hlB
      rw [bits_or_u64_nat s l (by omega) (by omega), Nat.or_comm, ← hs, e, hT]
    have hTB : T < 18446744073709551616 := by rw [← hT]; rw [B32_eq] at *; omega
    rw [hd1] at HM
    obtain ⟨q1, hq1⟩ : ∃ q1, T / d1 = q1 := ⟨_, rfl⟩
    obtain ⟨q2, hq2⟩ : ∃ q2, T / dd = q2 := ⟨_, rfl⟩
    have f1 : (T : Int) / (d1 : Int) = (q1 : Int) := by rw [← hq1]; simp
    have f2 : (T : Int) / (dd : Int) = (q2 : Int) := by rw [← hq2]; simp
    have f3 : (T : Int).tdiv (d1 : Int) = (q1 : Int) := by rw [Int.tdiv_eq_ediv_of_nonneg (by omega)]; exact f1
    have f4 : (T : Int).tdiv (dd : Int) = (q2 : Int) := by rw [Int.tdiv_eq_ediv_of_nonneg (by omega)]; exact f2
    rw [hq1, hq2] at HM
    have hq1B : q1 ≤ T := by rw [← hq1]; exact Nat.div_le_self _ _
    have hq2B : q2 ≤ T := by rw [← hq2]; exact Nat.div_le_self _ _
    have wq1 : IntKind.u64.wrap (q1 : Int) = (q1 : Int) := IntWalk.u64_in _ (by omega)
    have wq2 : IntKind.u64.wrap (q2 : Int) = (q2 : Int) := IntWalk.u64_in _ (by omega)
    obtain ⟨lo, hlo⟩ : ∃ lo, min q1 4294967295 = lo := ⟨_, rfl⟩
    obtain ⟨hi, hhi⟩ : ∃ hi, min q2 4294967295 = hi := ⟨_, rfl⟩
    have f5 : min (q1 : Int) 4294967295 = (lo : Int) := by omega
    have f6 : min (q2 : Int) 4294967295 = (hi : Int) := by omega
    rw [hlo, hhi] at HM
    have HMH := Lib.hid HM
    have g2 : (L : Int) < (m : Int) := by omega
    clear hixa hca HG HM hRe hr0 hYe hy0 hP hT hdd hd0 hdB hd1 hq1 hq2 hlo hhi hq hR hY hla hlb hmL hTB hq1B hq2B hs hh hl hhB hlB
    go_enter Tryz.func158, Tryz.ntmps158
    go_wp2_with fail
    go_quiet (fail)
    go_wp2_with fail
    go_ret2
    exact ⟨lo, hi, HMH.out.1, HMH.out.2.1, HMH.out.2.2, rfl, _, rfl⟩

end Go.Proofs.YtimcnhlcepemjaaGreatDoor

/- gleanref1.DivMod, MulDiv. -/
namespace Go.Proofs.YtimcnhlcepemjaaGreatDoor
open Go.RowKit

/-- 'append(x, y...)', x a row that the call owns. -/
theorem append_row_sl {P : Program} (w : World) {ops : Array Oper} {rest : List Oper} {o : Oper} {act : Act} {Q : Exit → Act → World → Prop} (hgd : o.guard = none) (s x : Operand) (t : TypeId)
    (ho : o.op = .call { callee := .builtin .append, args := #[s, x], argTypes := #[t, t] }) (e : TypeId) (i : TypeInfo) (h1 : P.underlying t = some (.slice e)) (h2 : P.info? e = some i)
    (h3 : i.zero = some (.int .u64 0)) (h4 : i.size = 1) (h5 : i.bytes = 8) (B : Nat) (v : Value) (k : Nat) (zs : List Nat) (hs : act.eval s = v) (hrow : w.ownsRow B e 1 v k (cells64 zs)) (hB : B ≤ w.heap.size)
    (a : Option Addr) (n c : Nat) (xs : List Nat) (hx : act.eval x = .slice a n c) (hsl : Sl w a n c xs) (hn : k + n ≤ 1099511627776) (hbz : Bd B64 zs)
    (hK : ∀ a' c' w', Own B w' a' (k + n) c' (zs ++ xs) → w.grownBy w' v.ownBlock → wpList P ops Q rest (act.put o.dst (.slice a' (k + n) c')) w') :
    wpList P ops Q (o :: rest) act w := by
  cases a with
  | none =>
    obtain rfl : n = 0 := hsl.none_len
    obtain rfl : xs = [] := List.eq_nil_of_length_eq_zero hsl.len
    have hc : c = 0 := by
      rcases hsl.at_ with hh | ⟨b, off, h, _⟩
      · first | exact hh.2.2 | exact hh.2
      · cases h
    subst hc
    refine wpList_plain hgd fun K hK' => ?_
    have hr := run_append_owned_none (P := P) w B t o.type e i 1 h1 h2 v k (cells64 zs) hrow
    unfold Oper.wp execOp
    simp only [ho, resolve, invoke, builtin, Sem.run_bind, Sem.run_pure, Result.andThen_ok, List.map_toArray, List.map_cons, List.map_nil, hs, hx, hr]
    obtain ⟨a', c', hv, ho'⟩ := Own.of_row hrow hbz
    have := hK a' c' w (by simpa using ho') (grownBy_refl _ _)
    rw [hv]
    exact hK' _ _ this
  | some ad =>
    have hcells : ∀ (j : Nat) u, (cells64 xs)[j]? = some u → w.cell? (ad.add j) = some u := by
      intro j u hu
      unfold cells64 at hu
      rw [List.getElem?_map] at hu
      have hj : j < xs.length := by
        rcases Nat.lt_or_ge j xs.length with h | h
        · exact h
        · rw [List.getElem?_eq_none h] at hu; cases hu
      rw [List.getElem?_eq_getElem hj] at hu
      simp only [Option.map_some, Option.some.injEq] at hu
      subst hu
      rcases hsl.at_ with hh | ⟨b, off, h, hc⟩
      · have := hsl.len
        have h0 : n = 0 := by first | exact hh.1 | exact hh.2.1
        omega
      · cases h
        have hadd : (⟨b, off, none⟩ : Addr).add j = ⟨b, off + j, none⟩ := by unfold Addr.add; split <;> simp_all
        rw [hadd, hc j (by rw [← hsl.len]; exact hj), getD_of_lt hj]
    refine wpList_append_own w hgd s x t ho B e i (.int .u64 0) 1 8 h1 h2 h3 h4 h5 rfl (by omega) v k (cells64 zs) hs hrow ad n c (cells64 xs) hx (by simp [cells64, hsl.len]) hcells (oneCell_u64 xs) (by unfold maxLen; omega) (by omega) hB ?_
    intro v' w' hown hgrow _
    obtain ⟨a', c', rfl, ho'⟩ := Own.of_row (xs := zs ++ xs) (by simpa [cells64] using hown) (hbz.append hsl.bd)
    exact hK a' c' w' ho' hgrow

theorem lit_row (w : World) (x B : Nat) (hB : B ≤ w.heap.size) : (w.alloc (.cells #[.int .u64 (x : Int)] 31)).ownsRow B 31 1 (.slice (some ⟨w.heap.size, 0, none⟩) 1 1) 1 (cells64 [x]) :=
  ⟨rfl, .inr ⟨w.heap.size, 1, #[.int .u64 (x : Int)], rfl, hB, heap_alloc_new _ _, Nat.le_refl _, by decide, rfl, rfl⟩⟩

theorem Ext.grownR {a b c : World} {g n k : Nat} (h : Ext a b) (hg : b.grownBy c (Value.slice (some ⟨g, 0, none⟩) n k).ownBlock) (hge : a.heap.size ≤ g) : Ext a c :=
  Below.grown h hg h.size (fun j hj => by
    simp only [Value.ownBlock, Option.some.injEq] at hj
    omega)
theorem rdiv_step {us qs : List Nat} {Y j q R : Nat} (hY : 0 < Y) (hj : j < us.length) (hjq : j < qs.length) (hQ : nv B32 (qs.drop (j + 1)) = nv B32 (us.drop (j + 1)) / Y) (hR : R = nv B32 (us.drop (j + 1)) % Y)
    (hq : q = (us.getD j 0 + B32 * R) / Y) : nv B32 ((qs.set j q).drop j) = nv B32 (us.drop j) / Y ∧ (us.getD j 0 + B32 * R) % Y = nv B32 (us.drop j) % Y := by
  have e1 : us.drop j = us.getD j 0 :: us.drop (j + 1) := by rw [List.drop_eq_getElem_cons hj, getD_of_lt hj]
  have e2 : (qs.set j q).drop j = q :: qs.drop (j + 1) := by
    rw [List.drop_eq_getElem_cons (by rw [List.length_set]; exact hjq), List.getElem_set_self, drop_set_lo _ _ _ _ (by omega)]
  rw [e1, e2]
  simp only [nv]
  rw [hQ]
  generalize nv B32 (us.drop (j + 1)) = V at *
  generalize us.getD j 0 = u at *
  have hV : V = Y * (V / Y) + R := by rw [hR]; exact (Nat.div_add_mod V Y).symm
  generalize V / Y = Q at *
  have e3 : u + B32 * V = u + B32 * R + Y * (B32 * Q) := by
    rw [hV, Nat.mul_add, Nat.mul_left_comm B32 Y Q]; omega
  rw [e3, Nat.add_mul_div_left _ _ hY, Nat.add_mul_mod_self_left, hq]
  exact ⟨rfl, rfl⟩
theorem rdiv_below {u R Y : Nat} (hu : u < B32) (hR : R < Y) : u + B32 * R < Y * B32 := by
  have : B32 * (R + 1) ≤ B32 * Y := Nat.mul_le_mul_left _ hR
  rw [Nat.mul_add, Nat.mul_one] at this
  rw [Nat.mul_comm Y]
  omega

def RDivRel (w : World) (B3 : Nat) (o : Option Addr) (M N Y : Nat) (us : List Nat) (rv iv : Value) (wr : World) : Prop :=
  ∃ (k : Nat) (a : Option Addr) (n c : Nat) (qs : List Nat), k ≤ M ∧ iv = .int .i64 ((k : Int) - 1) ∧ rv = .slice a n c ∧ Own B3 wr a n c (dig (nv B32 (us.drop k) % Y)) ∧ n ≤ N ∧ Own w.heap.size wr o M M qs ∧ Bd B32 qs ∧
    nv B32 (qs.drop k) = nv B32 (us.drop k) / Y ∧ Ext w wr ∧ B3 ≤ wr.heap.size
def RSearchRel (w : World) (q : Nat) (lv hv : Value) (wr : World) : Prop := ∃ lo hi : Nat, lv = .int .u64 (lo : Int) ∧ hv = .int .u64 (hi : Int) ∧ lo ≤ q ∧ q ≤ hi ∧ hi < B32 ∧ Ext w wr

set_option maxHeartbeats 8000000 in
set_option maxRecDepth 100000 in
theorem rdivmod_calls {a b : Option Addr} {m n c d : Nat} {xs ys : List Nat} {w : World} (ha : Sl w a m c xs) (hb : Sl w b n d ys) (hm : m ≤ 200000000) (hn : n ≤ 200000000) :
    Calls Tryz.prog 132 #[.slice a m c, .slice b n d] w (DivRes w (2 * m + 2 * n) (quoL (val xs) (val ys)) (remL (val xs) (val ys)) (divE (val ys))) := by
  obtain ⟨i0, hi, hz0, hs, hby⟩ := info_parts info64
  have H1 := Lib.hid hi; have H2 := Lib.hid hz0; have H3 := Lib.hid hs; have H4 := Lib.hid hby
  clear hi hz0 hs hby
  have HB := Lib.hid hb
  have CA := Lib.hid (digits_calls ha (by omega))
  obtain ⟨X, hXv⟩ : ∃ X, val xs = X := ⟨_, rfl⟩
  obtain ⟨Y, hYv⟩ : ∃ Y, val ys = Y := ⟨_, rfl⟩
  rw [hXv] at CA
  rw [hXv, hYv]
  have HYV := Lib.hid hYv
  clear ha hb hXv hYv
  go_enter Tryz.func132, Tryz.ntmps132
  go_wp2_with fail
  refine CA.out.mono ?_
  rintro e w1 ⟨o1, M, c1, rfl, hown1, hext1, hno1⟩
  have CB := Lib.hid (digits_calls (HB.out.old hext1) (by omega))
  rw [HYV.out] at CB
  go_wp2_with fail
  refine CB.out.mono ?_
  rintro e w2 ⟨o2, N, c2, rfl, hown2, hext2, hno2⟩
  have HX := Lib.hid (hown1.sl.old hext2)
  have HY := Lib.hid hown2.sl
  have HEX := Lib.hid (hext1.trans hext2)
  have hlx := hown1.sl.len
  have HLY := Lib.hid hown2.sl.len
  have HBU := Lib.hid (bd_dig X)
  have HVU := Lib.hid (rval_dig X)
  clear hown1 hown2 hext1 hext2
  by_cases hY0 : Y = 0
  · have hN : N = 0 := by have := HLY.out; rw [hY0] at this; exact this.symm
    subst hN
    have HQ0 : Hid (quoL X Y = []) := Lib.hid (if_pos hY0)
    have HR0 : Hid (remL X Y = []) := Lib.hid (if_pos hY0)
    have HE0 : Hid (divE Y = 11) := Lib.hid (if_pos hY0)
    clear hY0
    go_wp2_with fail
    go_ret3
    exact ⟨none, 0, 0, none, 0, 0, (by rw [HE0.out]; rfl), (by rw [HQ0.out]; exact Own.nil _ _), (by rw [HR0.out]; exact Own.nil _ _), HEX.out, by omega, by omega, .inl rfl⟩
  · have hYp : 0 < Y := Nat.pos_of_ne_zero hY0
    have hN : N ≠ 0 := fun h => by
      have h1 := HLY.out
      rw [h] at h1
      have := dig_lt Y
      rw [h1, Nat.pow_zero] at this
      omega
    have g1 : ((N : Int) == 0) = false := by rw [beq_eq_false_iff_ne]; omega
    have HQ0 : Hid (quoL X Y = lim (X / Y)) := Lib.hid (if_neg hY0)
    have HR00 : Hid (remL X Y = lim (X % Y)) := Lib.hid (if_neg hY0)
    have HE0 : Hid (divE Y = 0) := Lib.hid (if_neg hY0)
    have HY0 := Lib.hid hY0
    have HYP := Lib.hid hYp
    clear hY0 hYp
    go_wp2_with (at_make; refine make_sl _ rfl _ _ _ rfl _ _ Tryz.underlying32 H1.out H2.out H3.out H4.out _ _ rfl rfl M (by omega) (by omega) (by omega) ?_)
    intro oq w3 hoq hext3
    have HOQ := Lib.hid hoq; have HE3 := Lib.hid hext3; have HS3 := Lib.hid hext3.size
    have HXL := Lib.hid hlx
    have hMb : M ≤ 400000000 := by omega
    have hNb : N ≤ 400000000 := by omega
    clear hoq hext3 hlx
    go_wp2_with fail
    go_loopw [10, 11] (fun rv iv wr => RDivRel w2 w3.heap.size oq M N Y (dig X) rv iv wr) (fun _ iv _ => (intOf iv + 1).toNat)
    case atStart =>
      have hd : (dig X).drop M = [] := List.drop_of_length_le (by rw [HXL.out]; exact Nat.le_refl _)
      refine ⟨M, none, 0, 0, List.replicate M 0, Nat.le_refl _, by go_num, rfl, ?_, by omega, HOQ.out, Bd.replicate B32_pos M, ?_, HE3.out, Nat.le_refl _⟩
      · rw [hd]
        show Own _ _ _ _ _ (dig (0 % Y))
        rw [Nat.zero_mod]
        exact Own.nil _ _
      · rw [hd, List.drop_of_length_le (by simp)]
        show 0 = 0 / Y
        rw [Nat.zero_div]
    case round =>
      obtain ⟨k, ra, rn, rc, qs, hk, rfl, rfl, hrest, hrn, hqs, hqb, hqv, hex, hB3⟩ := hrel
      have HREST := Lib.hid hrest; have HQS := Lib.hid hqs; have HQB := Lib.hid hqb; have HQV := Lib.hid hqv; have HEX2 := Lib.hid hex; have HB3 := Lib.hid hB3
      clear hrest hqs hqb hqv hex hB3
      by_cases hk0 : k = 0
      · subst hk0
        have e1 : rval qs = X / Y := by
          have := HQV.out
          rw [List.drop_zero, List.drop_zero] at this
          rw [← HVU.out]; exact this
        have e2 : nv B32 ((dig X).drop 0) = X := by rw [List.drop_zero]; exact HVU.out
        have CN := number_calls HQS.out.sl HQB.out (by omega)
        rw [e1] at CN
        have hrest := HREST.out
        rw [e2] at hrest
        have HCN := Lib.hid CN; have HR0 := Lib.hid hrest
        clear CN e1 e2 hrest
        go_wp2_with fail
        refine HCN.out.mono ?_
        rintro e w5 ⟨o5, n5, c5, rfl, hown5, hext5, hno5⟩
        have CR := number_calls (HR0.out.sl.old hext5) (bd_dig _) (by omega)
        rw [rval_dig] at CR
        have HCR := Lib.hid CR
        clear CR
        go_wp2_with fail
        refine HCR.out.mono ?_
        rintro e w6 ⟨o6, n6, c6, rfl, hown6, hext6, hno6⟩
        go_wp2_with fail
        go_ret3
        have hz := HEX.out.size
        have hz2 := HEX2.out.size
        refine ⟨o5, c5, n5, o6, c6, n6, (by rw [HE0.out]; rfl), (by rw [HQ0.out]; exact (hown5.old hext6).mono (by omega)), (by rw [HR00.out]; exact hown6.mono (Nat.le_trans (by omega) hext5.size)), (HEX.out.trans HEX2.out).trans (hext5.trans hext6), by omega, by omega, ?_⟩
        by_cases h5 : n5 = 0
        · exact .inl h5
        · by_cases h6 : n6 = 0
          · exact .inr (.inl h6)
          · exact .inr (.inr (Ne.symm (hown5.ne (by omega) hown6 (by omega) (Nat.le_refl _))))
      · obtain ⟨j, rfl⟩ : ∃ j, k = j + 1 := ⟨k - 1, by omega⟩
        clear hk0
        rw [show ((j + 1 : Nat) : Int) - 1 = (j : Int) by omega]
        have hj0 : (0 : Int) ≤ (j : Int) := by omega
        have hjM : j < M := by omega
        obtain ⟨bx, ox, hixx, hcx, -⟩ := (HX.out.old HEX2.out).ix (P := Tryz.prog) Tryz.underlying32 H1.out H3.out
        have x1 := hixx j hjM
        have x2 := hcx j hjM
        have p1 := HBU.out.getD B32_pos j
        obtain ⟨u, hu⟩ : ∃ u, (dig X).getD j 0 = u := ⟨_, rfl⟩
        rw [hu] at x2 p1
        have p2 : u < B64 := Nat.lt_of_lt_of_le p1 B32_lt
        obtain ⟨R0, hR0⟩ : ∃ R, nv B32 ((dig X).drop (j + 1)) % Y = R := ⟨_, rfl⟩
        have hrest := HREST.out
        rw [hR0] at hrest
        have hR0Y : R0 < Y := by rw [← hR0]; exact Nat.mod_lt _ HYP.out
        obtain ⟨R, hR⟩ : ∃ R, u + B32 * R0 = R := ⟨_, rfl⟩
        have hRB : R < Y * B32 := by rw [← hR]; exact rdiv_below p1 hR0Y
        have HR := Lib.hid hrest; have HU := Lib.hid hu; have HR0 := Lib.hid hR0; have HRV := Lib.hid hR; have HRB := Lib.hid hRB
        have HBC := Lib.hid (show Bd B32 (u :: dig R0) from Bd.cons p1 (bd_dig R0))
        have HTL : Hid (trimL (u :: dig R0) = dig R) := Lib.hid (by
          rw [trimL_dig HBC.out]
          show dig (u + B32 * rval (dig R0)) = dig R
          rw [rval_dig, hR])
        have p3 : (u : Int) ≤ 4294967295 := by rw [B32_eq] at p1; omega
        clear hixx hcx hu hR0 hR hRB hrest hR0Y
        have HP2 := Lib.hid p2
        clear p1 p2
        go_wp2_with (at_builtin; refine append_row_sl _ rfl _ _ _ rfl _ _ Tryz.underlying32 H1.out H2.out H3.out H4.out wr.heap.size _ 1 [u] rfl (lit_row wr u wr.heap.size (Nat.le_refl _)) (by rw [World.size_alloc]; omega) ra rn rc (dig R0) rfl (HR.out.sl.old ((Ext.refl _).alloc _)) (by omega) (Bd.cons HP2.out (Bd.nil _)) ?_)
        intro ra' rc' w5 hown5 hgrow5
        have HG5 := Lib.hid (show Ext wr w5 from Ext.grownR ((Ext.refl wr).alloc _) hgrow5 (Nat.le_refl _))
        have CT := rtrim_calls hown5.sl
        have hl := trimL_len (u :: dig R0)
        have ht := hown5.rtrim
        have hown5l := hown5.sl.len
        change Hid (trimL (u :: dig R0) = dig R) at HTL
        have e9 : [u] ++ dig R0 = u :: dig R0 := rfl
        try rw [e9] at CT
        try rw [e9] at ht
        try rw [e9] at hown5l
        rw [HTL.out] at CT
        rw [HTL.out] at ht
        rw [HTL.out] at hl
        obtain ⟨L, hL⟩ : ∃ L, (dig R).length = L := ⟨_, rfl⟩
        rw [hL] at CT ht hl
        rw [hown5l] at hl
        have HCT := Lib.hid CT; have HT5 := Lib.hid ht
        have hrnl : rn ≤ N := hrn
        clear CT ht hown5 hgrow5 hown5l hL
        go_wp2_with fail
        refine HCT.out.mono ?_
        rintro e w' ⟨rfl, rfl⟩
        have CG := Lib.hid (rguess_calls R Y HT5.out.sl (HY.out.old ((HEX2.out).trans HG5.out)) HY0.out HRB.out)
        go_wp2_with fail
        refine CG.out.mono ?_
        rintro e w6 ⟨lo0, hi0, hlo0, hhi0, hhb0, rfl, m6, rfl⟩
        have HD6 : Hid (Ext w5 (w5.drewN m6)) := Lib.hid ((Ext.refl w5).drewN m6)
        have HLH := Lib.hid (And.intro hlo0 (And.intro hhi0 hhb0))
        have HQB2 : Hid (R / Y < B32) := Lib.hid (Nat.lt_of_le_of_lt hhi0 hhb0)
        clear hlo0 hhi0 hhb0
        go_wp2_with fail
        go_loopw [12, 13] (fun lv hv ws => RSearchRel w5 (R / Y) lv hv ws) (fun lv hv _ => (intOf hv - intOf lv).toNat)
        case atStart => exact ⟨lo0, hi0, rfl, rfl, HLH.out.1, HLH.out.2.1, HLH.out.2.2, HD6.out⟩
        case round =>
          obtain ⟨lo, hi, rfl, rfl, hlo, hhi, hhb, hex⟩ := hrel
          have HE7 := Lib.hid hex
          clear hex
          by_cases hlh : lo < hi
          · obtain ⟨s1, hs1⟩ : ∃ s, lo + hi = s := ⟨_, rfl⟩
            obtain ⟨s2, hs2⟩ : ∃ s, s1 + 1 = s := ⟨_, rfl⟩
            obtain ⟨md, hmd⟩ : ∃ s, s2 / 2 = s := ⟨_, rfl⟩
            have k1 : lo < md := by omega
            have k2 : md ≤ hi := by omega
            have k3 : md < B32 := Nat.lt_of_le_of_lt k2 hhb
            have k4 : hi ≤ 4294967295 := by rw [B32_eq] at hhb; omega
            have v1 : IntKind.u64.wrap ((lo : Int) + (hi : Int)) = (s1 : Int) := by
              rw [show ((lo : Int) + (hi : Int)) = (s1 : Int) by omega]; exact IntWalk.u64_in _ (by omega)
            have v2 : IntKind.u64.wrap ((s1 : Int) + 1) = (s2 : Int) := by
              rw [show ((s1 : Int) + 1) = (s2 : Int) by omega]; exact IntWalk.u64_in _ (by omega)
            have v4 : (s2 : Int).tdiv 2 = (md : Int) := by rw [Int.tdiv_eq_ediv_of_nonneg (by omega)]; omega
            have v6 : IntKind.u64.wrap (md : Int) = (md : Int) := IntWalk.u64_in _ (by omega)
            have g5 : (lo : Int) < (hi : Int) := by omega
            have CS := rsm_calls md ((HY.out.old (HEX2.out.trans HG5.out)).old HE7.out) (bd_dig Y) k3 (by omega)
            rw [rval_dig] at CS
            have HCS := Lib.hid CS
            have HK := Lib.hid (And.intro k1 (And.intro k2 k3))
            have HHI := Lib.hid (And.intro hlo (And.intro hhi hhb))
            have hs1' := Lib.hid hs1
            clear CS hlo hhi hhb hs1 hs2 hmd k3 k4
            by_cases hc : Y * md ≤ R
            · obtain ⟨cq, hcq⟩ : ∃ cq, cmpN (Y * md) R = cq := ⟨_, rfl⟩
              have g6 : cq ≤ 0 := by
                rw [← hcq]
                rcases Nat.lt_or_eq_of_le hc with h | h
                · rw [cmpN_lt h]; omega
                · rw [cmpN_eq h]; omega
              have HC := Lib.hid hc
              have HCQ := Lib.hid hcq
              clear hc hcq
              go_wp2_with fail
              refine HCS.out.mono ?_
              rintro e w8 ⟨o8, n8, c8, rfl, hown8, hext8, hno8⟩
              have CC := rdcmp_calls (Y * md) R hown8.sl ((HT5.out.sl.old HE7.out).old hext8)
              rw [HCQ.out] at CC
              have HCC := Lib.hid CC
              have HE8 := Lib.hid hext8
              clear CC hown8 hext8
              go_wp2_with fail
              refine HCC.out.mono ?_
              rintro e w9 ⟨rfl, m9, rfl⟩
              go_wp2_with fail
              go_roundw
              case rel =>
                exact ⟨md, hi, rfl, rfl, by rw [Nat.le_div_iff_mul_le HYP.out, Nat.mul_comm]; exact HC.out, HHI.out.2.1, HHI.out.2.2, ((HE7.out.trans HE8.out)).drewN m9⟩
              case measure => simp [intOf]; omega
            · obtain ⟨cq, hcq⟩ : ∃ cq, cmpN (Y * md) R = cq := ⟨_, rfl⟩
              have g6 : ¬ cq ≤ 0 := by
                rw [← hcq, cmpN_gt (by omega)]; omega
              obtain ⟨m1, hm1⟩ : ∃ s, md - 1 = s := ⟨_, rfl⟩
              have hm1' : m1 + 1 = md := by omega
              have v5 : IntKind.u64.wrap ((md : Int) - 1) = (m1 : Int) := by
                have := HK.out.2.2
                rw [B32_eq] at this
                rw [show ((md : Int) - 1) = (m1 : Int) by omega]; exact IntWalk.u64_in _ (by omega)
              have HC := Lib.hid hc
              have HCQ := Lib.hid hcq
              have HM1 := Lib.hid hm1'
              have HK12 := Lib.hid (And.intro k1 k2)
              clear hc hcq hm1 hm1' k1 k2
              go_wp2_with fail
              refine HCS.out.mono ?_
              rintro e w8 ⟨o8, n8, c8, rfl, hown8, hext8, hno8⟩
              have CC := rdcmp_calls (Y * md) R hown8.sl ((HT5.out.sl.old HE7.out).old hext8)
              rw [HCQ.out] at CC
              have HCC := Lib.hid CC
              have HE8 := Lib.hid hext8
              clear CC hown8 hext8
              go_wp2_with fail
              refine HCC.out.mono ?_
              rintro e w9 ⟨rfl, m9, rfl⟩
              go_wp2_with fail
              go_roundw
              case rel =>
                have h1 := HK.out; have h2 := HHI.out; have h3 := HM1.out
                refine ⟨lo, m1, rfl, rfl, h2.1, ?_, by omega, ((HE7.out.trans HE8.out)).drewN m9⟩
                have : R / Y < md := by
                  rw [Nat.div_lt_iff_lt_mul HYP.out, Nat.mul_comm]
                  exact Nat.lt_of_not_le HC.out
                omega
              case measure =>
                have h1 := HK12.out; have h3 := HM1.out
                simp [intOf]; omega
          · have hhl : hi = lo := by omega
            subst hhl
            have hq : R / Y = hi := by omega
            have g5 : ¬ (hi : Int) < (hi : Int) := by omega
            have HEW := Lib.hid (HG5.out.trans HE7.out)
            obtain ⟨bq, oq', hixq, hcq, haq⟩ := (HQS.out.old HEW.out).sl.ix (P := Tryz.prog) Tryz.underlying32 H1.out H3.out
            have x1 := hixq j hjM
            have x2 := hcq j hjM
            have x3 := (HQS.out.old HEW.out).free (haq (by omega)) (oq' + j)
            have HAQ := Lib.hid (haq (by omega))
            obtain ⟨old, hold⟩ : ∃ v, qs.getD j 0 = v := ⟨_, rfl⟩
            rw [hold] at x2
            have hiB : hi < B64 := Nat.lt_of_lt_of_le hhb B32_lt
            have HSO := Lib.hid ((HQS.out.old HEW.out).store HAQ.out j hi hjM hiB)
            have HEQ := Lib.hid (Ext.grown' (HEX2.out.trans HEW.out) (HQS.out.old HEW.out) (Nat.le_refl _) HSO.out.2)
            have hne : blk oq = none ∨ blk ra' ≠ blk oq := by
              cases e : blk oq with
              | none => exact .inl rfl
              | some k =>
                refine .inr fun h => ?_
                have h1 := HQS.out.ge k e
                have h2 := HT5.out.ge k h
                omega
            have HRS := Lib.hid ((HT5.out.old HE7.out).grown HSO.out.2 hne)
            have CS := rsm_calls hi (HY.out.old HEQ.out) (bd_dig Y) hhb (by omega)
            rw [rval_dig] at CS
            have HCS := Lib.hid CS
            have v6 : IntKind.u64.wrap (hi : Int) = (hi : Int) := by rw [B32_eq] at hhb; exact IntWalk.u64_in _ (by omega)
            have HHB := Lib.hid hhb
            have hql : qs.length = M := HQS.out.sl.len
            have HQL := Lib.hid hql
            have HLR := Lib.hid hl
            have HQE := Lib.hid hq
            have HNE := Lib.hid hne
            clear hixq hcq haq hold hiB CS hhb hlh hlo hhi hne hql hq hl
            go_wp2_with fail
            refine HCS.out.mono ?_
            rintro e w8 ⟨o8, n8, c8, rfl, hown8, hext8, hno8⟩
            have hmul : Y * hi ≤ R := by rw [← HQE.out]; exact Nat.mul_div_le _ _
            have h8 := hown8.sl.len
            have hrl := HRS.out.sl.len
            have hLN : (dig R).length ≤ N + 1 := by
              refine dig_len_le ?_
              have h1 := dig_lt Y
              rw [HLY.out] at h1
              rw [Nat.pow_succ]
              exact Nat.lt_trans HRB.out (Nat.mul_lt_mul_of_pos_right h1 B32_pos)
            rw [hrl] at hLN
            have CK := rtake_calls (HRS.out.sl.old hext8) hown8.sl (bd_dig R) (bd_dig _) (by rw [← h8, ← hrl]; exact digs_len_mono B32_two hmul) (by rw [rval_dig, rval_dig]; exact hmul) (by omega)
            rw [rval_dig, rval_dig] at CK
            have HCK := Lib.hid CK
            have HE8 := Lib.hid hext8
            clear CK hown8 hext8 hmul h8 hrl hLN
            go_wp2_with fail
            refine HCK.out.mono ?_
            rintro e w9 ⟨o9, n9, c9, rfl, hown9, hext9, hno9⟩
            have HO9 := Lib.hid hown9
            have HE9 := Lib.hid hext9
            clear hown9 hext9
            go_wp2_with fail
            go_roundw
            case rel =>
              have hmod : R - Y * hi = R % Y := by rw [← HQE.out]; have := Nat.div_add_mod R Y; omega
              have hst := rdiv_step (us := dig X) (qs := qs) (q := hi) HYP.out (by rw [HXL.out]; exact hjM) (by rw [HQL.out]; exact hjM) HQV.out HR0.out.symm (by rw [HU.out, HRV.out]; exact HQE.out.symm)
              rw [HU.out, HRV.out] at hst
              have ho := HO9.out
              rw [hmod, hst.2] at ho
              have hn9 : n9 ≤ N := by
                rw [← ho.sl.len, ← HLY.out]
                exact digs_len_mono B32_two (Nat.le_of_lt (Nat.mod_lt _ HYP.out))
              have hsz := HEQ.out.size
              have hs1 := HG5.out.size
              have hs2 := HE7.out.size
              have hs3 := HSO.out.2.size
              have hs4 := HE8.out.size
              have hs5 := HE9.out.size
              have hs6 := HB3.out
              exact ⟨j, o9, n9, c9, qs.set j hi, by omega, by go_num, rfl, ho.mono (by omega), hn9, (HSO.out.1.old HE8.out).old HE9.out, HQB.out.set _ HHB.out, hst.1, (HEQ.out.trans HE8.out).trans HE9.out, by omega⟩
            case measure => simp [intOf]

end Go.Proofs.YtimcnhlcepemjaaGreatDoor
