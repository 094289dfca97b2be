/- gleanref1.Mul. -/
import Derived.Test.YtpfhifjkecoahaaGreatDoorRef4
import Derived.Test.YtpfhifjkecoahaaGreatDoorMul
namespace Go.Proofs.YtpfhifjkecoahaaGreatDoor
open Go.RowKit

def RMulRel (w : World) (o : Option Addr) (A E : Nat) (us vs : List Nat) (iv : Value) (wr : World) : Prop :=
  ∃ (k : Nat) (os : List Nat), k ≤ A ∧ iv = .int .i64 k ∧ Own w.heap.size wr o (A + E) (A + E) os ∧ Bd B32 os ∧ Ext w wr ∧ nv B32 (os.take (k + E)) = nv B32 (us.take k) * nv B32 vs
def RMulRel2 (w : World) (o : Option Addr) (A E k u : Nat) (vs old : List Nat) (cv jv : Value) (wr : World) : Prop :=
  ∃ (j cr : Nat) (os : List Nat), j ≤ E ∧ jv = .int .i64 j ∧ cv = .int .u64 cr ∧ cr < B32 ∧ Own w.heap.size wr o (A + E) (A + E) os ∧ Bd B32 os ∧ Ext w wr ∧ os.drop (k + j) = old.drop (k + j) ∧
    nv B32 (os.take (k + j)) + B32 ^ (k + j) * cr = nv B32 (old.take (k + j)) + B32 ^ k * u * nv B32 (vs.take j)

set_option maxHeartbeats 8000000 in
set_option maxRecDepth 100000 in
theorem rmul_calls {a b : Option Addr} {m n c d : Nat} {xs ys : List Nat} {w : World} (ha : Sl w a m c xs) (hb : Sl w b n d ys) (hm : m ≤ 200000000) (hn : n ≤ 200000000) :
    Calls Tryz.prog 40 #[.slice a m c, .slice b n d] w (New w (2 * m + 2 * n) (lim (val xs * val ys))) := by
  obtain ⟨i0, hi, hz0, hs, hby⟩ := info_parts info64
  have H1 := Lib.hid hi; have H2 := Lib.hid hz0; have H3 := Lib.hid hs; have H4 := Lib.hid hby
  clear hi hz0 hs hby
  have HB := Lib.hid hb
  have CA := Lib.hid (digits_calls ha (by omega))
  generalize val xs = X at *
  clear ha hb
  go_enter Tryz.func40, Tryz.ntmps40
  go_wp2_with fail
  refine CA.out.mono ?_
  rintro e w1 ⟨o1, A, c1, rfl, hown1, hext1, hno1⟩
  have CB := Lib.hid (digits_calls (HB.out.old hext1) (by omega))
  generalize val ys = Y at *
  go_wp2_with fail
  refine CB.out.mono ?_
  rintro e w2 ⟨o2, E, c2, rfl, hown2, hext2, hno2⟩
  have ha' := hown1.sl.old hext2
  have hb' := hown2.sl
  have HEX := Lib.hid (hext1.trans hext2)
  have HA := Lib.hid ha'.len; have HE := Lib.hid hb'.len
  have HBU := Lib.hid (bd_dig X); have HBV := Lib.hid (bd_dig Y)
  have HVU := Lib.hid (rval_dig X); have HVV := Lib.hid (rval_dig Y)
  generalize dig X = us at *
  generalize dig Y = vs at *
  clear hown1 hown2 hext1 hext2
  go_wp2_with (at_make; refine make_sl _ rfl _ _ _ rfl _ _ Tryz.underlying23 H1.out H2.out H3.out H4.out _ _ rfl rfl (A + E) (by omega) (by omega) (by omega) ?_)
  intro o w3 ho hext
  go_wp2_with fail
  go_loopw [8] (fun iv wr => RMulRel w2 o A E us vs iv wr) (fun iv _ => A - (intOf iv).toNat)
  case atStart => exact ⟨0, _, by omega, rfl, ho, Bd.replicate B32_pos _, hext, by simp [List.take_replicate, nv_replicate]⟩
  case round =>
    obtain ⟨k, old, hk, rfl, hown, hbold, hex, hval⟩ := hrel
    have HV := Lib.hid hval
    have HBOLD := Lib.hid hbold
    clear hval hbold
    by_cases hlt : k < A
    · have g1 : (k : Int) < (A : Int) := by omega
      obtain ⟨wo, hwo⟩ : ∃ wo : World, wo = wr := ⟨_, rfl⟩
      subst hwo
      have q1 := HBU.out.getD B32_pos k
      obtain ⟨u, hu⟩ : ∃ u, us.getD k 0 = u := ⟨_, rfl⟩
      rw [hu] at q1
      have HU := Lib.hid hu
      have Q1 := Lib.hid q1
      clear hu q1
      go_wp2_with fail
      go_loopw [9, 10] (fun cv jv wr => RMulRel2 w2 o A E k u vs old cv jv wr) (fun _ jv _ => E - (intOf jv).toNat)
      case atStart => exact ⟨0, 0, old, by omega, rfl, rfl, B32_pos, hown, HBOLD.out, hex, rfl, by simp⟩
      case round =>
        obtain ⟨j, cr, os, hj, rfl, rfl, hcr, hown2, hbos, hex2, hdr, hval2⟩ := hrel
        have HV2 := Lib.hid hval2
        have HD := Lib.hid hdr
        have HBO := Lib.hid hbos
        have HCR := Lib.hid hcr
        clear hval2 hdr hbos hcr
        by_cases hlt2 : j < E
        · have g2 : (j : Int) < (E : Int) := by omega
          obtain ⟨bo, oo, hixo, hco, hao⟩ := hown2.sl.ix (P := Tryz.prog) Tryz.underlying23 H1.out H3.out
          obtain ⟨ba, oa, hixa, hca, -⟩ := (ha'.old hex2).ix (P := Tryz.prog) Tryz.underlying23 H1.out H3.out
          obtain ⟨bb, ob, hixb, hcb, -⟩ := (hb'.old hex2).ix (P := Tryz.prog) Tryz.underlying23 H1.out H3.out
          have x1 := hixa k hlt
          have x2 := hca k hlt
          rw [HU.out] at x2
          have x3 := hixb j hlt2
          have x4 := hcb j hlt2
          have x5 := hixo (k + j) (by omega)
          rw [show ((k + j : Nat) : Int) = (k : Int) + (j : Int) by omega] at x5
          have x6 := hco (k + j) (by omega)
          have x7 := hown2.free (hao (by omega)) (oo + (k + j))
          have HO := Lib.hid (hao (by omega))
          have p2 := HBV.out.getD B32_pos j
          have p3 := HBO.out.getD B32_pos (k + j)
          have HTY := Lib.hid (nv_take_succ' B32 vs j)
          have HTO := Lib.hid (nv_take_succ' B32 old (k + j))
          rw [← getD_of_drop HD.out] at HTO
          clear hixa hca hixb hcb hixo hco hao
          generalize vs.getD j 0 = v at *
          generalize os.getD (k + j) 0 = z at *
          have hs64 : u * v + z + cr < B64 := by rw [← B32_sq]; exact mul_add_add_lt Q1.out p2 p3 HCR.out
          obtain ⟨p, hp⟩ : ∃ p, u * v = p := ⟨_, rfl⟩
          rw [hp] at hs64
          obtain ⟨q, hq⟩ : ∃ q, z + p = q := ⟨_, rfl⟩
          obtain ⟨s, hs⟩ : ∃ s, q + cr = s := ⟨_, rfl⟩
          have hsB : s < B64 := by omega
          have hand := rand_half s hsB
          have hshr := rshr_half s
          have hs2 : s < 18446744073709551616 := hsB
          have w1' : IntKind.u64.wrap ((u : Int) * (v : Int)) = (p : Int) := by
            rw [show ((u : Int) * (v : Int)) = (p : Int) by rw [← hp]; simp]; exact IntWalk.u64_in _ (by omega)
          have w2' : IntKind.u64.wrap ((z : Int) + (p : Int)) = (q : Int) := by
            rw [show ((z : Int) + (p : Int)) = (q : Int) by omega]; exact IntWalk.u64_in _ (by omega)
          have w3' : IntKind.u64.wrap ((q : Int) + (cr : Int)) = (s : Int) := by
            rw [show ((q : Int) + (cr : Int)) = (s : Int) by omega]; exact IntWalk.u64_in _ (by omega)
          have d1 : s % B32 < B32 := Nat.mod_lt _ B32_pos
          have d2 : s / B32 < B32 := by rw [Nat.div_lt_iff_lt_mul B32_pos, B32_sq]; exact hsB
          have HSUM := Lib.hid (show s % B32 + B32 * (s / B32) = u * v + z + cr by rw [Nat.mod_add_div, hp]; omega)
          obtain ⟨lo, hlo⟩ : ∃ lo, s % B32 = lo := ⟨_, rfl⟩
          obtain ⟨hi, hhi⟩ : ∃ hi, s / B32 = hi := ⟨_, rfl⟩
          rw [hlo] at hand HSUM d1; rw [hhi] at hshr HSUM d2
          have D1 := Lib.hid d1; have D2 := Lib.hid d2
          have HS := Lib.hid (fun n : Nat => (hown2.old ((Ext.refl _).drewN n)).store HO.out (k + j) lo (by omega) (Nat.lt_of_lt_of_le d1 B32_lt))
          clear p2 p3 hs64 hp hq hs hsB hs2 d1 d2 hlo hhi
          go_wp2_with fail
          go_quiet (fail)
          go_wp2_with fail
          go_roundw
          case rel =>
            refine ⟨j + 1, hi, os.set (k + j) lo, by omega, by go_num, rfl, D2.out, (HS.out _).1, HBO.out.set _ D1.out, ?_, ?_, ?_⟩
            · exact Ext.grown' (hex2.drewN _) (hown2.old ((Ext.refl _).drewN _)) (Nat.le_refl _) (HS.out _).2
            · rw [← Nat.add_assoc, drop_set_lo _ _ _ _ (by omega)]; exact drop_succ_of_drop HD.out
            · rw [← Nat.add_assoc, HTO.out, HTY.out, nv_take_set _ _ _ _ (by rw [hown2.sl.len]; omega), Nat.pow_succ, mul_step]
              exact mul_round HV2.out HSUM.out
          case measure => simp [intOf]; omega
        · obtain rfl : j = E := by omega
          obtain ⟨bo, oo, hixo, hco, hao⟩ := hown2.sl.ix (P := Tryz.prog) Tryz.underlying23 H1.out H3.out
          have x5 := hixo (k + j) (by omega)
          rw [show ((k + j : Nat) : Int) = (k : Int) + (j : Int) by omega] at x5
          have x6 := hco (k + j) (by omega)
          have x7 := hown2.free (hao (by omega)) (oo + (k + j))
          have HO := Lib.hid (hao (by omega))
          have HW := Lib.hid (mul_outer HU.out HE.out hown2.sl.len hlt HV.out HV2.out)
          clear hixo hco hao
          generalize os.getD (k + j) 0 = z at *
          have HS := Lib.hid (hown2.store HO.out (k + j) cr (by omega) (Nat.lt_of_lt_of_le HCR.out B32_lt))
          go_wp2_with fail
          go_roundw
          case rel =>
            exact ⟨k + 1, os.set (k + j) cr, by omega, by go_num, HS.out.1, HBO.out.set _ HCR.out, Ext.grown' hex2 hown2 (Nat.le_refl _) HS.out.2, HW.out⟩
          case measure => simp [intOf]; omega
    · obtain rfl : k = A := by omega
      have hv : rval old = X * Y := by
        have := HV.out
        rw [nv_take_of_le B32 old _ (by rw [hown.sl.len]; omega), nv_take_of_le B32 us _ (by rw [HA.out]; omega)] at this
        rw [← HVU.out, ← HVV.out]; exact this
      have HW := Lib.hid hv
      clear hv
      go_wp2_with fail
      refine (number_calls hown.sl HBOLD.out (by omega)).mono ?_
      rintro e w4 ⟨o4, n4, c4, rfl, hown4, hext4, hno4⟩
      rw [HW.out] at hown4
      go_wp2_with fail
      go_ret
      exact ⟨o4, n4, c4, rfl, hown4.mono (HEX.out.trans hex).size, (HEX.out.trans hex).trans hext4, by omega⟩

end Go.Proofs.YtpfhifjkecoahaaGreatDoor
