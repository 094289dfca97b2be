/- gleanref1: Of, Small, cmp, Cmp. -/
import Derived.Test.YtpfhifjkecoahaaGreatDoorRef1
import Derived.Test.YtpfhifjkecoahaaGreatDoorBits
namespace Go.Proofs.YtpfhifjkecoahaaGreatDoor
open Go.RowKit

theorem alloc_size' (w : World) (o : Obj) : (w.alloc o).heap.size = w.heap.size + 1 := World.size_alloc ..
/-- The call returns v; of what was there nothing has turned. -/
theorem val_one (x : Nat) : val [x] = x := by simp [val, nv]

set_option maxRecDepth 100000 in
theorem rof_calls (x : Nat) (hx : x < B64) (w : World) : Calls Tryz.prog 31 #[.int .u64 (x : Int)] w (New w 2 (lim x)) := by
  have HO := Lib.hid (own_lit w.heap.size w x hx (Nat.le_refl _))
  have HC := Lib.hid (rnorm_calls HO.out.sl (by omega))
  rw [val_one] at HC
  clear hx
  go_enter Tryz.func31, Tryz.ntmps31
  go_wp2_with fail
  refine HC.out.mono ?_
  rintro e w2 ⟨o, n, c, rfl, hown, hext, hn⟩
  go_wp2_with fail
  go_ret
  exact ⟨o, n, c, rfl, hown.mono (by rw [alloc_size']; omega), ((Ext.refl _).alloc _).trans hext, by omega⟩

set_option maxHeartbeats 1000000 in
set_option maxRecDepth 100000 in
theorem rsmall_calls {a : Option Addr} {n c : Nat} {xs : List Nat} {w : World} (h : Sl w a n c xs) (hn : n ≤ 1000000000) (hX : val xs < B64) :
    Calls Tryz.prog 38 #[.slice a n c] w (RetE (.tuple #[.int .u64 (val xs : Nat), .bool true]) w) := by
  obtain ⟨i0, hi, hz0, hs, hby⟩ := info_parts info64
  have H1 := Lib.hid hi; have H3 := Lib.hid hs
  clear hi hz0 hs hby
  have HC := Lib.hid (rnorm_calls h hn)
  generalize val xs = X at *
  by_cases h0 : X = 0
  · subst h0
    have hl0 : lim 0 = [] := rfl
    rw [hl0] at HC
    go_enter Tryz.func38, Tryz.ntmps38
    go_wp2_with fail
    refine HC.out.mono ?_
    rintro e w1 ⟨o, no, co, rfl, hown, hext, hno⟩
    have : no = 0 := by have := hown.sl.len; simp at this; omega
    subst this
    have HE := Lib.hid hext
    clear hown hext
    go_wp2_with fail
    go_ret2
    exact ⟨rfl, HE.out⟩
  · have hl := lim_small (Nat.pos_of_ne_zero h0) hX
    rw [hl] at HC
    clear h0 hX hl
    go_enter Tryz.func38, Tryz.ntmps38
    go_wp2_with fail
    refine HC.out.mono ?_
    rintro e w1 ⟨o, no, co, rfl, hown, hext, hno⟩
    have : no = 1 := by have := hown.sl.len; simp at this; omega
    subst this
    obtain ⟨bb, ob, hix, hc, -⟩ := hown.sl.ix (P := Tryz.prog) Tryz.underlying24 H1.out H3.out
    have x1 := hix 0 (by omega)
    have x2 := hc 0 (by omega)
    rw [show ([X] : List Nat).getD 0 0 = X from rfl] at x2
    rw [show ((0 : Nat) : Int) = 0 from rfl] at x1
    simp only [Nat.add_zero] at x1 x2
    have HE := Lib.hid hext
    clear hown hext hix hc
    go_wp2_with fail
    go_ret2
    exact ⟨rfl, HE.out⟩

theorem cmp_top32 {us vs : List Nat} {L k : Nat} (hu : us.length = L) (hv : vs.length = L) (bu : Bd B32 us) (bv : Bd B32 vs) (hk : k < L) (hd : us.drop (k + 1) = vs.drop (k + 1)) :
    (us.getD k 0 < vs.getD k 0 → rval us < rval vs) ∧ (vs.getD k 0 < us.getD k 0 → rval vs < rval us) ∧ (us.getD k 0 = vs.getD k 0 → us.drop k = vs.drop k) := by
  rw [getD_of_lt (by omega : k < us.length), getD_of_lt (by omega : k < vs.length)]
  refine ⟨fun h => nv_lt_of_top bu (by omega) k (by omega) h hd, fun h => nv_lt_of_top bv (by omega) k (by omega) h hd.symm, fun h => ?_⟩
  rw [List.drop_eq_getElem_cons (by omega : k < us.length), List.drop_eq_getElem_cons (by omega : k < vs.length), h, hd]

set_option maxHeartbeats 2000000 in
set_option maxRecDepth 100000 in
theorem rdcmp_calls {a b : Option Addr} {m n c d : Nat} (X Y : Nat) {w : World} (ha : Sl w a m c (dig X)) (hb : Sl w b n d (dig Y)) :
    Calls Tryz.prog 59 #[.slice a m c, .slice b n d] w (RetD (.int .i64 (cmpN X Y)) w) := by
  obtain ⟨i0, hi, hz0, hs, hby⟩ := info_parts info64
  have H1 := Lib.hid hi; have H3 := Lib.hid hs
  clear hi hz0 hs hby
  have hlen1 := @digs_len_lt B32 B32_two X Y
  have hlen2 := @digs_len_lt B32 B32_two Y X
  change (dig X).length < (dig Y).length → X < Y at hlen1
  change (dig Y).length < (dig X).length → Y < X at hlen2
  have HBX := Lib.hid (bd_dig X); have HBY := Lib.hid (bd_dig Y)
  have HVX := Lib.hid (rval_dig X); have HVY := Lib.hid (rval_dig Y)
  have hA := ha.len; have hE := hb.len
  have hbig : m ≤ 9223372036854775807 := Nat.le_trans ha.cap ha.big
  generalize dig X = us at *
  generalize dig Y = vs at *
  rw [hA, hE] at hlen1 hlen2
  have HA := Lib.hid hA; have HE := Lib.hid hE
  have HL1 := Lib.hid hlen1; have HL2 := Lib.hid hlen2
  clear hA hE hlen1 hlen2
  rcases Nat.lt_trichotomy m n with h | h | h
  · have HR := Lib.hid (cmpN_lt (HL1.out h))
    have g1 : ((m : Int) == (n : Int)) = false := by rw [beq_eq_false_iff_ne]; omega
    have g2 : (m : Int) < (n : Int) := by omega
    clear h
    go_enter Tryz.func59, Tryz.ntmps59
    go_wp2_with fail
    go_ret
    exact ⟨by rw [HR.out]; rfl, 0, rfl⟩
  · subst h
    go_enter Tryz.func59, Tryz.ntmps59
    go_wp2_with fail
    go_loopw [5] (fun iv wr => CmpRel w m us vs iv wr) (fun iv _ => (intOf iv + 1).toNat)
    case atStart => exact ⟨m, Nat.le_refl _, by go_num, by rw [List.drop_of_length_le (by rw [HA.out]; omega), List.drop_of_length_le (by rw [HE.out]; omega)], 0, rfl⟩
    case round =>
      obtain ⟨k, hk, rfl, hdr, m0, hwr⟩ := hrel
      have HD := Lib.hid hdr
      have HW := Lib.hid hwr
      have hexr : Ext w wr := by rw [hwr]; exact (Ext.refl w).drewN m0
      clear hdr hwr
      by_cases hk0 : k = 0
      · subst hk0
        have he : us = vs := by have := HD.out; simpa using this
        have HR := Lib.hid (@cmpN_eq X Y (by rw [← HVX.out, ← HVY.out, he]))
        clear he
        go_wp2_with fail
        go_ret
        exact ⟨by rw [HR.out]; rfl, _, HW.out⟩
      · obtain ⟨j, rfl⟩ : ∃ j, k = j + 1 := ⟨k - 1, by omega⟩
        rw [show ((j + 1 : Nat) : Int) - 1 = (j : Int) by omega]
        obtain ⟨ba, oa, hixa, hca, -⟩  := (ha.old hexr).ix (P := Tryz.prog) Tryz.underlying23 H1.out H3.out
        obtain ⟨bb, ob, hixb, hcb, -⟩  := (hb.old hexr).ix (P := Tryz.prog) Tryz.underlying23 H1.out H3.out
        have x1 := hixa j (by omega)
        have x2 := hca j (by omega)
        have x3 := hixb j (by omega)
        have x4 := hcb j (by omega)
        have HT := Lib.hid (cmp_top32 HA.out HE.out HBX.out HBY.out (by omega) HD.out)
        clear hixa hca hixb hcb hk0
        have hj0 : (0 : Int) ≤ (j : Int) := by omega
        generalize us.getD j 0 = u at *
        generalize vs.getD j 0 = v at *
        rw [HVX.out, HVY.out] at HT
        rcases Nat.lt_trichotomy u v with h | h | h
        · have HR := Lib.hid (cmpN_lt (HT.out.1 h))
          have g1 : (u : Int) < (v : Int) := by omega
          clear h
          go_wp2_with fail
          go_quiet (fail)
          go_wp2_with fail
          go_ret
          exact ⟨by rw [HR.out]; rfl, m0 + nq, by rw [HW.out]; exact World.drewN_drewN _ _ _⟩
        · subst h
          have HN := Lib.hid (HT.out.2.2 rfl)
          go_wp2_with fail
          go_quiet (fail)
          go_wp2_with fail
          go_quiet (fail)
          go_wp2_with fail
          go_roundw
          case rel =>
            exact ⟨j, by omega, by go_num, HN.out, _, by rw [HW.out, World.drewN_drewN]⟩
          case measure => simp [intOf]
        · have HR := Lib.hid (cmpN_gt (HT.out.2.1 h))
          have g1 : ¬ (u : Int) < (v : Int) := by omega
          have g2 : (v : Int) < (u : Int) := by omega
          clear h
          go_wp2_with fail
          go_quiet (fail)
          go_wp2_with fail
          go_quiet (fail)
          go_wp2_with fail
          go_ret
          exact ⟨by rw [HR.out]; rfl, _, by rw [HW.out]; first | exact (World.drewN_drewN _ _ _) | (rw [World.drewN_drewN, World.drewN_drewN])⟩
  · have HR := Lib.hid (cmpN_gt (HL2.out h))
    have g1 : ((m : Int) == (n : Int)) = false := by rw [beq_eq_false_iff_ne]; omega
    have g2 : ¬ (m : Int) < (n : Int) := by omega
    clear h
    go_enter Tryz.func59, Tryz.ntmps59
    go_wp2_with fail
    go_ret
    exact ⟨by rw [HR.out]; rfl, 0, rfl⟩

set_option maxRecDepth 100000 in
theorem rCmp_calls {a b : Option Addr} {m n c d : Nat} {xs ys : List Nat} {w : World} (ha : Sl w a m c xs) (hb : Sl w b n d ys) (hm : m ≤ 1000000000) (hn : n ≤ 1000000000) :
    Calls Tryz.prog 33 #[.slice a m c, .slice b n d] w (RetE (.int .i64 (cmpN (val xs) (val ys))) w) := by
  have HB := Lib.hid hb
  have CA := Lib.hid (digits_calls ha hm)
  clear ha hb
  go_enter Tryz.func33, Tryz.ntmps33
  go_wp2_with fail
  refine CA.out.mono ?_
  rintro e w1 ⟨o1, n1, c1, rfl, hown1, hext1, hno1⟩
  go_wp2_with fail
  refine (digits_calls (HB.out.old hext1) hn).mono ?_
  rintro e w2 ⟨o2, n2, c2, rfl, hown2, hext2, hno2⟩
  go_wp2_with fail
  refine (rdcmp_calls (val xs) (val ys) (hown1.sl.old hext2) hown2.sl).mono ?_
  rintro e w3 ⟨rfl, k, rfl⟩
  go_wp2_with fail
  go_ret
  exact ⟨rfl, (hext1.trans hext2).drewN k⟩

end Go.Proofs.YtpfhifjkecoahaaGreatDoor
