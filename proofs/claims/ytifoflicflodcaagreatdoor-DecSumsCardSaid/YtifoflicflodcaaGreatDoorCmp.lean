/- nat.Cmp, math/bits.Len64, nat.Bits. -/
import Derived.Test.YtifoflicflodcaaGreatDoorNat
namespace Go.Proofs.YtifoflicflodcaaGreatDoor
open Go.RowKit

/-- What a comparison's loop keeps: above place k the two are alike. -/
def CmpRel (w : World) (L : Nat) (us vs : List Nat) (iv : Value) (wr : World) : Prop :=
  ∃ k : Nat, k ≤ L ∧ iv = .int .i64 ((k : Int) - 1) ∧ us.drop k = vs.drop k ∧ ∃ m, wr = w.drewN m

theorem cmp_top {us vs : List Nat} {L k : Nat} (hu : us.length = L) (hv : vs.length = L) (bu : Bd B64 us) (bv : Bd B64 vs) (hk : k < L) (hd : us.drop (k + 1) = vs.drop (k + 1)) :
    (us.getD k 0 < vs.getD k 0 → val us < val vs) ∧ (vs.getD k 0 < us.getD k 0 → val vs < val us) ∧ (us.getD k 0 = vs.getD k 0 → us.drop k = vs.drop k) := by
  rw [getD_of_lt (by omega : k < us.length), getD_of_lt (by omega : k < vs.length)]
  refine ⟨fun h => nv_lt_of_top bu (by omega) k (by omega) h hd, fun h => nv_lt_of_top bv (by omega) k (by omega) h hd.symm, fun h => ?_⟩
  rw [List.drop_eq_getElem_cons (by omega : k < us.length), List.drop_eq_getElem_cons (by omega : k < vs.length), h, hd]

set_option maxHeartbeats 1000000 in
set_option maxRecDepth 100000 in
theorem cmp_calls {a b : Option Addr} {m n c d : Nat} {xs ys : List Nat} {w : World} (ha : Sl w a m c xs) (hb : Sl w b n d ys) (hm : m ≤ 1000000000) (_hn : n ≤ 1000000000) :
    Calls Tryz.prog 56 #[.slice a m c, .slice b n d] w (RetD (.int .i64 (cmpN (val xs) (val ys))) w) := by
  obtain ⟨i0, hi, hz0, hs, hby⟩ := info_parts info64
  have ca := trimmed_calls ha
  have cb := trimmed_calls hb
  have ha' := ha.trimmed
  have hb' := hb.trimmed
  have hla := ha.trimmed_len
  have hlb := hb.trimmed_len
  have hva := val_lim (val xs)
  have hvb := val_lim (val ys)
  have hlen1 := @digs_len_lt B64 B64_two (val xs) (val ys)
  have hlen2 := @digs_len_lt B64 B64_two (val ys) (val xs)
  change (lim (val xs)).length < (lim (val ys)).length → val xs < val ys at hlen1
  change (lim (val ys)).length < (lim (val xs)).length → val ys < val xs at hlen2
  generalize val xs = X at *
  generalize val ys = Y at *
  generalize lim X = us at *
  generalize lim Y = vs at *
  obtain ⟨A, hA⟩ : ∃ A, us.length = A := ⟨_, rfl⟩
  obtain ⟨E, hE⟩ : ∃ E, vs.length = E := ⟨_, rfl⟩
  rw [hA] at ca ha' hla hlen1 hlen2
  rw [hE] at cb hb' hlb hlen1 hlen2
  have CA := Lib.hid ca; have CB := Lib.hid cb
  have HA := Lib.hid hA; have HE := Lib.hid hE; have HVA := Lib.hid hva; have HVB := Lib.hid hvb
  have H1 := Lib.hid hi; have H2 := Lib.hid hz0; have H3 := Lib.hid hs; have H4 := Lib.hid hby
  have HL1 := Lib.hid hlen1; have HL2 := Lib.hid hlen2
  clear ca cb hA hE hva hvb hi hz0 hs hby hlen1 hlen2
  rcases Nat.lt_trichotomy A E with h | h | h
  · have HC := Lib.hid (cmpN_lt h)
    have HR := Lib.hid (cmpN_lt (HL1.out h))
    go_enter Tryz.func56, Tryz.ntmps56
    go_wp2_with fail
    refine CA.out.mono ?_
    rintro e w' ⟨rfl, rfl⟩
    go_wp2_with fail
    refine CB.out.mono ?_
    rintro e w' ⟨rfl, rfl⟩
    go_wp2_with fail
    refine (cmpInt_calls _ _ _).mono ?_
    rintro e w' ⟨rfl, rfl⟩
    rw [HC.out]
    go_wp2_with fail
    go_ret
    exact ⟨by rw [HR.out]; rfl, 0, rfl⟩
  · subst h
    have HC := Lib.hid (@cmpN_eq A A rfl)
    go_enter Tryz.func56, Tryz.ntmps56
    go_wp2_with fail
    refine CA.out.mono ?_
    rintro e w' ⟨rfl, rfl⟩
    go_wp2_with fail
    refine CB.out.mono ?_
    rintro e w' ⟨rfl, rfl⟩
    go_wp2_with fail
    refine (cmpInt_calls _ _ _).mono ?_
    rintro e w' ⟨rfl, rfl⟩
    rw [HC.out]
    go_wp2_with fail
    go_loopw [6] (fun iv wr => CmpRel w A us vs iv wr) (fun iv _ => (intOf iv + 1).toNat)
    case atStart => exact ⟨A, Nat.le_refl _, rfl, by rw [List.drop_of_length_le (by rw [HA.out]; omega), List.drop_of_length_le (by rw [HE.out]; omega)], 0, rfl⟩
    case round =>
      obtain ⟨k, hk, rfl, hdr, m0, hwr⟩ := hrel
      have HD := Lib.hid hdr
      have HW := Lib.hid hwr
      have hexr : Ext w wr := by rw [hwr]; exact (Ext.refl w).drewN m0
      clear hdr hwr
      by_cases hk0 : k = 0
      · subst hk0
        have he : us = vs := by have := HD.out; simpa using this
        have HR := Lib.hid (@cmpN_eq X Y (by rw [← HVA.out, ← HVB.out, he]))
        clear he
        go_wp2_with fail
        go_ret
        exact ⟨by rw [HR.out]; rfl, _, HW.out⟩
      · obtain ⟨j, rfl⟩ : ∃ j, k = j + 1 := ⟨k - 1, by omega⟩
        rw [show ((j + 1 : Nat) : Int) - 1 = (j : Int) by omega]
        obtain ⟨ba, oa, hixa, hca, -⟩  := (ha'.old hexr).ix (P := Tryz.prog) Tryz.underlying23 H1.out H3.out
        obtain ⟨bb, ob, hixb, hcb, -⟩  := (hb'.old hexr).ix (P := Tryz.prog) Tryz.underlying23 H1.out H3.out
        have x1 := hixa j (by omega)
        have x2 := hca j (by omega)
        have x3 := hixb j (by omega)
        have x4 := hcb j (by omega)
        have q1 := ha'.bd.getD B64_pos j
        have q2 := hb'.bd.getD B64_pos j
        have HT := Lib.hid (cmp_top HA.out HE.out ha'.bd hb'.bd (by omega) HD.out)
        clear hixa hca hixb hcb hk0
        have hj0 : (0 : Int) ≤ (j : Int) := by omega
        generalize us.getD j 0 = u at *
        generalize vs.getD j 0 = v at *
        rcases Nat.lt_trichotomy u v with h | h | h
        · have HC2 := Lib.hid (cmpN_lt h)
          have HR := Lib.hid (cmpN_lt (HT.out.1 h))
          go_wp2_with fail
          go_quiet ((go_at_call 83; exact Ret.quiet (cmpU64_calls _ _ _)))
          rw [HC2.out]
          go_wp2_with fail
          go_ret
          rw [HVA.out, HVB.out] at HR
          exact ⟨by rw [HR.out]; rfl, _, by rw [HW.out, World.drewN_drewN]⟩
        · subst h
          have HC2 := Lib.hid (@cmpN_eq u u rfl)
          have HN := Lib.hid (HT.out.2.2 rfl)
          go_wp2_with fail
          go_quiet ((go_at_call 83; exact Ret.quiet (cmpU64_calls _ _ _)))
          rw [HC2.out]
          go_wp2_with fail
          go_roundw
          case rel => exact ⟨j, by omega, by go_num, HN.out, _, by rw [HW.out, World.drewN_drewN]⟩
          case measure => simp [intOf]
        · have HC2 := Lib.hid (cmpN_gt h)
          have HR := Lib.hid (cmpN_gt (HT.out.2.1 h))
          go_wp2_with fail
          go_quiet ((go_at_call 83; exact Ret.quiet (cmpU64_calls _ _ _)))
          rw [HC2.out]
          go_wp2_with fail
          go_ret
          rw [HVA.out, HVB.out] at HR
          exact ⟨by rw [HR.out]; rfl, _, by rw [HW.out, World.drewN_drewN]⟩
  · have HC := Lib.hid (cmpN_gt h)
    have HR := Lib.hid (cmpN_gt (HL2.out h))
    go_enter Tryz.func56, Tryz.ntmps56
    go_wp2_with fail
    refine CA.out.mono ?_
    rintro e w' ⟨rfl, rfl⟩
    go_wp2_with fail
    refine CB.out.mono ?_
    rintro e w' ⟨rfl, rfl⟩
    go_wp2_with fail
    refine (cmpInt_calls _ _ _).mono ?_
    rintro e w' ⟨rfl, rfl⟩
    rw [HC.out]
    go_wp2_with fail
    go_ret
    exact ⟨by rw [HR.out]; rfl, 0, rfl⟩

end Go.Proofs.YtifoflicflodcaaGreatDoor
