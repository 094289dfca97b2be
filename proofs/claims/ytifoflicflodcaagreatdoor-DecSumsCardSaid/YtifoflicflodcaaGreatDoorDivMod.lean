/- nat.DivMod, nat.MulDiv. -/
import Derived.Test.YtifoflicflodcaaGreatDoorLong
namespace Go.Proofs.YtifoflicflodcaaGreatDoor
open Go.RowKit

/-- The quotient and the rest, new, each in a block of its own, and an error that is a number. -/
def DivRes (w : World) (L : Nat) (xs ys : List Nat) (er : Int) (e : Ending) (w' : World) : Prop :=
  ∃ a1 c1 L1 a2 c2 L2, e = .returned (.tuple #[.slice a1 L1 c1, .slice a2 L2 c2, .int .i64 er]) ∧ Own w.heap.size w' a1 L1 c1 xs ∧ Own w.heap.size w' a2 L2 c2 ys ∧ Ext w w' ∧ L1 ≤ L ∧ L2 ≤ L + 1 ∧ (L1 = 0 ∨ L2 = 0 ∨ blk a1 ≠ blk a2)

theorem lim_top {n : Nat} (h : n ≠ 0) : (lim n).getD ((lim n).length - 1) 0 ≠ 0 := by
  have hn := nrm_digs B64_two n
  have hne : lim n ≠ [] := fun e => h ((digs_nil B64_two).1 e)
  have hl : 0 < (lim n).length := List.length_pos_iff.2 hne
  intro h0
  apply hn
  show (lim n).getLast? = some 0
  rw [List.getLast?_eq_getElem?, List.getElem?_eq_getElem (by omega)]
  rw [getD_of_lt (by omega)] at h0
  rw [h0]

set_option maxHeartbeats 4000000 in
set_option maxRecDepth 100000 in
theorem divmod_zero {a b : Option Addr} {m n c d : Nat} {xs ys : List Nat} {w : World} (ha : Sl w a m c xs) (hb : Sl w b n d ys) (hz : val ys = 0) :
    Calls Tryz.prog 50 #[.slice a m c, .slice b n d] w (DivRes w m [] [] 11) := by
  have CA := Lib.hid (trimmed_calls ha)
  have cb := trimmed_calls hb
  rw [hz] at cb
  have CB : Hid (Calls Tryz.prog 72 #[.slice b n d] w (Ret (.slice b 0 0) w)) := cb
  clear cb hz
  go_enter Tryz.func50, Tryz.ntmps50
  go_wp2_with fail
  refine CA.out.mono ?_
  rintro e w' ⟨rfl, rfl⟩
  go_wp2_with fail
  refine CB.out.mono ?_
  rintro e w' ⟨rfl, rfl⟩
  go_wp2_with fail
  go_ret3
  exact ⟨none, 0, 0, none, 0, 0, rfl, Own.nil _ _, Own.nil _ _, Ext.refl _, by omega, by omega, .inl rfl⟩

set_option maxHeartbeats 4000000 in
set_option maxRecDepth 100000 in
theorem divmod_pos {a b : Option Addr} {m n c d : Nat} {xs ys : List Nat} {w : World} (ha : Sl w a m c xs) (hb : Sl w b n d ys) (hm : m ≤ 900000000) (hn : n ≤ 900000000) (hz : val ys ≠ 0) :
    Calls Tryz.prog 50 #[.slice a m c, .slice b n d] w (DivRes w m (lim (val xs / val ys)) (lim (val xs % val ys)) 0) := by
  obtain ⟨i0, hi, hz0, hs, hby⟩ := info_parts info64
  have H1 := Lib.hid hi; have H2 := Lib.hid hz0; have H3 := Lib.hid hs; have H4 := Lib.hid hby
  clear hi hz0 hs hby
  have ca := trimmed_calls ha
  have cb := trimmed_calls hb
  have ha' := ha.trimmed
  have hb' := hb.trimmed
  have hla := ha.trimmed_len
  have hlb := hb.trimmed_len
  have HVA := Lib.hid (val_lim (val xs))
  have HVB := Lib.hid (val_lim (val ys))
  have HTOP := Lib.hid (lim_top hz)
  have HPOS := Lib.hid (show (lim (val ys)).length ≠ 0 from fun h => hz (lim_len_zero h))
  have HMON := Lib.hid (@digs_len_mono B64 B64_two (val ys) (val xs))
  have HONE := Lib.hid (@lim_len_one (val ys))
  generalize val xs = X at *
  generalize val ys = Y at *
  have HBD := Lib.hid (bd_lim Y)
  change Hid (Y ≤ X → (lim Y).length ≤ (lim X).length) at HMON
  generalize lim X = us at *
  generalize hvs : lim Y = vs at *
  have HVS := Lib.hid hvs
  clear hvs
  obtain ⟨A, hA⟩ : ∃ A, us.length = A := ⟨_, rfl⟩
  obtain ⟨E, hE⟩ : ∃ E, vs.length = E := ⟨_, rfl⟩
  rw [hA] at ca ha' hla HMON
  rw [hE] at cb hb' hlb HTOP HPOS HMON HONE
  have CA := Lib.hid ca; have CB := Lib.hid cb
  have HA := Lib.hid hA; have HE := Lib.hid hE
  clear ca cb hA hE
  have hE0 : E ≠ 0 := HPOS.out
  have g1 : ((E : Int) == 0) = false := by rw [beq_eq_false_iff_ne]; omega
  have CC := Lib.hid (cmp_calls ha' hb' (by omega) (by omega))
  by_cases hlt : X < Y
  · have hc := Lib.hid (show decide (cmpN (val us) (val vs) < 0) = true by rw [HVA.out, HVB.out, cmpN_lt hlt]; rfl)
    have HQ := Lib.hid (Nat.div_eq_of_lt hlt)
    have HR := Lib.hid (Nat.mod_eq_of_lt hlt)
    generalize cmpN (val us) (val vs) = cc at *
    clear hlt hE0
    go_enter Tryz.func50, Tryz.ntmps50
    go_wp2_with fail
    refine CA.out.mono ?_
    rintro e w' ⟨rfl, rfl⟩
    go_wp2_with fail
    refine CB.out.mono ?_
    rintro e w' ⟨rfl, rfl⟩
    go_wp2_with fail
    refine CC.out.mono ?_
    rintro e w' ⟨rfl, k, rfl⟩
    have hcc := hc.out
    go_wp2_with fail
    refine (norm_calls (ha'.old ((Ext.refl _).drewN k)) (by omega)).mono ?_
    rintro e w1 ⟨o, no, co, rfl, hown, hext, hno⟩
    go_wp2_with fail
    go_ret3
    rw [HVA.out] at hown
    refine ⟨none, 0, 0, o, co, no, rfl, ?_, ?_, ((Ext.refl _).drewN k).trans hext, by omega, by omega, .inl rfl⟩
    · rw [HQ.out]; exact Own.nil _ _
    · rw [HR.out]; exact hown.mono (by simp)
  · have hge : Y ≤ X := by omega
    have hc := Lib.hid (show decide (cmpN (val us) (val vs) < 0) = false by
      rw [HVA.out, HVB.out]; unfold cmpN; rw [if_neg hlt]; split <;> rfl)
    have hEA : E ≤ A := HMON.out hge
    generalize hcc0 : cmpN (val us) (val vs) = cc at *
    clear hcc0 hlt hge
    by_cases hE1 : E = 1
    · subst hE1
      have hYB := HONE.out (by omega)
      obtain ⟨bb, ob, hixb, hcb, -⟩ := hb'.ix (P := Tryz.prog) Tryz.underlying23 H1.out H3.out
      have x1 := hixb 0 (by omega)
      have x2 := hcb 0 (by omega)
      have hg : vs.getD 0 0 = Y := by
        have hl := HE.out
        have hv := HVB.out
        match vs, hl with
        | [u], _ => simpa [val] using hv
      rw [hg] at x2
      have HY0 := Lib.hid (show 0 < Y by
        rcases Nat.eq_zero_or_pos Y with h | h
        · exfalso; exact hz h
        · exact h)
      clear hixb hcb hg hE0
      rw [show ((0 : Nat) : Int) = 0 from rfl] at x1
      simp only [Nat.add_zero] at x1 x2
      have HYB := Lib.hid hYB
      clear hYB
      have HZ := Lib.hid hz
      clear hz
      go_enter Tryz.func50, Tryz.ntmps50
      go_wp2_with fail
      refine CA.out.mono ?_
      rintro e w' ⟨rfl, rfl⟩
      go_wp2_with fail
      refine CB.out.mono ?_
      rintro e w' ⟨rfl, rfl⟩
      go_wp2_with fail
      refine CC.out.mono ?_
      rintro e w' ⟨rfl, k, rfl⟩
      have hcc := hc.out
      go_wp2_with fail
      refine (short_calls (ha'.old ((Ext.refl _).drewN k)) (by omega) Y HY0.out HYB.out).mono ?_
      rintro e w1 ⟨o, co, no, rfl, hown, hext, hno⟩
      go_wp2_with fail
      refine (of_calls (val us % Y) (Nat.lt_of_lt_of_le (Nat.mod_lt _ HY0.out) (Nat.le_of_lt HYB.out)) _).mono ?_
      rintro e w2 ⟨o2, no2, co2, rfl, hown2, hext2, hno2⟩
      go_wp2_with fail
      go_ret3
      rw [HVA.out] at hown hown2
      have hext' := ((Ext.refl _).drewN k).trans hext
      refine ⟨o, co, no, o2, co2, no2, rfl, (hown.old hext2).mono (by simp), hown2.mono hext'.size, hext'.trans hext2, by omega, by omega, ?_⟩
      by_cases h0 : no = 0
      · exact .inl h0
      · by_cases h1 : no2 = 0
        · exact .inr (.inl h1)
        · exact .inr (.inr (Ne.symm (hown.ne (by omega) hown2 (by omega) (Nat.le_refl _))))
    · have hE2 : 2 ≤ E := by omega
      have g2 : ((E : Int) == 1) = false := by rw [beq_eq_false_iff_ne]; omega
      have HZ := Lib.hid hz
      clear hz hE0 hE1
      go_enter Tryz.func50, Tryz.ntmps50
      go_wp2_with fail
      refine CA.out.mono ?_
      rintro e w' ⟨rfl, rfl⟩
      go_wp2_with fail
      refine CB.out.mono ?_
      rintro e w' ⟨rfl, rfl⟩
      go_wp2_with fail
      refine CC.out.mono ?_
      rintro e w' ⟨rfl, k, rfl⟩
      have hcc := hc.out
      go_wp2_with fail
      refine (long_calls (ha'.old ((Ext.refl _).drewN k)) (hb'.old ((Ext.refl _).drewN k)) (by omega) hE2 hEA HTOP.out).mono ?_
      rintro e w1 ⟨a1, c1, L1, a2, c2, L2, rfl, hown1, hown2, hext, hl1, hl2, hap⟩
      go_wp2_with fail
      go_ret3
      rw [HVA.out, HVB.out] at hown1 hown2
      exact ⟨a1, c1, L1, a2, c2, L2, rfl, hown1.mono (by simp), hown2.mono (by simp), ((Ext.refl _).drewN k).trans hext, by omega, by omega, hap⟩

/-- What nat.DivMod tells, of every two numbers. -/
def quoL (X Y : Nat) : List Nat := if Y = 0 then [] else lim (X / Y)
def remL (X Y : Nat) : List Nat := if Y = 0 then [] else lim (X % Y)
def divE (Y : Nat) : Int := if Y = 0 then 11 else 0

theorem divmod_calls {a b : Option Addr} {m n c d : Nat} {xs ys : List Nat} {w : World} (ha : Sl w a m c xs) (hb : Sl w b n d ys) (hm : m ≤ 900000000) (hn : n ≤ 900000000) :
    Calls Tryz.prog 50 #[.slice a m c, .slice b n d] w (DivRes w m (quoL (val xs) (val ys)) (remL (val xs) (val ys)) (divE (val ys))) := by
  unfold quoL remL divE
  by_cases hz : val ys = 0
  · rw [if_pos hz, if_pos hz, if_pos hz]; exact divmod_zero ha hb hz
  · rw [if_neg hz, if_neg hz, if_neg hz]; exact divmod_pos ha hb hm hn hz

set_option maxHeartbeats 4000000 in
set_option maxRecDepth 100000 in
theorem muldiv_calls {a b c : Option Addr} {m n l p q r : Nat} {xs ys zs : List Nat} {w : World} (ha : Sl w a m p xs) (hb : Sl w b n q ys) (hc : Sl w c l r zs) (hm : m ≤ 400000000) (hn : n ≤ 400000000) (hl : l ≤ 900000000) :
    Calls Tryz.prog 85 #[.slice a m p, .slice b n q, .slice c l r] w (DivRes w (m + n) (quoL (val xs * val ys) (val zs)) (remL (val xs * val ys) (val zs)) (divE (val zs))) := by
  have CM := Lib.hid (mul_calls ha hb (by omega) (by omega))
  have HV := Lib.hid (val_lim (val xs * val ys))
  go_enter Tryz.func85, Tryz.ntmps85
  go_wp2_with fail
  refine CM.out.mono ?_
  rintro e w1 ⟨o, no, co, rfl, hown, hext, hno⟩
  have CD := divmod_calls hown.sl (hc.old hext) (by omega) hl
  rw [HV.out] at CD
  have CD' := Lib.hid CD
  clear CD
  go_wp2_with fail
  refine CD'.out.mono ?_
  rintro e w2 ⟨a1, c1, L1, a2, c2, L2, rfl, hown1, hown2, hext2, hl1, hl2, hap⟩
  go_wp2_with fail
  go_ret3
  exact ⟨a1, c1, L1, a2, c2, L2, rfl, hown1.mono hext.size, hown2.mono hext.size, hext.trans hext2, by omega, by omega, hap⟩

end Go.Proofs.YtifoflicflodcaaGreatDoor
