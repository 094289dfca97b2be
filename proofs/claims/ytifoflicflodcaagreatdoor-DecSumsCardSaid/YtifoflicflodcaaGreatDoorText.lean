/- nat.Text. -/
import Derived.Test.YtifoflicflodcaaGreatDoorText0
namespace Go.Proofs.YtifoflicflodcaaGreatDoor
open Go.RowKit Go.Lib

theorem infoStr : (Tryz.prog.info? 9).map (fun i => (i.zero, i.size, i.bytes)) = some (some (.string ⟨#[]⟩), 1, 16) := by kernel_rfl

theorem Tab.old {w w' : World} (h : Tab w) (he : Ext w w') : Tab w' := Lib.tabBelow_of_tabIs h w' he

def strs (gs : List (List UInt8)) : List Value := gs.map fun g => .string ⟨g.toArray⟩

def lenV : Value → Nat
  | .slice _ n _ => n
  | _ => 0
theorem lenV_row {w : World} {b e z : Nat} {v : Value} {n : Nat} {xs : List Value} (h : w.ownsRow b e z v n xs) : lenV v = n := by
  rcases h.2 with ⟨rfl, rfl⟩ | ⟨g, cap, cur, rfl, _⟩
  · rfl
  · rfl

/-- What the first loop keeps. -/
def TextRel (w : World) (V : Nat) (av gv : Value) (wr : World) : Prop :=
  ∃ (X n c : Nat) (a : Option Addr) (gs : List (List UInt8)), av = .slice a n c ∧ Own w.heap.size wr a n c (lim X) ∧ wr.ownsRow w.heap.size 9 1 gv gs.length (strs gs) ∧ TextInv V X gs ∧ Ext w wr ∧ X ≤ V

def TextRel2 (w2 : World) (X : Nat) (gs : List (List UInt8)) (ov iv : Value) (wr : World) : Prop :=
  ∃ k : Nat, k ≤ gs.length ∧ ov = .string ⟨(textOut X gs k).toArray⟩ ∧ iv = .int .i64 ((k : Int) - 1) ∧ wr = w2
theorem row_slice {w : World} {b e z : Nat} {v : Value} {n : Nat} {xs : List Value} (h : w.ownsRow b e z v n xs) : ∃ a c, v = .slice a n c := by
  rcases h.2 with ⟨rfl, rfl⟩ | ⟨g, cap, cur, rfl, _⟩
  · exact ⟨none, 0, rfl⟩
  · exact ⟨_, cap, rfl⟩
theorem getD_of_ltL {gs : List (List UInt8)} {j : Nat} (h : j < gs.length) : gs.getD j [] = gs[j] := by
  rw [List.getD_eq_getElem?_getD, List.getElem?_eq_getElem h]; rfl
theorem row_strs {w : World} {b e : Nat} {a : Option Addr} {m c n : Nat} {gs : List (List UInt8)} (h : w.ownsRow b e 1 (.slice a m c) n (strs gs)) (j : Nat) (hj : j < gs.length) :
    ∃ g, a = some ⟨g, 0, none⟩ ∧ w.cell? ⟨g, 0 + j, none⟩ = some (.string ⟨(gs.getD j []).toArray⟩) := by
  rcases h.2 with ⟨hv, hn⟩ | ⟨g, cap, cur, hv, hb, hh, hnc, hm, hs, ht⟩
  · have := h.1; simp [strs] at this; omega
  · cases hv
    refine ⟨g, rfl, ?_⟩
    rw [cell_of_row _ _ _ _ _ _ hh]
    have hl := h.1
    simp only [strs, List.length_map, Nat.mul_one] at hl
    have h2 : (cur.toList.take (m * 1))[j]? = (strs gs)[j]? := by rw [ht]
    rw [List.getElem?_take, if_pos (by omega)] at h2
    rw [Nat.zero_add, ← Array.getElem?_toList, h2, strs, List.getElem?_map, List.getElem?_eq_getElem hj, getD_of_ltL hj]
    rfl

set_option maxHeartbeats 4000000 in
set_option maxRecDepth 100000 in
theorem text_calls {a : Option Addr} {n c : Nat} {xs : List Nat} {w : World} (ha : Sl w a n c xs) (hn : n ≤ 1000000) (ht : Tab w) :
    Calls Tryz.prog 41 #[.slice a n c] w (StrE (decDigits (val xs)) w) := by
  have HN := Lib.hid ha.len
  have CN := Lib.hid (norm_calls ha (by omega))
  obtain ⟨i0, hi, hz0, hs, hby⟩ := info_parts info64
  have H1 := Lib.hid hi; have H3 := Lib.hid hs
  clear hi hz0 hs hby
  obtain ⟨i9, hi, hz0, hs, hby⟩ := info_parts infoStr
  have K1 := Lib.hid hi; have K2 := Lib.hid hz0; have K3 := Lib.hid hs; have K4 := Lib.hid hby
  clear hi hz0 hs hby
  have HX := Lib.hid ha.trimmed_len
  generalize val xs = V at *
  go_enter Tryz.func41, Tryz.ntmps41
  go_wp2_with fail
  refine CN.out.mono ?_
  rintro e w1 ⟨o, no, co, rfl, hown, hext, hno⟩
  have hcount : ∀ (X : Nat) (gs : List (List UInt8)), TextInv V X gs → 19 * gs.length ≤ 20 * 1000000 := by
    intro X gs h
    have h1 := h.count
    have h2 := nDigits_limbs (V := V) (k := n) HX.out
    omega
  have HCOUNT := Lib.hid hcount
  clear hcount
  go_wp2_with fail
  go_loopw [0, 3] (fun av gv wr => TextRel w V av gv wr) (fun _ gv _ => 2000000 - lenV gv)
  case atStart => exact ⟨V, no, co, o, [], rfl, hown, World.ownsRow_nil _ _ _ _, TextInv.start V, hext, Nat.le_refl _⟩
  case round =>
    obtain ⟨X, n', c', o', gs, rfl, hown', hrow, hinv, hext', hXV⟩ := hrel
    have hlv := lenV_row hrow
    have HLV := Lib.hid hlv
    have hgc := HCOUNT.out X gs hinv
    have HINV := Lib.hid hinv
    have HXV := Lib.hid hXV
    have hlen := hown'.sl.len
    have hll : (lim X).length ≤ n := Nat.le_trans (digs_len_mono B64_two hXV) HX.out
    have ht' := ht.old hext'
    clear hlv hinv hXV
    by_cases hbig : P19 ≤ X
    · have CS := short_calls hown'.sl (by omega) 10000000000000000000 (by omega) (by decide)
      rw [val_lim] at CS
      have hstep := HINV.out.step hbig
      unfold P19 at hstep hbig
      generalize hq : X / 10000000000000000000 = q at *
      generalize hr : X % 10000000000000000000 = r at *
      have HR := Lib.hid (show r < 10 ^ 19 by rw [← hr]; exact Nat.mod_lt _ (by decide))
      have HRB := Lib.hid (show r < B64 from Nat.lt_trans HR.out (by decide))
      have HND := Lib.hid (show nDigits r ≤ 19 from nDigits_le (by omega) HR.out)
      have HQX := Lib.hid (show q ≤ X by rw [← hq]; exact Nat.div_le_self _ _)
      have CS' := Lib.hid CS
      have ROW := Lib.hid hrow
      have HRE := Lib.hid hr
      have HQE := Lib.hid hq
      have HBIG := Lib.hid hbig
      clear hbig
      have HSTEP := Lib.hid hstep
      clear CS hstep hr hq
      by_cases h2 : 1 < n'
      · have g1 : (1 : Int) < (n' : Int) := by omega
        go_wp2_with fail
        refine CS'.out.mono ?_
        rintro e w2 ⟨a2, c2, L2, he, hown2, hext2, hL2⟩
        rw [HRE.out] at he
        rw [HQE.out] at hown2
        subst he
        go_wp2_with fail
        refine (fmt_calls r HRB.out w2 (ht'.old hext2)).mono ?_
        rintro e w3 ⟨rfl, hext3⟩
        have hdl : (decDigits r).length ≤ 19 := by rw [decDigits_length]; exact HND.out
        obtain ⟨c19, hc19⟩ : ∃ c : Nat, c = 19 - (decDigits r).length := ⟨_, rfl⟩
        have hcI : (19 : Int) - ((decDigits r).length : Int) = (c19 : Int) := by omega
        have hpad := (padk_eq 19 r (by omega) HR.out)
        rw [← decDigits_length r, ← hc19] at hpad
        have HPAD := Lib.hid hpad
        clear hpad
        have HC19 := Lib.hid hc19
        have hcl : c19 ≤ 19 := by omega
        clear hc19
        go_wp2_with fail
        refine (repeat_calls c19 (by omega) w3).mono ?_
        rintro e w4 ⟨rfl, hext4⟩
        have hsum : (⟨(List.replicate c19 (48 : UInt8)).toArray⟩ : ByteArray).size + (⟨(decDigits r).toArray⟩ : ByteArray).size ≤ 9223372036854775807 := by
          show (List.replicate c19 (48 : UInt8)).toArray.size + (decDigits r).toArray.size ≤ _
          simp; omega
        have hgl : gs.length ≤ 1052632 := by omega
        have R3 := World.ownsRow.kept hrow (((hext2.trans hext3).trans hext4).by_ none) (Classical.em _)
        generalize hzz : List.replicate c19 (48 : UInt8) = zz at *
        generalize hdd : decDigits r = dd at *
        have HZZ := Lib.hid hzz
        have HDD := Lib.hid hdd
        generalize hg : padk 19 r = g at *
        have hadd : ∀ W, (Op.stringOp .add ⟨zz.toArray⟩ ⟨dd.toArray⟩).run Tryz.prog W = .ok (.string ⟨g.toArray⟩) W := fun W => by
          rw [run_string_add_sum _ _ _ hsum, HPAD.out]
          congr 2
        have HG := Lib.hid hg
        clear hsum hzz hdd hg
        go_wp2_with (at_builtin; refine wpList_append_own _ rfl _ _ 81 rfl w.heap.size 9 i9 (.string ⟨#[]⟩) 1 16 Tryz.underlying81 K1.out K2.out K3.out K4.out rfl (by decide) _ gs.length (strs gs) rfl (R3.alloc _) ⟨w4.heap.size, 0, none⟩ 1 1 [.string ⟨g.toArray⟩] rfl rfl ?c1 ?c2 ?c3 ?c4 ?c5 ?_)
        case c1 =>
          intro j u hj
          match j, hj with
          | 0, hj => simp at hj; subst hj; simp [Addr.add]
        case c2 => intro u hu; simp at hu; subst hu; rfl
        case c3 => unfold maxLen; omega
        case c4 => omega
        case c5 => have := (((hext'.trans hext2).trans hext3).trans hext4).size; simp; omega
        intro v' w5 hown5 hgrow5 _
        have hlv' := Lib.hid (lenV_row hown5)
        have R5 := Lib.hid hown5
        have G5 := Lib.hid hgrow5
        clear hown5 hgrow5
        go_wp2_with fail
        go_roundw
        case rel =>
          refine ⟨q, L2, c2, a2, gs ++ [g], rfl, ?_, ?_, HSTEP.out, ?_, Nat.le_trans HQX.out HXV.out⟩
          · refine Own.grown ((((hown2.old hext3).old hext4).mono hext'.size).old ((Ext.refl _).alloc _)) G5.out ?_
            rcases Option.eq_none_or_eq_some (blk a2) with hb | ⟨kb, hb⟩
            · rcases hob : Value.ownBlock _ with _ | x
              · exact .inl rfl
              · right; rw [hb]; simp
            · right
              intro he
              have l1 := (hown2.ge kb hb).1
              have l2 := (World.ownsRow.lt ROW.out kb (by rw [← he]; exact hb)).2
              omega
          · have := R5.out
            simpa [strs] using this
          · have E : Ext w (w4.alloc (.cells #[.string ⟨g.toArray⟩] 9)) := (((hext'.trans hext2).trans hext3).trans hext4).alloc _
            refine Below.grown E G5.out E.size ?_
            intro k hk
            exact (World.ownsRow.lt ROW.out k hk).1
        case measure =>
          rw [hlv'.out, HLV.out]; omega
      · have h1 : n' = 1 := by
          rcases Nat.eq_zero_or_pos n' with h0 | h0
          · exfalso
            have hz := lim_len_zero (n := X) (by rw [hlen]; exact h0)
            have := HBIG.out
            omega
          · omega
        subst h1
        obtain ⟨bb, ob, hixb, hcb, -⟩ := hown'.sl.ix (P := Tryz.prog) Tryz.underlying23 H1.out H3.out
        have x1 := hixb 0 (by omega)
        have x2 := hcb 0 (by omega)
        have hgd : (lim X).getD 0 0 = X := by
          rw [lim_small (by have := HBIG.out; omega) (lim_len_one (by rw [hlen]; exact Nat.le_refl _))]; rfl
        rw [hgd] at x2
        rw [show ((0 : Nat) : Int) = 0 from rfl] at x1
        simp only [Nat.add_zero] at x1 x2
        have g1 : (10000000000000000000 : Int) ≤ (X : Int) := by have := HBIG.out; omega
        clear hixb hcb hgd h2
        go_wp2_with fail
        refine CS'.out.mono ?_
        rintro e w2 ⟨a2, c2, L2, he, hown2, hext2, hL2⟩
        rw [HRE.out] at he
        rw [HQE.out] at hown2
        subst he
        go_wp2_with fail
        refine (fmt_calls r HRB.out w2 (ht'.old hext2)).mono ?_
        rintro e w3 ⟨rfl, hext3⟩
        have hdl : (decDigits r).length ≤ 19 := by rw [decDigits_length]; exact HND.out
        obtain ⟨c19, hc19⟩ : ∃ c : Nat, c = 19 - (decDigits r).length := ⟨_, rfl⟩
        have hcI : (19 : Int) - ((decDigits r).length : Int) = (c19 : Int) := by omega
        have hpad := (padk_eq 19 r (by omega) HR.out)
        rw [← decDigits_length r, ← hc19] at hpad
        have HPAD := Lib.hid hpad
        clear hpad
        have HC19 := Lib.hid hc19
        have hcl : c19 ≤ 19 := by omega
        clear hc19
        go_wp2_with fail
        refine (repeat_calls c19 (by omega) w3).mono ?_
        rintro e w4 ⟨rfl, hext4⟩
        have hsum : (⟨(List.replicate c19 (48 : UInt8)).toArray⟩ : ByteArray).size + (⟨(decDigits r).toArray⟩ : ByteArray).size ≤ 9223372036854775807 := by
          show (List.replicate c19 (48 : UInt8)).toArray.size + (decDigits r).toArray.size ≤ _
          simp; omega
        have hgl : gs.length ≤ 1052632 := by omega
        have R3 := World.ownsRow.kept hrow (((hext2.trans hext3).trans hext4).by_ none) (Classical.em _)
        generalize hzz : List.replicate c19 (48 : UInt8) = zz at *
        generalize hdd : decDigits r = dd at *
        have HZZ := Lib.hid hzz
        have HDD := Lib.hid hdd
        generalize hg : padk 19 r = g at *
        have hadd : ∀ W, (Op.stringOp .add ⟨zz.toArray⟩ ⟨dd.toArray⟩).run Tryz.prog W = .ok (.string ⟨g.toArray⟩) W := fun W => by
          rw [run_string_add_sum _ _ _ hsum, HPAD.out]
          congr 2
        have HG := Lib.hid hg
        clear hsum hzz hdd hg
        go_wp2_with (at_builtin; refine wpList_append_own _ rfl _ _ 81 rfl w.heap.size 9 i9 (.string ⟨#[]⟩) 1 16 Tryz.underlying81 K1.out K2.out K3.out K4.out rfl (by decide) _ gs.length (strs gs) rfl (R3.alloc _) ⟨w4.heap.size, 0, none⟩ 1 1 [.string ⟨g.toArray⟩] rfl rfl ?c1 ?c2 ?c3 ?c4 ?c5 ?_)
        case c1 =>
          intro j u hj
          match j, hj with
          | 0, hj => simp at hj; subst hj; simp [Addr.add]
        case c2 => intro u hu; simp at hu; subst hu; rfl
        case c3 => unfold maxLen; omega
        case c4 => omega
        case c5 => have := (((hext'.trans hext2).trans hext3).trans hext4).size; simp; omega
        intro v' w5 hown5 hgrow5 _
        have hlv' := Lib.hid (lenV_row hown5)
        have R5 := Lib.hid hown5
        have G5 := Lib.hid hgrow5
        clear hown5 hgrow5
        go_wp2_with fail
        go_roundw
        case rel =>
          refine ⟨q, L2, c2, a2, gs ++ [g], rfl, ?_, ?_, HSTEP.out, ?_, Nat.le_trans HQX.out HXV.out⟩
          · refine Own.grown ((((hown2.old hext3).old hext4).mono hext'.size).old ((Ext.refl _).alloc _)) G5.out ?_
            rcases Option.eq_none_or_eq_some (blk a2) with hb | ⟨kb, hb⟩
            · rcases hob : Value.ownBlock _ with _ | x
              · exact .inl rfl
              · right; rw [hb]; simp
            · right
              intro he
              have l1 := (hown2.ge kb hb).1
              have l2 := (World.ownsRow.lt ROW.out kb (by rw [← he]; exact hb)).2
              omega
          · have := R5.out
            simpa [strs] using this
          · have E : Ext w (w4.alloc (.cells #[.string ⟨g.toArray⟩] 9)) := (((hext'.trans hext2).trans hext3).trans hext4).alloc _
            refine Below.grown E G5.out E.size ?_
            intro k hk
            exact (World.ownsRow.lt ROW.out k hk).1
        case measure =>
          rw [hlv'.out, HLV.out]; omega
    · have hX64 : X < B64 := by unfold P19 at hbig; rw [B64_eq]; omega
      have HXB := Lib.hid hX64
      have CSM := Lib.hid (small_calls hown'.sl)
      have hsm : smallV (val (lim X)) = X := by rw [val_lim]; exact smallV_lt hX64
      have hb19 : ¬ ((10000000000000000000 : Int) ≤ (X : Int)) := by unfold P19 at hbig; omega
      have hn1 : n' ≤ 1 := by rw [← hlen]; exact lim_len_le (by rw [Nat.pow_one]; exact hX64)
      have hrow2 := hrow
      obtain ⟨ga, gc, rfl⟩ := row_slice hrow
      rw [hsm] at CSM
      have hl19 := HINV.out.len
      have HL19 := Lib.hid hl19
      clear hl19 hsm hX64 hbig
      have g1 : ¬ ((1 : Int) < (n' : Int)) := by omega
      by_cases h1 : n' = 1
      · subst h1
        obtain ⟨bb, ob, hixb, hcb, -⟩ := hown'.sl.ix (P := Tryz.prog) Tryz.underlying23 H1.out H3.out
        have x1 := hixb 0 (by omega)
        have x2 := hcb 0 (by omega)
        have hgd : (lim X).getD 0 0 = X := by
          rw [lim_small (Nat.pos_of_ne_zero fun h => by subst h; simp [lim_zero] at hlen) HXB.out]; rfl
        rw [hgd] at x2
        rw [show ((0 : Nat) : Int) = 0 from rfl] at x1
        simp only [Nat.add_zero] at x1 x2
        clear hixb hcb hgd
        go_wp2_with fail
        refine CSM.out.mono ?_
        rintro e w' ⟨rfl, rfl⟩
        go_wp2_with fail
        refine (fmt_calls X HXB.out _ ht').mono ?_
        rintro e w2 ⟨rfl, hext2⟩
        go_wp2_with fail
        go_loopw [9, 10] (fun ov iv wr => TextRel2 w2 X gs ov iv wr) (fun _ iv _ => (RowKit.intOf iv + 1).toNat)
        case atStart => exact ⟨gs.length, Nat.le_refl _, by rw [textOut_start], rfl, rfl⟩
        case round =>
          obtain ⟨k, hk, rfl, rfl, rfl⟩ := hrel
          cases k with
          | zero =>
            have g2 : ¬ ((0 : Int) ≤ ((0 : Nat) : Int) - 1) := by omega
            go_wp2_with fail
            go_ret
            refine ⟨by rw [HINV.out.fin]; rfl, hext'.trans hext2⟩
          | succ j =>
            rw [show ((j + 1 : Nat) : Int) - 1 = (j : Int) by omega]
            have hj0 : (0 : Int) ≤ (j : Int) := by omega
            obtain ⟨bg, hga, hcg⟩ := row_strs hrow2 j (by omega)
            subst hga
            have hcg2 := (hext2.cell hcg)
            have hgj := HL19.out _ (List.getElem_mem (show j < gs.length by omega))
            have hto := textOut_len HL19.out HXB.out (j + 1)
            have hst := textOut_step X gs j (by omega)
            rw [← getD_of_ltL (show j < gs.length by omega)] at hst hgj
            have hix : ∀ w' : World, (Instr.indexAt 81 (.slice (some ⟨bg, 0, none⟩) gs.length gc) (.int .i64 (j : Int))).run Tryz.prog w' = .ok (.pointer (some ⟨bg, 0 + j, none⟩)) w' := fun w' => by
              have hr := run_sizeOf K1.out w'
              rw [K3.out] at hr
              simp only [Instr.indexAt, Sem.run_bind, run_underlying Tryz.underlying81, Result.andThen_ok, asIntOf, Sem.run_pure]
              have h1 : (0 : Int) ≤ (j : Int) ∧ (j : Int) < (gs.length : Int) := ⟨by omega, by omega⟩
              simp [h1, hr, Addr.add]
              try omega
            simp only [Nat.zero_add] at hix hcg2
            generalize textOut X gs (j + 1) = tt at *
            generalize gs.getD j [] = gg at *
            have hadd : ∀ W, (Op.stringOp .add ⟨tt.toArray⟩ ⟨gg.toArray⟩).run Tryz.prog W = .ok (.string ⟨(textOut X gs j).toArray⟩) W := fun W => by
              rw [run_string_add_sum _ _ _ (by show tt.toArray.size + gg.toArray.size ≤ _; simp; omega), ← hst]
              congr 2
            have HST := Lib.hid hst
            clear hst hcg hto hgj
            go_wp2_with fail
            go_roundw
            case rel => exact ⟨j, by omega, rfl, by go_num, rfl⟩
            case measure => simp [RowKit.intOf]
      · obtain rfl : n' = 0 := by omega
        go_wp2_with fail
        refine CSM.out.mono ?_
        rintro e w' ⟨rfl, rfl⟩
        go_wp2_with fail
        refine (fmt_calls X HXB.out _ ht').mono ?_
        rintro e w2 ⟨rfl, hext2⟩
        go_wp2_with fail
        go_loopw [9, 10] (fun ov iv wr => TextRel2 w2 X gs ov iv wr) (fun _ iv _ => (RowKit.intOf iv + 1).toNat)
        case atStart => exact ⟨gs.length, Nat.le_refl _, by rw [textOut_start], rfl, rfl⟩
        case round =>
          obtain ⟨k, hk, rfl, rfl, rfl⟩ := hrel
          cases k with
          | zero =>
            have g2 : ¬ ((0 : Int) ≤ ((0 : Nat) : Int) - 1) := by omega
            go_wp2_with fail
            go_ret
            refine ⟨by rw [HINV.out.fin]; rfl, hext'.trans hext2⟩
          | succ j =>
            rw [show ((j + 1 : Nat) : Int) - 1 = (j : Int) by omega]
            have hj0 : (0 : Int) ≤ (j : Int) := by omega
            obtain ⟨bg, hga, hcg⟩ := row_strs hrow2 j (by omega)
            subst hga
            have hcg2 := (hext2.cell hcg)
            have hgj := HL19.out _ (List.getElem_mem (show j < gs.length by omega))
            have hto := textOut_len HL19.out HXB.out (j + 1)
            have hst := textOut_step X gs j (by omega)
            rw [← getD_of_ltL (show j < gs.length by omega)] at hst hgj
            have hix : ∀ w' : World, (Instr.indexAt 81 (.slice (some ⟨bg, 0, none⟩) gs.length gc) (.int .i64 (j : Int))).run Tryz.prog w' = .ok (.pointer (some ⟨bg, 0 + j, none⟩)) w' := fun w' => by
              have hr := run_sizeOf K1.out w'
              rw [K3.out] at hr
              simp only [Instr.indexAt, Sem.run_bind, run_underlying Tryz.underlying81, Result.andThen_ok, asIntOf, Sem.run_pure]
              have h1 : (0 : Int) ≤ (j : Int) ∧ (j : Int) < (gs.length : Int) := ⟨by omega, by omega⟩
              simp [h1, hr, Addr.add]
              try omega
            simp only [Nat.zero_add] at hix hcg2
            generalize textOut X gs (j + 1) = tt at *
            generalize gs.getD j [] = gg at *
            have hadd : ∀ W, (Op.stringOp .add ⟨tt.toArray⟩ ⟨gg.toArray⟩).run Tryz.prog W = .ok (.string ⟨(textOut X gs j).toArray⟩) W := fun W => by
              rw [run_string_add_sum _ _ _ (by show tt.toArray.size + gg.toArray.size ≤ _; simp; omega), ← hst]
              congr 2
            have HST := Lib.hid hst
            clear hst hcg hto hgj
            go_wp2_with fail
            go_roundw
            case rel => exact ⟨j, by omega, rfl, by go_num, rfl⟩
            case measure => simp [RowKit.intOf]


end Go.Proofs.YtifoflicflodcaaGreatDoor
