/- gleanref1.Text. -/
import Derived.Test.YtkdkgmnjhimdeaaGreatDoorRefY
import Derived.Test.YtkdkgmnjhimdeaaGreatDoorRefP
namespace Go.Proofs.YtkdkgmnjhimdeaaGreatDoor
open Go.RowKit Go.Lib

/-- A row of one's own as the walk meets it: what lies where, and a store. -/
theorem row_atB {P : Program} {w : World} {B : Nat} {v : Value} {n : Nat} {ds : List Nat} {T E : TypeId} {i : TypeInfo} (h : w.ownsRow B E 1 v n (cells8 ds)) (hT : P.underlying T = some (.slice E)) (hi : P.info? E = some i) (hs : i.size = 1)
    (j : Nat) (hj : j < n) : ∃ g, (∀ w' : World, (Instr.indexAt T v (.int .i64 (j : Int))).run P w' = .ok (.pointer (some ⟨g, j, none⟩)) w') ∧ w.cell? ⟨g, j, none⟩ = some (.int .u8 ((ds.getD j 0 : Nat) : Int)) ∧ w.frozen? ⟨g, j, none⟩ = false ∧ B ≤ g ∧
      ∀ x : Nat, (w.setCell ⟨g, j, none⟩ (.int .u8 (x : Int))).ownsRow B E 1 v n (cells8 (ds.set j x)) ∧ w.grownBy (w.setCell ⟨g, j, none⟩ (.int .u8 (x : Int))) (some g) := by
  have hl : ds.length = n := by have := h.1; simpa [cells8] using this
  obtain ⟨g, cap, rfl, hB, -⟩ := h.form (by omega)
  refine ⟨g, fun w' => ?_, ?_, h.frozenAt j, hB, fun x => ?_⟩
  · have hr := run_sizeOf hi w'
    rw [hs] at hr
    simp only [Instr.indexAt, Sem.run_bind, run_underlying hT, Result.andThen_ok, asIntOf, Sem.run_pure]
    have h1 : (0 : Int) ≤ (j : Int) ∧ (j : Int) < (n : Int) := ⟨by omega, by omega⟩
    simp [hj, hr, Addr.add]
    try omega
  · rw [h.cellAt j (by omega)]
    unfold cells8
    rw [List.getElem?_map, List.getElem?_eq_getElem (by omega), getD_of_lt (by omega)]
    rfl
  · obtain ⟨s1, s2⟩ := h.stored j (.int .u8 (x : Int))
    refine ⟨?_, s2⟩
    have e : cells8 (ds.set j x) = (cells8 ds).set j (.int .u8 (x : Int)) := by unfold cells8; rw [List.map_set]
    rw [e]; exact s1


theorem row_atX {P : Program} {w : World} {B g n cap : Nat} {ds : List Nat} {T E : TypeId} {i : TypeInfo} (h : w.ownsRow B E 1 (.slice (some ⟨g, 0, none⟩) n cap) n (cells8 ds)) (hT : P.underlying T = some (.slice E)) (hi : P.info? E = some i) (hs : i.size = 1)
    (j : Nat) (hj : j < n) : (∀ w' : World, (Instr.indexAt T (.slice (some ⟨g, 0, none⟩) n cap) (.int .i64 (j : Int))).run P w' = .ok (.pointer (some ⟨g, j, none⟩)) w') ∧ w.cell? ⟨g, j, none⟩ = some (.int .u8 ((ds.getD j 0 : Nat) : Int)) ∧ w.frozen? ⟨g, j, none⟩ = false ∧
      ∀ x : Nat, (w.setCell ⟨g, j, none⟩ (.int .u8 (x : Int))).ownsRow B E 1 (.slice (some ⟨g, 0, none⟩) n cap) n (cells8 (ds.set j x)) ∧ w.grownBy (w.setCell ⟨g, j, none⟩ (.int .u8 (x : Int))) (some g) := by
  have hl : ds.length = n := by have := h.1; simpa [cells8] using this
  refine ⟨fun w' => ?_, ?_, h.frozenAt j, fun x => ?_⟩
  · have hr := run_sizeOf hi w'
    rw [hs] at hr
    simp only [Instr.indexAt, Sem.run_bind, run_underlying hT, Result.andThen_ok, asIntOf, Sem.run_pure]
    have h1 : (0 : Int) ≤ (j : Int) ∧ (j : Int) < (n : Int) := ⟨by omega, by omega⟩
    simp [hj, hr, Addr.add]
    try omega
  · rw [h.cellAt j (by omega)]
    unfold cells8
    rw [List.getElem?_map, List.getElem?_eq_getElem (by omega), getD_of_lt (by omega)]
    rfl
  · obtain ⟨s1, s2⟩ := h.stored j (.int .u8 (x : Int))
    refine ⟨?_, s2⟩
    have e : cells8 (ds.set j x) = (cells8 ds).set j (.int .u8 (x : Int)) := by unfold cells8; rw [List.map_set]
    rw [e]; exact s1
theorem digs_cons {b n : Nat} (hb : 2 ≤ b) (h : n ≠ 0) : digs b n = (n % b) :: digs b (n / b) := by
  have hbd : Bd b ((n % b) :: digs b (n / b)) := Bd.cons (Nat.mod_lt _ (by omega)) (bd_digs hb _)
  have hn : Nrm ((n % b) :: digs b (n / b)) := by
    have h2 := nrm_digs (b := b) hb (n / b)
    cases hd : digs b (n / b) with
    | nil =>
      have h0 : n / b = 0 := (digs_nil hb).1 hd
      have h1 : n % b ≠ 0 := by
        have := Nat.div_add_mod n b
        rw [h0] at this
        omega
      simpa [Nrm] using h1
    | cons y ys =>
      rw [hd] at h2
      unfold Nrm at h2 ⊢
      rw [List.getLast?_cons_cons]
      exact h2
  exact (digs_unique hb hbd hn (by simp only [nv]; rw [nv_digs hb, Nat.add_comm]; exact Nat.div_add_mod n b)).symm
/-- Decimal digits as bytes, the lowest first. -/
def decRev (n : Nat) : List Nat := (digs 10 n).map (48 + ·)
theorem decRev_zero : decRev 0 = [] := rfl
theorem decRev_cons {n : Nat} (h : n ≠ 0) : decRev n = (48 + n % 10) :: decRev (n / 10) := by
  unfold decRev; rw [digs_cons (by decide) h]; rfl
theorem decRev_nil {n : Nat} (h : decRev n = []) : n = 0 := by
  unfold decRev at h
  exact (digs_nil (by decide)).1 (List.map_eq_nil_iff.1 h)
theorem decRev_dec (n : Nat) (h : n ≠ 0) : ((decRev n).reverse.map UInt8.ofNat) = decDigits n := by
  induction n using Nat.strongRecOn with
  | ind n ih =>
    rw [decRev_cons h, List.reverse_cons, List.map_append]
    by_cases h10 : n < 10
    · rw [decDigits_small h10, Nat.div_eq_of_lt h10, decRev_zero, Nat.mod_eq_of_lt h10]; rfl
    · rw [decDigits_big h10, ih (n / 10) (by omega) (by omega)]; rfl
theorem decRev_len (n : Nat) : (decRev n).length ≤ nDigits n := by
  by_cases h : n = 0
  · subst h; simp [decRev_zero]
  · have := congrArg List.length (decRev_dec n h)
    rw [List.length_map, List.length_reverse, decDigits_length] at this
    omega
/-- A digit more of the group. -/
theorem decRev_push {X V k r : Nat} {os : List Nat} (h : decRev X = os ++ decRev (V * 10 ^ (9 - k) + r)) (hk : k < 9) (h0 : r ≠ 0 ∨ V ≠ 0) (hr : r < 10 ^ (9 - k)) :
    decRev X = (os ++ [48 + r % 10]) ++ decRev (V * 10 ^ (9 - (k + 1)) + r / 10) ∧ r / 10 < 10 ^ (9 - (k + 1)) := by
  have e : 10 ^ (9 - k) = 10 * 10 ^ (9 - (k + 1)) := by rw [← Nat.pow_succ']; congr 1; omega
  have hp : 0 < 10 ^ (9 - (k + 1)) := Nat.pow_pos (by decide)
  rw [e] at h hr
  generalize 10 ^ (9 - (k + 1)) = p at *
  have hne : V * (10 * p) + r ≠ 0 := by
    rcases h0 with h0 | h0
    · omega
    · have : 0 < V * (10 * p) := Nat.mul_pos (Nat.pos_of_ne_zero h0) (by omega)
      omega
  have e2 : V * (10 * p) = 10 * (V * p) := by rw [Nat.mul_left_comm]
  rw [decRev_cons hne, e2] at h
  have e3 : (10 * (V * p) + r) % 10 = r % 10 := by omega
  have e4 : (10 * (V * p) + r) / 10 = V * p + r / 10 := by omega
  rw [e3, e4] at h
  refine ⟨by rw [h, List.append_assoc]; rfl, by omega⟩
/-- One digit of the long division by 10^9. -/
theorem text_step {ds es : List Nat} {i R u q R' : Nat} (hi : i < es.length) (hd : i < ds.length) (hu : ds.getD i 0 = u) (hs : R * 4294967296 + u = q * 1000000000 + R')
    (h : nv B32 (ds.drop (i + 1)) = nv B32 (es.drop (i + 1)) * 1000000000 + R) : nv B32 (ds.drop i) = nv B32 ((es.set i q).drop i) * 1000000000 + R' := by
  rw [drop_set_self es i q hi, nv_drop_succ B32 ds i hd, hu, h]
  simp only [nv]
  rw [B32_eq]
  generalize nv 4294967296 (es.drop (i + 1)) = Q at *
  omega
def EX2 (w w1 wr : World) : Prop := Ext w wr ∧ w1.heap.size ≤ wr.heap.size
def RTRel (w w1 : World) (X : Nat) (gk : Nat) (xv ov : Value) (wr : World) : Prop :=
  ∃ (o : Option Addr) (M c V N : Nat) (os : List Nat), xv = .slice o M c ∧ gk = V ∧ Own w.heap.size wr o M c (dig V) ∧ (∀ k, blk o = some k → k < w1.heap.size) ∧ wr.ownsRow w1.heap.size 5 1 ov N (cells8 os) ∧ N = os.length ∧
    decRev X = os ++ decRev V ∧ Bd 256 os ∧ V ≤ X ∧ EX2 w w1 wr
def RTDiv (w w1 : World) (o : Option Addr) (M c : Nat) (ds : List Nat) (ov : Value) (N : Nat) (os : List Nat) (rv iv : Value) (wr : World) : Prop :=
  ∃ (j R : Nat) (es : List Nat), j ≤ M ∧ iv = .int .i64 ((j : Int) - 1) ∧ rv = .int .u64 (R : Int) ∧ R < 1000000000 ∧ Own w.heap.size wr o M c es ∧ Bd B32 es ∧ es.take j = ds.take j ∧ nv B32 (ds.drop j) = nv B32 (es.drop j) * 1000000000 + R ∧
    wr.ownsRow w1.heap.size 5 1 ov N (cells8 os) ∧ EX2 w w1 wr
def RTOut (w w1 : World) (o : Option Addr) (M c : Nat) (X V : Nat) (ov rv kv : Value) (wr : World) : Prop :=
  ∃ (k R N : Nat) (os : List Nat), k ≤ 9 ∧ kv = .int .i64 (k : Int) ∧ rv = .int .u64 (R : Int) ∧ R < 10 ^ (9 - k) ∧ decRev X = os ++ decRev (V * 10 ^ (9 - k) + R) ∧ Bd 256 os ∧ N = os.length ∧ wr.ownsRow w1.heap.size 5 1 ov N (cells8 os) ∧
    Own w.heap.size wr o M c (dig V) ∧ EX2 w w1 wr
def RTRev (w w1 : World) (N : Nat) (os : List Nat) (ov iv jv : Value) (wr : World) : Prop :=
  ∃ (i : Nat) (cur : List Nat), i ≤ N ∧ iv = .int .i64 (i : Int) ∧ jv = .int .i64 ((N : Int) - 1 - (i : Int)) ∧ cur.length = N ∧ Bd 256 cur ∧
    (∀ p, p < N → cur.getD p 0 = if p < i ∨ N < p + i + 1 then os.getD (N - 1 - p) 0 else os.getD p 0) ∧ wr.ownsRow w1.heap.size 5 1 ov N (cells8 cur) ∧ Ext w wr
theorem ten_lt {k r : Nat} (h : r < 10 ^ (9 - k)) : r < 1000000000 := by
  have : 10 ^ (9 - k) ≤ 10 ^ 9 := Nat.pow_le_pow_right (by decide) (by omega)
  omega

set_option maxHeartbeats 16000000 in
set_option maxRecDepth 100000 in
theorem rtext_calls {a : Option Addr} {n c : Nat} {xs : List Nat} {w : World} (ha : Sl w a n c xs) (hn : n ≤ 10000) :
    Calls Tryz.prog 51 #[.slice a n c] w (StrE (decDigits (val xs)) w) := by
  obtain ⟨i0, hi, hz0, hs, hby⟩ := info_parts info64
  have H1 := Lib.hid hi; have H3 := Lib.hid hs
  clear hi hz0 hs hby
  obtain ⟨i8, hi, hz0, hs, hby⟩ := info_parts infoU8
  have K1 := Lib.hid hi; have K2 := Lib.hid hz0; have K3 := Lib.hid hs; have K4 := Lib.hid hby
  clear hi hz0 hs hby
  have HC := Lib.hid (digits_calls ha (by omega))
  have HLEN := Lib.hid (show (decRev (val xs)).length ≤ 200001 from by
    have h1 := decRev_len (val xs)
    have h2 := nDigits_limbs (V := val xs) (k := n) ha.trimmed_len
    omega)
  clear ha
  obtain ⟨X, hX⟩ : ∃ X, val xs = X := ⟨_, rfl⟩
  rw [hX] at HC HLEN ⊢
  clear hX
  go_enter Tryz.func51, Tryz.ntmps51
  go_wp2_with fail
  refine HC.out.mono ?_
  rintro e w1 ⟨o1, M1, c1, rfl, hown, hext, hM1⟩
  have HLIM := Lib.hid (fun k hk => (hown.ge k hk).2)
  have HO := Lib.hid hown; have HE := Lib.hid hext
  have HMX := Lib.hid (fun V (h : V ≤ X) => show (dig V).length ≤ 20000 from by
    have h1 := digs_len_mono B32_two h
    have h2 := hown.sl.len
    have h3 : (dig V).length ≤ (dig X).length := h1
    omega)
  clear hown hext
  go_wp2_with fail
  go_loopg [3, 4] X (fun gk xv ov wr => RTRel w w1 X gk xv ov wr)
  case atStart => exact ⟨o1, M1, c1, X, 0, [], rfl, rfl, HO.out, HLIM.out, World.ownsRow_nil _ _ _ _, rfl, rfl, Bd.nil _, Nat.le_refl _, HE.out, Nat.le_refl _⟩
  case round =>
    obtain ⟨o, M, c2, V, N, os, rfl, hgk, hown, hlim, hrow, hN, hdec, hbd, hVX, hex⟩ := hrel
    have HGK := Lib.hid hgk; have HO2 := Lib.hid hown; have HLM := Lib.hid hlim; have HROW := Lib.hid hrow; have HN := Lib.hid hN; have HDEC := Lib.hid hdec; have HBD := Lib.hid hbd; have HEX := Lib.hid hex
    obtain ⟨oa, oc, hvr⟩ := row_slice' hrow
    subst hvr
    have hlen := hown.sl.len
    have hNb : N ≤ 200001 := by
      have h1 := congrArg List.length hdec
      rw [List.length_append] at h1
      have h2 := HLEN.out
      omega
    have hM2 : M ≤ 20000 := by
      have h1 := HMX.out V hVX
      omega
    have HVX := Lib.hid hVX
    clear hgk hown hlim hrow hN hdec hbd hex hVX
    by_cases hV : V = 0
    · have hM0 : M = 0 := by rw [← hlen, hV]; rfl
      have hfin : decRev X = os := by have := HDEC.out; rw [hV, decRev_zero, List.append_nil] at this; exact this
      have HFIN := Lib.hid hfin
      have g1 : ¬ ((0 : Int) < (M : Int)) := by omega
      clear hlen hV hM0 hfin
      by_cases hX0 : N = 0
      · have hXZ : X = 0 := decRev_nil (by rw [HFIN.out]; exact List.eq_nil_of_length_eq_zero (by rw [← HN.out]; exact hX0))
        have HXZ := Lib.hid (show decDigits X = [48] by rw [hXZ, decDigits_small (by decide)]; rfl)
        subst hX0
        clear hXZ
        go_wp2_with fail
        go_ret
        exact ⟨by rw [HXZ.out]; rfl, HEX.out.1⟩
      · have g2 : ((N : Int) == 0) = false := by rw [beq_eq_false_iff_ne]; omega
        have hXZ : X ≠ 0 := fun h => hX0 (by rw [HN.out, ← HFIN.out, h]; rfl)
        have HXZ := Lib.hid hXZ
        have HST := Lib.hid (show RTRev w w1 N os (.slice oa N oc) (.int .i64 0) (.int .i64 ((N : Int) - 1)) wr from ⟨0, os, by omega, rfl, by go_num, HN.out.symm, HBD.out, fun p hp => by rw [if_neg (by omega)], HROW.out, HEX.out.1⟩)
        clear hXZ
        go_wp2_with fail
        go_loopw [9, 10] (fun iv jv wr => RTRev w w1 N os (.slice oa N oc) iv jv wr) (fun iv _ _ => N - (RowKit.intOf iv).toNat)
        case atStart => exact HST.out
        case round =>
          obtain ⟨i, cur, hiN, rfl, rfl, hcl, hcb, hcur, hrow2, hex2⟩ := hrel
          have HCL := Lib.hid hcl; have HCB := Lib.hid hcb; have HCUR := Lib.hid hcur; have HROW2 := Lib.hid hrow2; have HEX2 := Lib.hid hex2
          clear hcl hcb hcur hrow2 hex2
          by_cases hij : i + i + 1 < N
          · have hlt : (i : Int) < (N : Int) - 1 - (i : Int) := by omega
            obtain ⟨j, hj⟩ : ∃ j, N - 1 - i = j := ⟨_, rfl⟩
            have hjI : (N : Int) - 1 - (i : Int) = (j : Int) := by omega
            have hjN : j < N := by omega
            have hiN2 : i < N := by omega
            have hne : j ≠ i := by omega
            obtain ⟨g, cap, hform, hgw, -⟩ := HROW2.out.form (by omega)
            injection hform with f1 f2 f3
            subst f1 f3
            obtain ⟨x1, x2, x3, x4⟩ := row_atX (P := Tryz.prog) HROW2.out Tryz.underlying50 K1.out K3.out i hiN2
            obtain ⟨y1, y2, y3, -⟩ := row_atX (P := Tryz.prog) HROW2.out Tryz.underlying50 K1.out K3.out j hjN
            have hci := HCUR.out i hiN2
            rw [if_neg (by omega)] at hci
            have hcj := HCUR.out j hjN
            rw [if_neg (by omega)] at hcj
            have huB := HCB.out.getD (by decide) i
            have hvB := HCB.out.getD (by decide) j
            have HCI := Lib.hid hci; have HCJ := Lib.hid hcj
            obtain ⟨u, hu⟩ : ∃ u, cur.getD i 0 = u := ⟨_, rfl⟩
            obtain ⟨v, hv⟩ : ∃ v, cur.getD j 0 = v := ⟨_, rfl⟩
            rw [hu] at x2 huB HCI
            rw [hv] at y2 hvB HCJ
            obtain ⟨z1, z2⟩ := x4 v
            obtain ⟨-, -, -, z3⟩ := row_atX (P := Tryz.prog) z1 Tryz.underlying50 K1.out K3.out j hjN
            obtain ⟨z4, z5⟩ := z3 u
            have HZ4 := Lib.hid z4
            have HE5 := Lib.hid (Below.grown (Below.grown HEX2.out z2 HEX2.out.size (fun k h => by cases h; exact Nat.le_trans HE.out.size hgw)) z5 (Nat.le_trans HEX2.out.size (by simp)) (fun k h => by cases h; exact Nat.le_trans HE.out.size hgw))
            have HUB := Lib.hid huB; have HVB := Lib.hid hvB
            have HREL : Hid (∀ p, p < N → ((cur.set i v).set j u).getD p 0 = if p < i + 1 ∨ N < p + (i + 1) + 1 then os.getD (N - 1 - p) 0 else os.getD p 0) := Lib.hid (fun p hp => by
              by_cases hpj : p = j
              · subst hpj
                rw [set_getD_self (by rw [List.length_set, HCL.out]; omega), if_pos (by omega), HCI.out]
                congr 1; omega
              · rw [set_getD_other (Ne.symm hpj)]
                by_cases hpi : p = i
                · subst hpi
                  rw [set_getD_self (by rw [HCL.out]; omega), if_pos (by omega), HCJ.out]
                  congr 1; omega
                · rw [set_getD_other (Ne.symm hpi), HCUR.out p hp]
                  by_cases hc : p < i ∨ N < p + i + 1
                  · rw [if_pos hc, if_pos (by omega)]
                  · rw [if_neg hc, if_neg (by omega)])
            clear hci hcj hu hv x4 z1 z2 z3 z4 z5 huB hvB
            rw [hjI]
            have hlt2 : (i : Int) < (j : Int) := by omega
            go_wp2_with fail
            go_region
            all_goals (
              go_wp2_with fail
              go_roundw
              case rel => exact ⟨i + 1, _, by omega, by go_num, (by first | go_num | (congr 1; omega)), by rw [List.length_set, List.length_set]; exact HCL.out, (HCB.out.set i HVB.out).set j HUB.out, HREL.out, HZ4.out.drew, HE5.out.drew⟩
              case measure => simp only [RowKit.intOf]; omega)
          · have hge : ¬ ((i : Int) < (N : Int) - 1 - (i : Int)) := by omega
            have hrev : cur = os.reverse := by
              refine List.ext_getElem (by rw [List.length_reverse, HCL.out, HN.out]) fun p h1 h2 => ?_
              have hp : p < N := by rw [← HCL.out]; exact h1
              have h3 := HCUR.out p hp
              rw [← getD_of_lt h1, ← getD_of_lt h2, h3, getD_reverse HN.out.symm hp]
              split
              · rfl
              · congr 1; omega
            obtain ⟨g, cap, hform, hgw, -⟩ := HROW2.out.form (by omega)
            injection hform with f1 f2 f3
            subst f1 f3
            have hl : (os.reverse.map UInt8.ofNat).length = N := by rw [List.length_map, List.length_reverse]; exact HN.out.symm
            have hcv := run_convert_bytes_back (P := Tryz.prog) wr 50 9 5 ⟨g, 0, none⟩ oc (os.reverse.map UInt8.ofNat) (by kernel_rfl) (by kernel_rfl) (by kernel_rfl) (fun q hq => by
              have hqN : q < N := by omega
              obtain ⟨-, x2, -, -⟩ := row_atX (P := Tryz.prog) HROW2.out Tryz.underlying50 K1.out K3.out q hqN
              have hadd : (⟨g, 0, none⟩ : Addr).add q = ⟨g, q, none⟩ := by unfold Addr.add; split <;> simp_all
              rw [hadd, x2, hrev]
              have hq2 : q < os.reverse.length := by rw [List.length_reverse, ← HN.out]; exact hqN
              rw [getD_of_lt hq2, List.getElem_map]
              have hb : os.reverse[q] < 256 := HBD.out _ (List.mem_reverse.1 (List.getElem_mem hq2))
              rw [UInt8.toNat_ofNat', Nat.mod_eq_of_lt hb])
            rw [hl] at hcv
            have hdd : (os.reverse.map UInt8.ofNat) = decDigits X := by rw [← HFIN.out]; exact decRev_dec X HXZ.out
            rw [hdd] at hcv
            clear hdd hl hrev
            go_wp2_with fail
            go_ret
            exact ⟨rfl, HEX2.out⟩
    · have hMp : 0 < M := by
        rw [← hlen]
        exact List.length_pos_iff.2 (fun h => hV ((digs_nil B32_two).1 h))
      have g1 : (0 : Int) < (M : Int) := by omega
      have HV := Lib.hid hV
      have HDL := Lib.hid hlen
      have HST := Lib.hid (show RTDiv w w1 o M c2 (dig V) (.slice oa N oc) N os (.int .u64 0) (.int .i64 ((M : Int) - 1)) wr from ⟨M, 0, dig V, Nat.le_refl _, rfl, rfl, by decide, HO2.out, bd_dig V, rfl, by rw [List.drop_of_length_le (by rw [hlen]; exact Nat.le_refl _)]; rfl, HROW.out, HEX.out⟩)
      clear hV hlen
      go_wp2_with fail
      go_loopw [5, 6] (fun rv iv wr => RTDiv w w1 o M c2 (dig V) (.slice oa N oc) N os rv iv wr) (fun _ iv _ => (RowKit.intOf iv + 1).toNat)
      case atStart => exact HST.out
      case round =>
        obtain ⟨j, R, es, hj, rfl, rfl, hR, hown, hbe, htake, hnv, hrow, hex⟩ := hrel
        have HOWN := Lib.hid hown; have HBE := Lib.hid hbe; have HTK := Lib.hid htake; have HNV := Lib.hid hnv; have HROW2 := Lib.hid hrow; have HEX2 := Lib.hid hex
        clear hown hbe htake hnv hrow hex
        cases j with
        | zero =>
          have g2 : ¬ ((0 : Int) ≤ ((0 : Nat) : Int) - 1) := by omega
          obtain ⟨V', hV'⟩ : ∃ V', rval es = V' := ⟨_, rfl⟩
          have hVV : V = V' * 1000000000 + R := by
            have := HNV.out
            rw [List.drop_zero, List.drop_zero] at this
            rw [← hV', ← show rval (dig V) = V from rval_dig V]
            exact this
          have htr : trimL es = dig V' := by rw [trimL_dig HBE.out, hV']
          have CT := rtrim_calls HOWN.out.sl
          have HO3 := HOWN.out.rtrim
          rw [htr] at CT HO3
          obtain ⟨M', hM'⟩ : ∃ M', (dig V').length = M' := ⟨_, rfl⟩
          rw [hM'] at CT HO3
          have HCT := Lib.hid CT
          have hVlt : V' < V := by have := HV.out; omega
          have hM'b : M' ≤ 20000 := by have := HMX.out V' (by have := HVX.out; omega); omega
          have hM0 : M' = 0 ↔ V' = 0 := by
            rw [← hM', List.length_eq_zero_iff]; exact digs_nil B32_two
          have HST2 := Lib.hid (show RTOut w w1 o M' c2 X V' (.slice oa N oc) (.int .u64 (R : Int)) (.int .i64 0) wr from ⟨0, R, N, os, by omega, rfl, rfl, hR, by rw [HDEC.out, hVV], HBD.out, HN.out, HROW2.out, HO3, HEX2.out⟩)
          have HVLT := Lib.hid hVlt; have HM0 := Lib.hid hM0
          have HVX' := Lib.hid (show V' ≤ X by have := HVX.out; omega)
          clear hV' hVV htr CT HO3 hM' hVlt hM0
          go_wp2_with fail
          refine HCT.out.mono ?_
          rintro e w3 ⟨rfl, rfl⟩
          go_wp2_with fail
          go_loopw [4, 5, 8] (fun ov rv kv wr => RTOut w w1 o M' c2 X V' ov rv kv wr) (fun _ _ kv _ => 9 - (RowKit.intOf kv).toNat)
          case atStart => exact HST2.out
          case round =>
            obtain ⟨k, R2, N2, os2, hk, rfl, rfl, hR2, hdec2, hbd2, hN2, hrow3, hown3, hex3⟩ := hrel
            have HDEC2 := Lib.hid hdec2; have HBD2 := Lib.hid hbd2; have HN2 := Lib.hid hN2; have HROW3 := Lib.hid hrow3; have HOWN3 := Lib.hid hown3; have HEX3 := Lib.hid hex3; have HR2 := Lib.hid hR2
            obtain ⟨ob, od, hvr⟩ := row_slice' hrow3
            subst hvr
            have hN2b : N2 ≤ 200001 := by
              have h1 := congrArg List.length hdec2
              rw [List.length_append] at h1
              have h2 := HLEN.out
              omega
            have hRb := ten_lt hR2
            clear hdec2 hbd2 hN2 hrow3 hown3 hex3 hR2
            by_cases hk9 : k = 9
            · subst hk9
              have hR0 : R2 = 0 := by have := HR2.out; simpa using this
              have HFD := Lib.hid (show decRev X = os2 ++ decRev V' by have := HDEC2.out; rw [hR0, Nat.sub_self, Nat.pow_zero, Nat.mul_one, Nat.add_zero] at this; exact this)
              subst hR0
              have HREL : Hid (∀ gk, gk = V' → RTRel w w1 X gk (.slice o M' c2) (.slice ob N2 od) wr) := Lib.hid (fun gk hg => ⟨o, M', c2, V', N2, os2, rfl, hg, HOWN3.out, HLM.out, HROW3.out, HN2.out, HFD.out, HBD2.out, HVX'.out, HEX3.out⟩)
              go_wp2_with fail
              go_roundg V'
              case measure => rw [HGK.out]; exact HVLT.out
              case rel => exact HREL.out _ rfl
            have hk9I : (k : Int) < 9 := by omega
            by_cases hR0 : R2 = 0
            · subst hR0
              by_cases hVz : V' = 0
              · have hM0' : M' = 0 := HM0.out.2 hVz
                have HFD := Lib.hid (show decRev X = os2 ++ decRev V' by have := HDEC2.out; rw [hVz, Nat.zero_mul] at this; rw [hVz]; exact this)
                have hM0I : ¬ ((0 : Int) < (M' : Int)) := by omega
                clear hM0'
                have HREL : Hid (∀ gk, gk = V' → RTRel w w1 X gk (.slice o M' c2) (.slice ob N2 od) wr) := Lib.hid (fun gk hg => ⟨o, M', c2, V', N2, os2, rfl, hg, HOWN3.out, HLM.out, HROW3.out, HN2.out, HFD.out, HBD2.out, HVX'.out, HEX3.out⟩)
                go_wp2_with fail
                go_roundg V'
                case measure => rw [HGK.out]; exact HVLT.out
                case rel => exact HREL.out _ rfl
              · have hMne : M' ≠ 0 := fun h => hVz (HM0.out.1 h)
                have hM0I : (0 : Int) < (M' : Int) := by omega
                have hp := decRev_push HDEC2.out (by omega) (.inr hVz) HR2.out
                have HP1 := Lib.hid (show decRev X = (os2 ++ [48]) ++ decRev (V' * 10 ^ (9 - (k + 1)) + 0) from hp.1); have HP2 := Lib.hid (show 0 < 10 ^ (9 - (k + 1)) from hp.2)
                have hv8 : 48 < 256 := by decide
                obtain ⟨Z, hZ⟩ : ∃ Z, wr.alloc (.cells #[.int .u8 48] 5) = Z := ⟨_, rfl⟩
                have EWZ := Lib.hid (show Ext wr Z by rw [← hZ]; exact (Ext.refl _).alloc _)
                have SZ := Lib.hid (show SlB Z (some ⟨wr.heap.size, 0, none⟩) 1 1 [48] by rw [← hZ]; exact litB1_at wr 48 hv8)
                have EZ := Lib.hid (HEX3.out.1.trans EWZ.out)
                have RZ := Lib.hid (show Z.ownsRow w1.heap.size 5 1 (.slice ob N2 od) N2 (cells8 os2) by rw [← hZ]; exact World.ownsRow.alloc HROW3.out _)
                have HSZ1 := Lib.hid (Nat.le_trans HEX3.out.2 EWZ.out.size)
                have HZ := Lib.hid hZ
                clear hZ hp
                go_wp2_with (first | (at_builtin; refine append_row_slB' _ rfl _ _ _ rfl _ _ Tryz.underlying50 K1.out K2.out K3.out K4.out w1.heap.size _ _ _ rfl RZ.out HSZ1.out _ _ _ _ rfl SZ.out (by omega) HBD2.out ?_) | rw [HZ.out])
                intro v5 w5 o5 g5
                have E5 := Lib.hid (show EX2 w w1 w5 from ⟨Below.grown EZ.out g5 EZ.out.size (fun k h => Nat.le_trans HE.out.size (World.ownsRow.lt HROW3.out k h).1), Nat.le_trans HSZ1.out g5.size⟩)
                have hnb : (Value.slice ob N2 od).ownBlock = none ∨ blk o ≠ (Value.slice ob N2 od).ownBlock := by
                  rcases hob : (Value.slice ob N2 od).ownBlock with _ | kb
                  · exact .inl rfl
                  · right
                    intro he
                    have l1 := (World.ownsRow.lt HROW3.out kb hob).1
                    have l2 := HLM.out kb he
                    omega
                have OX := Lib.hid ((HOWN3.out.old EWZ.out).grown g5 hnb)
                have O5 := Lib.hid o5
                obtain ⟨rg, rh, hvr⟩ := row_slice' o5
                subst hvr
                clear o5 g5 hnb
                have HREL : Hid (∀ kv, kv = Value.int .i64 ((k : Int) + 1) → RTOut w w1 o M' c2 X V' (.slice rg (N2 + 1) rh) (.int .u64 0) kv w5) := Lib.hid (fun kv hkv => ⟨k + 1, 0, N2 + 1, os2 ++ [48], by omega, by rw [hkv]; go_num, rfl, HP2.out, HP1.out, HBD2.out.append (Bd.cons hv8 (Bd.nil _)), by rw [List.length_append, ← HN2.out]; rfl, O5.out, OX.out, E5.out⟩)
                go_wp2_with fail
                go_roundw
                case rel => exact HREL.out _ rfl
                case measure => simp only [RowKit.intOf]; omega
            · have hRI : (0 : Int) < (R2 : Int) := by omega
              have hp := decRev_push HDEC2.out (by omega) (.inl hR0) HR2.out
              have HP1 := Lib.hid hp.1; have HP2 := Lib.hid hp.2
              obtain ⟨d, hd⟩ : ∃ d, R2 % 10 = d := ⟨_, rfl⟩
              obtain ⟨v, hv⟩ : ∃ v, 48 + d = v := ⟨_, rfl⟩
              obtain ⟨R3, hR3⟩ : ∃ R3, R2 / 10 = R3 := ⟨_, rfl⟩
              rw [hd, hv, hR3] at HP1
              rw [hR3] at HP2
              have f1 : (R2 : Int).tmod 10 = (d : Int) := by rw [Int.tmod_eq_emod_of_nonneg (by omega)]; omega
              have f2 : (48 : Int) + (d : Int) = (v : Int) := by omega
              have f3 : (R2 : Int).tdiv 10 = (R3 : Int) := by rw [Int.tdiv_eq_ediv_of_nonneg (by omega)]; omega
              have hv8 : v < 256 := by omega
              have hR3b : R3 < 1000000000 := by omega
              have f4 : IntKind.u8.wrap (v : Int) = (v : Int) := IntWalk.u8_in _ (by omega)
              have f5 : IntKind.u64.wrap (v : Int) = (v : Int) := IntWalk.u64_in _ (by omega)
              obtain ⟨Z, hZ⟩ : ∃ Z, wr.alloc (.cells #[.int .u8 (v : Int)] 5) = Z := ⟨_, rfl⟩
              have EWZ := Lib.hid (show Ext wr Z by rw [← hZ]; exact (Ext.refl _).alloc _)
              have SZ := Lib.hid (show SlB Z (some ⟨wr.heap.size, 0, none⟩) 1 1 [v] by rw [← hZ]; exact litB1_at _ v hv8)
              have EZ := Lib.hid (HEX3.out.1.trans EWZ.out)
              have RZ := Lib.hid (show Z.ownsRow w1.heap.size 5 1 (.slice ob N2 od) N2 (cells8 os2) by rw [← hZ]; exact World.ownsRow.alloc HROW3.out _)
              have HSZ1 := Lib.hid (Nat.le_trans HEX3.out.2 EWZ.out.size)
              have HZ := Lib.hid hZ
              clear hZ hp hd hv hR3
              go_wp2_with (first | (at_builtin; refine append_row_slB' _ rfl _ _ _ rfl _ _ Tryz.underlying50 K1.out K2.out K3.out K4.out w1.heap.size _ _ _ rfl RZ.out HSZ1.out _ _ _ _ rfl SZ.out (by omega) HBD2.out ?_) | rw [HZ.out])
              intro v5 w5 o5 g5
              have E5 := Lib.hid (show EX2 w w1 w5 from ⟨Below.grown EZ.out g5 EZ.out.size (fun k h => Nat.le_trans HE.out.size (World.ownsRow.lt HROW3.out k h).1), Nat.le_trans HSZ1.out g5.size⟩)
              have hnb : (Value.slice ob N2 od).ownBlock = none ∨ blk o ≠ (Value.slice ob N2 od).ownBlock := by
                rcases hob : (Value.slice ob N2 od).ownBlock with _ | kb
                · exact .inl rfl
                · right
                  intro he
                  have l1 := (World.ownsRow.lt HROW3.out kb hob).1
                  have l2 := HLM.out kb he
                  omega
              have OX := Lib.hid ((HOWN3.out.old EWZ.out).grown g5 hnb)
              have O5 := Lib.hid o5
              obtain ⟨rg, rh, hvr⟩ := row_slice' o5
              subst hvr
              clear o5 g5 hnb
              have HREL : Hid (∀ kv, kv = Value.int .i64 ((k : Int) + 1) → RTOut w w1 o M' c2 X V' (.slice rg (N2 + 1) rh) (.int .u64 (R3 : Int)) kv w5) := Lib.hid (fun kv hkv => ⟨k + 1, R3, N2 + 1, os2 ++ [v], by omega, by rw [hkv]; go_num, rfl, HP2.out, HP1.out, HBD2.out.append (Bd.cons hv8 (Bd.nil _)), by rw [List.length_append, ← HN2.out]; rfl, O5.out, OX.out, E5.out⟩)
              go_wp2_with fail
              go_roundw
              case rel => exact HREL.out _ rfl
              case measure => simp only [RowKit.intOf]; omega
        | succ i =>
          rw [show ((i + 1 : Nat) : Int) - 1 = (i : Int) by omega]
          have hi0 : (0 : Int) ≤ (i : Int) := by omega
          have hiM : i < M := by omega
          obtain ⟨bo, oo, hix, hcell, hao⟩ := HOWN.out.sl.ix (P := Tryz.prog) Tryz.underlying22 H1.out H3.out
          have x1 := hix i hiM
          have x2 := hcell i hiM
          have x5 := HOWN.out.free (hao (by omega)) (oo + i)
          have HAO := Lib.hid (hao (by omega))
          have hel := HOWN.out.sl.len
          have hud : es.getD i 0 = (dig V).getD i 0 := by
            have h1 := congrArg (fun t => t.getD i 0) HTK.out
            simp only [List.getD_eq_getElem?_getD, List.getElem?_take, if_pos (Nat.lt_succ_self i)] at h1
            simpa [List.getD_eq_getElem?_getD] using h1
          have hu := HBE.out.getD B32_pos i
          have HUD := Lib.hid hud
          clear hix hcell hao hud
          generalize es.getD i 0 = u at *
          rw [B32_eq] at hu
          obtain ⟨R4, hR4⟩ : ∃ R4, R * 4294967296 = R4 := ⟨_, rfl⟩
          obtain ⟨s, hs⟩ : ∃ s, R4 + u = s := ⟨_, rfl⟩
          have hR4I : (R : Int) * 4294967296 = (R4 : Int) := by omega
          have hR4b : R4 < 4294967296000000000 := by omega
          have hor : bits BinOp.or IntKind.u64 (R4 : Int) (u : Int) = (s : Int) := by
            rw [bits_or_u64_nat R4 u (by omega) (by omega), Nat.or_comm, ← hR4, or_add (by rw [B32_eq]; exact hu), B32_eq]
            omega
          obtain ⟨q, hq⟩ : ∃ q, s / 1000000000 = q := ⟨_, rfl⟩
          obtain ⟨R', hR'⟩ : ∃ R', s % 1000000000 = R' := ⟨_, rfl⟩
          have hqI : (s : Int).tdiv 1000000000 = (q : Int) := by rw [Int.tdiv_eq_ediv_of_nonneg (by omega)]; omega
          have hRI : (s : Int).tmod 1000000000 = (R' : Int) := by rw [Int.tmod_eq_emod_of_nonneg (by omega)]; omega
          have hqb : q < 4294967296 := by omega
          have hR'b : R' < 1000000000 := by omega
          have HSTEP := Lib.hid (text_step (ds := dig V) (es := es) (i := i) (R := R) (u := u) (q := q) (R' := R') (by omega) (by rw [HDL.out]; omega) HUD.out.symm (show R * 4294967296 + u = q * 1000000000 + R' by rw [hR4, hs, ← hq, ← hR', Nat.mul_comm]; exact (Nat.div_add_mod s 1000000000).symm) HNV.out)
          have HST3 := Lib.hid (HOWN.out.store HAO.out i q (by omega) (by rw [B64_eq]; omega))
          have HBE3 := Lib.hid (HBE.out.set i (show q < B32 by rw [B32_eq]; exact hqb))
          have HTK3 := Lib.hid (show (es.set i q).take i = (dig V).take i by
            rw [take_set_lo _ _ _ _ (Nat.le_refl _)]
            have h1 := congrArg (List.take i) HTK.out
            rwa [List.take_take, List.take_take, Nat.min_eq_left (by omega)] at h1)
          have hnb : (Value.slice oa N oc).ownBlock = none ∨ (Value.slice oa N oc).ownBlock ≠ blk o := by
            rcases hob : (Value.slice oa N oc).ownBlock with _ | kb
            · exact .inl rfl
            · right
              intro he
              have l1 := (World.ownsRow.lt HROW2.out kb hob).1
              have l2 := HLM.out kb he.symm
              omega
          have HROW4 := Lib.hid (World.ownsRow.kept HROW2.out HST3.out.2 hnb)
          have HEX4 := Lib.hid (show EX2 w w1 _ from ⟨Ext.grown' HEX2.out.1 HOWN.out (Nat.le_refl _) HST3.out.2, Nat.le_trans HEX2.out.2 HST3.out.2.size⟩)
          clear hR4 hs hq hR' hel hnb
          go_wp2_with fail
          go_roundw
          case rel => exact ⟨i, R', es.set i q, by omega, by go_num, rfl, hR'b, HST3.out.1, HBE3.out, HTK3.out, HSTEP.out, HROW4.out, HEX4.out⟩
          case measure => simp only [RowKit.intOf]; omega

end Go.Proofs.YtkdkgmnjhimdeaaGreatDoor
