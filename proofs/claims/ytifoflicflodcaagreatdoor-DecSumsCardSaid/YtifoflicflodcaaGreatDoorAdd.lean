/- nat.trim, nat.Norm, nat.Of, nat.Add. -/
import Derived.Test.YtifoflicflodcaaGreatDoorLib
namespace Go.Proofs.YtifoflicflodcaaGreatDoor
open Go.RowKit

theorem trimL_len_eq (xs : List Nat) (k : Nat) (h1 : (trimL xs).length ≤ k) (hk : k ≤ xs.length) (h : k = 0 ∨ xs.getD (k - 1) 0 ≠ 0) : (trimL xs).length = k := by
  induction xs generalizing k with
  | nil => simp at hk; subst hk; simp [trimL]
  | cons x xs ih =>
    rcases h with h | h
    · omega
    · cases k with
      | zero => simp at h1; simp [h1]
      | succ k =>
        by_cases e : trimL xs = []
        · rw [trimL_cons_nil e] at h1 ⊢
          cases k with
          | zero =>
            simp at h
            rw [if_neg h]; rfl
          | succ k =>
            have h2 := ih (k + 1) (by rw [e]; simp) (by simpa using hk) (.inr (by simpa using h))
            rw [e] at h2; simp at h2
        · rw [trimL_cons_ne e] at h1 ⊢
          have := ih k (by simpa using h1) (by simpa using hk) (by
            cases k with
            | zero => exact .inl rfl
            | succ k => exact .inr (by simpa using h))
          simp [this]

theorem trimL_len_step (xs : List Nat) (k : Nat) (h1 : (trimL xs).length ≤ k + 1) (hk : k < xs.length) (h : xs.getD k 0 = 0) : (trimL xs).length ≤ k := by
  rcases Nat.lt_or_ge k (trimL xs).length with hlt | hge
  · exfalso
    have e : (trimL xs).length = k + 1 := by omega
    induction xs generalizing k with
    | nil => simp at hk
    | cons x xs ih =>
      by_cases e' : trimL xs = []
      · rw [trimL_cons_nil e'] at e
        split at e
        · simp at e
        · simp at e; subst e; rename_i hx; simp at h; exact hx h
      · rw [trimL_cons_ne e'] at e
        cases k with
        | zero => simp at e; exact e' e
        | succ k => 
          exact ih k (by simp at e; omega) (by simpa using hk) (by simpa using h) (by simp at e; omega) (by simp at e; omega)
  · exact hge


set_option maxHeartbeats 400000 in
theorem trim_calls {a : Option Addr} {n c : Nat} {xs : List Nat} {w : World} (h : Sl w a n c xs) :
    Calls Tryz.prog 72 #[.slice a n c] w (Ret (.slice a (trimL xs).length (trimL xs).length) w) := by
  obtain ⟨i0, hi, _, hs, _⟩ := info_parts info64
  obtain ⟨b, off, hix, hcell, -⟩ := h.ix Tryz.underlying23 hi hs
  have hn : n ≤ 9223372036854775807 := Nat.le_trans h.cap h.big
  have hnc := h.cap
  have HL := Lib.hid h.len
  have HC := Lib.hid hcell
  have HX := Lib.hid hix
  have HS := Lib.hid (sliceAt_head (P := Tryz.prog) Tryz.underlying23 hi a n c)
  have HI := Lib.hid hi
  have HH := Lib.hid hs
  clear hix hcell h hi hs
  go_enter Tryz.func72, Tryz.ntmps72
  go_wp2
  go_loop [3] (fun i => ∃ k : Nat, k ≤ n ∧ i = .int .i64 k ∧ (trimL xs).length ≤ k) (fun i => (intOf i).toNat)
  case atStart => exact ⟨n, Nat.le_refl _, rfl, by rw [← HL.out]; exact trimL_len xs⟩
  case round =>
    obtain ⟨k, hk, rfl, ht⟩ := hrel
    have HT := Lib.hid ht
    clear ht
    have hsl := HS.out k (by omega)
    by_cases h0 : k = 0
    · subst h0
      have e := Lib.hid (trimL_len_eq xs 0 HT.out (by omega) (.inl rfl))
      go_wp2
      go_ret
      exact ⟨by rw [e.out]; rfl, rfl⟩
    · have hc1 := HC.out (k - 1) (by omega)
      have hx1 := HX.out (k - 1) (by omega)
      rw [show ((k - 1 : Nat) : Int) = (k : Int) - 1 by omega] at hx1
      have hb1 : 0 < k := by omega
      by_cases hz : xs.getD (k - 1) 0 = 0
      · rw [hz] at hc1
        have HZ := Lib.hid hz
        clear hz
        go_wp2
        go_round
        case rel => exact ⟨k - 1, by omega, by go_num, trimL_len_step xs (k - 1) (by have := HT.out; omega) (by rw [HL.out]; omega) HZ.out⟩
        case measure => simp [intOf]; omega
      · have e := Lib.hid (trimL_len_eq xs k HT.out (by rw [HL.out]; exact hk) (.inr hz))
        have hz' : (((xs.getD (k - 1) 0 : Nat) : Int) == 0) = false := by rw [beq_eq_false_iff_ne]; omega
        clear hz
        generalize xs.getD (k - 1) 0 = z at *
        go_wp2
        go_ret
        exact ⟨by rw [e.out]; rfl, rfl⟩

/-- The call returns a new slice that reads as xs, of at most L limbs; of what was there nothing has turned. -/
def New (w : World) (L : Nat) (xs : List Nat) (e : Ending) (w' : World) : Prop :=
  ∃ a n c, e = .returned (.slice a n c) ∧ Own w.heap.size w' a n c xs ∧ Ext w w' ∧ n ≤ L

theorem trimmed_calls {a : Option Addr} {n c : Nat} {xs : List Nat} {w : World} (h : Sl w a n c xs) :
    Calls Tryz.prog 72 #[.slice a n c] w (Ret (.slice a (lim (val xs)).length (lim (val xs)).length) w) := by
  have := trim_calls h
  rwa [trimL_lim h.bd] at this

theorem sum_of_rounds {os xs ys : List Nat} {c n : Nat} (hx : xs.length = n) (hy : ys.length ≤ n) (hl : os.length = n + 1)
    (h : nv B64 (os.take n) + B64 ^ n * c = nv B64 (xs.take n) + nv B64 (ys.take n)) : val (os.set n c) = val xs + val ys := by
  unfold val
  have e := nv_take_set B64 os n c (by omega)
  rw [List.take_of_length_le (by rw [List.length_set]; omega)] at e
  rw [nv_take_of_le B64 xs n (by omega), nv_take_of_le B64 ys n hy] at h
  omega

/-- What a sum's loop keeps. -/
def AddRel (w : World) (o : Option Addr) (A : Nat) (us vs : List Nat) (cv iv : Value) (wr : World) : Prop :=
  ∃ (k cr : Nat) (os : List Nat), k ≤ A ∧ iv = .int .i64 k ∧ cv = .int .u64 cr ∧ cr ≤ 1 ∧ Own w.heap.size wr o (A + 1) (A + 1) os ∧ Ext w wr ∧
    nv B64 (os.take k) + B64 ^ k * cr = nv B64 (us.take k) + nv B64 (vs.take k)

set_option maxHeartbeats 1000000 in
set_option maxRecDepth 100000 in
theorem add_calls_ge {a b : Option Addr} {m n c d : Nat} {xs ys : List Nat} {w : World} (ha : Sl w a m c xs) (hb : Sl w b n d ys) (hm : m ≤ 1000000000) (hge : (lim (val ys)).length ≤ (lim (val xs)).length) :
    Calls Tryz.prog 42 #[.slice a m c, .slice b n d] w (New w (m + 1) (lim (val xs + val ys))) := by
  obtain ⟨i0, hi, hz0, hs, hby⟩ := info_parts info64
  have ca := trimmed_calls ha
  have cb := trimmed_calls hb
  have ha' := ha.trimmed
  have hb' := hb.trimmed
  have hla := ha.trimmed_len
  have hlb := hb.trimmed_len
  have hva := val_lim (val xs)
  have hvb := val_lim (val ys)
  generalize val xs = X at *
  generalize val ys = Y at *
  generalize lim X = us at *
  generalize lim Y = vs at *
  obtain ⟨A, hA⟩ : ∃ A, us.length = A := ⟨_, rfl⟩
  obtain ⟨E, hE⟩ : ∃ E, vs.length = E := ⟨_, rfl⟩
  rw [hA] at ca ha' hla hge
  rw [hE] at cb hb' hlb hge
  have CA := Lib.hid ca; have CB := Lib.hid cb
  have HA := Lib.hid hA; have HE := Lib.hid hE; have HVA := Lib.hid hva; have HVB := Lib.hid hvb
  have H1 := Lib.hid hi; have H2 := Lib.hid hz0; have H3 := Lib.hid hs; have H4 := Lib.hid hby
  clear ca cb hA hE hva hvb hi hz0 hs hby
  have hge' : ¬ A < E := by omega
  go_enter Tryz.func42, Tryz.ntmps42
  go_wp2_with fail
  refine CA.out.mono ?_
  rintro e w' ⟨rfl, rfl⟩
  go_wp2_with fail
  refine CB.out.mono ?_
  rintro e w' ⟨rfl, rfl⟩
  go_wp2_with (at_make; refine make_sl _ rfl _ _ _ rfl _ _ Tryz.underlying23 H1.out H2.out H3.out H4.out _ _ rfl rfl (A + 1) (by omega) (by omega) (by omega) ?_)
  intro o w1 ho hext
  go_wp2_with fail
  go_loopw [6, 26] (fun cv iv wr => AddRel w o A us vs cv iv wr) (fun _ iv _ => A - (intOf iv).toNat)
  case atStart => exact ⟨0, 0, _, by omega, rfl, rfl, by omega, ho, hext, by simp⟩
  case round =>
    obtain ⟨k, cr, os, hk, rfl, rfl, hcr, hown, hex, hval⟩ := hrel
    have HV := Lib.hid hval
    clear hval
    obtain ⟨bo, oo, hixo, hco, hao⟩ := hown.sl.ix (P := Tryz.prog) Tryz.underlying23 H1.out H3.out
    by_cases hlt : k < A
    · obtain ⟨ba, oa, hixa, hca, -⟩ := (ha'.old hex).ix (P := Tryz.prog) Tryz.underlying23 H1.out H3.out
      have x1 := hixa k hlt
      have x2 := hca k hlt
      have x3 := hixo k (by omega)
      have x5 := hown.free (hao (by omega)) (oo + k)
      have x4 := hco k (by omega)
      have HO := Lib.hid (hao (by omega))
      have q1 := ha'.bd.getD B64_pos k
      have q2 := hb'.bd.getD B64_pos k
      have HTX := Lib.hid (nv_take_succ' B64 us k)
      have HTY := Lib.hid (nv_take_succ' B64 vs k)
      clear hixa hca hixo hco hao
      by_cases hlt2 : k < E
      · obtain ⟨bb, ob, hixb, hcb, -⟩ := (hb'.old hex).ix (P := Tryz.prog) Tryz.underlying23 H1.out H3.out
        have x6 := hixb k hlt2
        have x7 := hcb k hlt2
        clear hixb hcb
        generalize us.getD k 0 = u at *
        generalize vs.getD k 0 = v at *
        generalize os.getD k 0 = z at *
        have x8 := add64_run u v cr hcr
        have hst := hown.store HO.out k (addS u v cr) (by omega) (addS_lt _ _ _)
        have HS := Lib.hid hst
        clear hst
        go_wp2
        go_roundw
        case rel => 
          refine ⟨k + 1, addC u v cr, os.set k (addS u v cr), by omega, by go_num, rfl, addC_le q1 q2 hcr, HS.out.1, ?_, ?_⟩
          · exact Below.grown hex HS.out.2 hex.size (fun j hj => (hown.ge j hj).1)
          · rw [HTX.out, HTY.out, nv_take_set _ _ _ _ (by rw [hown.sl.len]; omega), Nat.pow_succ]
            exact add_round HV.out (addS_eq u v cr)
        case measure => simp [intOf]; omega
      · have HZ := Lib.hid (getD_of_ge (xs := vs) (i := k) (by rw [HE.out]; omega))
        rw [HZ.out] at q2 HTY
        generalize us.getD k 0 = u at *
        generalize os.getD k 0 = z at *
        have x8 := add64_run1 u cr hcr
        have hst := hown.store HO.out k (addS u 0 cr) (by omega) (addS_lt _ _ _)
        have HS := Lib.hid hst
        clear hst
        go_wp2
        go_roundw
        case rel => 
          refine ⟨k + 1, addC u 0 cr, os.set k (addS u 0 cr), by omega, by go_num, rfl, addC_le q1 q2 hcr, HS.out.1, ?_, ?_⟩
          · exact Below.grown hex HS.out.2 hex.size (fun j hj => (hown.ge j hj).1)
          · rw [HTX.out, HTY.out, nv_take_set _ _ _ _ (by rw [hown.sl.len]; omega), Nat.pow_succ]
            exact add_round HV.out (addS_eq u 0 cr)
        case measure => simp [intOf]; omega
    · obtain rfl : k = A := by omega
      have x3 := hixo k (by omega)
      have x4 := hco k (by omega)
      have x5 := hown.free (hao (by omega)) (oo + k)
      have HO := Lib.hid (hao (by omega))
      clear hixo hco hao
      have HW := Lib.hid (sum_of_rounds HA.out (by rw [HE.out]; exact hge) hown.sl.len HV.out)
      generalize os.getD k 0 = z at *
      have HS := Lib.hid (hown.store HO.out k cr (by omega) (by rw [B64_eq]; omega))
      have CT := Lib.hid (trimmed_calls HS.out.1.sl)
      go_wp2_with fail
      refine CT.out.mono ?_
      rintro e w' ⟨rfl, rfl⟩
      go_wp2_with fail
      go_ret
      have hlen := HS.out.1.sl.trimmed_len
      have hfin := HS.out.1.trimmed
      rw [HW.out, HVA.out, HVB.out] at hlen hfin
      refine ⟨o, _, _, ?_, hfin, Below.grown hex HS.out.2 hex.size (fun j hj => (hown.ge j hj).1), by omega⟩
      rw [HW.out, HVA.out, HVB.out]; rfl

set_option maxHeartbeats 1000000 in
set_option maxRecDepth 100000 in
theorem add_calls_lt {a b : Option Addr} {m n c d : Nat} {xs ys : List Nat} {w : World} (ha : Sl w a m c xs) (hb : Sl w b n d ys) (hn : n ≤ 1000000000) (hge : (lim (val xs)).length < (lim (val ys)).length) :
    Calls Tryz.prog 42 #[.slice a m c, .slice b n d] w (New w (n + 1) (lim (val xs + val ys))) := by
  obtain ⟨i0, hi, hz0, hs, hby⟩ := info_parts info64
  have ca := trimmed_calls ha
  have cb := trimmed_calls hb
  have ha' := ha.trimmed
  have hb' := hb.trimmed
  have hla := ha.trimmed_len
  have hlb := hb.trimmed_len
  have hva := val_lim (val xs)
  have hvb := val_lim (val ys)
  generalize val xs = X at *
  generalize val ys = Y at *
  generalize lim X = us at *
  generalize lim Y = vs at *
  obtain ⟨A, hA⟩ : ∃ A, us.length = A := ⟨_, rfl⟩
  obtain ⟨E, hE⟩ : ∃ E, vs.length = E := ⟨_, rfl⟩
  rw [hA] at ca ha' hla hge
  rw [hE] at cb hb' hlb hge
  have CA := Lib.hid ca; have CB := Lib.hid cb
  have HA := Lib.hid hA; have HE := Lib.hid hE; have HVA := Lib.hid hva; have HVB := Lib.hid hvb
  have H1 := Lib.hid hi; have H2 := Lib.hid hz0; have H3 := Lib.hid hs; have H4 := Lib.hid hby
  clear ca cb hA hE hva hvb hi hz0 hs hby
  go_enter Tryz.func42, Tryz.ntmps42
  go_wp2_with fail
  refine CA.out.mono ?_
  rintro e w' ⟨rfl, rfl⟩
  go_wp2_with fail
  refine CB.out.mono ?_
  rintro e w' ⟨rfl, rfl⟩
  go_wp2_with (at_make; refine make_sl _ rfl _ _ _ rfl _ _ Tryz.underlying23 H1.out H2.out H3.out H4.out _ _ rfl rfl (E + 1) (by omega) (by omega) (by omega) ?_)
  intro o w1 ho hext
  go_wp2_with fail
  go_loopw [6, 26] (fun cv iv wr => AddRel w o E vs us cv iv wr) (fun _ iv _ => E - (intOf iv).toNat)
  case atStart => exact ⟨0, 0, _, by omega, rfl, rfl, by omega, ho, hext, by simp⟩
  case round =>
    obtain ⟨k, cr, os, hk, rfl, rfl, hcr, hown, hex, hval⟩ := hrel
    have HV := Lib.hid hval
    clear hval
    obtain ⟨bo, oo, hixo, hco, hao⟩ := hown.sl.ix (P := Tryz.prog) Tryz.underlying23 H1.out H3.out
    by_cases hlt : k < E
    · obtain ⟨ba, oa, hixa, hca, -⟩ := (hb'.old hex).ix (P := Tryz.prog) Tryz.underlying23 H1.out H3.out
      have x1 := hixa k hlt
      have x2 := hca k hlt
      have x3 := hixo k (by omega)
      have x5 := hown.free (hao (by omega)) (oo + k)
      have x4 := hco k (by omega)
      have HO := Lib.hid (hao (by omega))
      have q1 := hb'.bd.getD B64_pos k
      have q2 := ha'.bd.getD B64_pos k
      have HTX := Lib.hid (nv_take_succ' B64 vs k)
      have HTY := Lib.hid (nv_take_succ' B64 us k)
      clear hixa hca hixo hco hao
      by_cases hlt2 : k < A
      · obtain ⟨bb, ob, hixb, hcb, -⟩ := (ha'.old hex).ix (P := Tryz.prog) Tryz.underlying23 H1.out H3.out
        have x6 := hixb k hlt2
        have x7 := hcb k hlt2
        clear hixb hcb
        generalize vs.getD k 0 = u at *
        generalize us.getD k 0 = v at *
        generalize os.getD k 0 = z at *
        have x8 := add64_run u v cr hcr
        have hst := hown.store HO.out k (addS u v cr) (by omega) (addS_lt _ _ _)
        have HS := Lib.hid hst
        clear hst
        go_wp2
        go_roundw
        case rel => 
          refine ⟨k + 1, addC u v cr, os.set k (addS u v cr), by omega, by go_num, rfl, addC_le q1 q2 hcr, HS.out.1, ?_, ?_⟩
          · exact Below.grown hex HS.out.2 hex.size (fun j hj => (hown.ge j hj).1)
          · rw [HTX.out, HTY.out, nv_take_set _ _ _ _ (by rw [hown.sl.len]; omega), Nat.pow_succ]
            exact add_round HV.out (addS_eq u v cr)
        case measure => simp [intOf]; omega
      · have HZ := Lib.hid (getD_of_ge (xs := us) (i := k) (by rw [HA.out]; omega))
        rw [HZ.out] at q2 HTY
        generalize vs.getD k 0 = u at *
        generalize os.getD k 0 = z at *
        have x8 := add64_run1 u cr hcr
        have hst := hown.store HO.out k (addS u 0 cr) (by omega) (addS_lt _ _ _)
        have HS := Lib.hid hst
        clear hst
        go_wp2
        go_roundw
        case rel => 
          refine ⟨k + 1, addC u 0 cr, os.set k (addS u 0 cr), by omega, by go_num, rfl, addC_le q1 q2 hcr, HS.out.1, ?_, ?_⟩
          · exact Below.grown hex HS.out.2 hex.size (fun j hj => (hown.ge j hj).1)
          · rw [HTX.out, HTY.out, nv_take_set _ _ _ _ (by rw [hown.sl.len]; omega), Nat.pow_succ]
            exact add_round HV.out (addS_eq u 0 cr)
        case measure => simp [intOf]; omega
    · obtain rfl : k = E := by omega
      have x3 := hixo k (by omega)
      have x4 := hco k (by omega)
      have x5 := hown.free (hao (by omega)) (oo + k)
      have HO := Lib.hid (hao (by omega))
      clear hixo hco hao
      have HW := Lib.hid (sum_of_rounds HE.out (by rw [HA.out]; omega) hown.sl.len HV.out)
      generalize os.getD k 0 = z at *
      have HS := Lib.hid (hown.store HO.out k cr (by omega) (by rw [B64_eq]; omega))
      have CT := Lib.hid (trimmed_calls HS.out.1.sl)
      go_wp2_with fail
      refine CT.out.mono ?_
      rintro e w' ⟨rfl, rfl⟩
      go_wp2_with fail
      go_ret
      have hlen := HS.out.1.sl.trimmed_len
      have hfin := HS.out.1.trimmed
      rw [HW.out, HVB.out, HVA.out, Nat.add_comm Y X] at hlen hfin
      refine ⟨o, _, _, ?_, hfin, Below.grown hex HS.out.2 hex.size (fun j hj => (hown.ge j hj).1), by omega⟩
      rw [HW.out, HVB.out, HVA.out, Nat.add_comm Y X]; rfl

theorem add_calls {a b : Option Addr} {m n c d : Nat} {xs ys : List Nat} {w : World} (ha : Sl w a m c xs) (hb : Sl w b n d ys) (hm : m ≤ 1000000000) (hn : n ≤ 1000000000) :
    Calls Tryz.prog 42 #[.slice a m c, .slice b n d] w (New w (max m n + 1) (lim (val xs + val ys))) := by
  rcases Nat.lt_or_ge (lim (val xs)).length (lim (val ys)).length with h | h
  · exact (add_calls_lt ha hb hn h).mono fun e w' ⟨a, n, c, h1, h2, h3, h4⟩ => ⟨a, n, c, h1, h2, h3, by omega⟩
  · exact (add_calls_ge ha hb hm h).mono fun e w' ⟨a, n, c, h1, h2, h3, h4⟩ => ⟨a, n, c, h1, h2, h3, by omega⟩

end Go.Proofs.YtifoflicflodcaaGreatDoor
