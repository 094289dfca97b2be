/- gleanlaw3.RatSplit: the walk. -/
import Derived.Test.YtnfjfgfkeigkiaaGreatDoorKnownR
namespace Go.Proofs.YtnfjfgfkeigkiaaGreatDoor
open Go.RowKit

/-! Sums, exactly. -/
def exR (p q : Nat × Nat) : Nat × Nat := (p.1 * dD q.2 + dN q.1 q.2 * p.2, p.2 * dD q.2)
def exS (l : List (Nat × Nat)) : Nat × Nat := l.foldl exR (0, 1)
def redR (p : Nat × Nat) : Nat × Nat := (rN p.1 p.2, rD p.1 p.2)
theorem dN_pos {X Y : Nat} (h : 0 < Y) : dN X Y = X := by unfold dN; rw [if_neg (by omega)]
theorem dD_of_pos {Y : Nat} (h : 0 < Y) : dD Y = Y := by unfold dD; rw [if_neg (by omega)]
theorem addR_red {p q : Nat × Nat} (hp : 0 < p.2) : addR (redR p) q = redR (exR p q) := by
  have h1 := r_cross p.1 p.2
  have h2 := rD_pos (X := p.1) hp
  have e := add_via (X3 := dN q.1 q.2) hp h2 (dD_pos q.2) h1
  unfold addR redR exR
  simp only
  rw [dN_pos h2, dD_of_pos h2, e.1, e.2]
theorem foldR (l : List (Nat × Nat)) : ∀ p : Nat × Nat, 0 < p.2 → l.foldl addR (redR p) = redR (l.foldl exR p) ∧ 0 < (l.foldl exR p).2 := by
  induction l with
  | nil => intro p hp; exact ⟨rfl, hp⟩
  | cons q l ih =>
    intro p hp
    rw [List.foldl_cons, List.foldl_cons, addR_red hp]
    exact ih _ (Nat.mul_pos hp (dD_pos _))
theorem sumR_ex (l : List (Nat × Nat)) : sumR l = redR (exS l) ∧ 0 < (exS l).2 := by
  have h := foldR l (0, 1) (by decide)
  have e : redR (0, 1) = (0, 1) := by decide +kernel
  rw [e] at h
  exact h
theorem exS_shift (l : List (Nat × Nat)) : ∀ N D N' D' : Nat, l.foldl exR (N * D' + N' * D, D * D') = (N * (l.foldl exR (N', D')).2 + (l.foldl exR (N', D')).1 * D, D * (l.foldl exR (N', D')).2) := by
  induction l with
  | nil => intro N D N' D'; rfl
  | cons q l ih =>
    intro N D N' D'
    rw [List.foldl_cons, List.foldl_cons]
    have e : exR (N * D' + N' * D, D * D') q = (N * (exR (N', D') q).2 + (exR (N', D') q).1 * D, D * (exR (N', D') q).2) := by
      unfold exR
      simp only
      generalize dD q.2 = y
      generalize dN q.1 q.2 = x
      refine Prod.ext ?_ ?_
      · show (N * D' + N' * D) * y + x * (D * D') = N * (D' * y) + (N' * y + x * D') * D
        grind
      · show D * D' * y = D * (D' * y)
        grind
    rw [e]
    exact ih N D _ _
theorem exS_append (l1 l2 : List (Nat × Nat)) : exS (l1 ++ l2) = ((exS l1).1 * (exS l2).2 + (exS l2).1 * (exS l1).2, (exS l1).2 * (exS l2).2) := by
  have h := exS_shift l2 (exS l1).1 (exS l1).2 0 1
  rw [Nat.mul_one, Nat.zero_mul, Nat.add_zero, Nat.mul_one] at h
  unfold exS at *
  rw [List.foldl_append]
  exact h
theorem add_two {N1 D1 N2 D2 : Nat} (h1 : 0 < D1) (h2 : 0 < D2) : addR (redR (N1, D1)) (redR (N2, D2)) = redR (N1 * D2 + N2 * D1, D1 * D2) := by
  have c1 := r_cross N1 D1
  have c2 := r_cross N2 D2
  have p1 := rD_pos (X := N1) h1
  have p2 := rD_pos (X := N2) h2
  unfold addR redR
  simp only
  rw [dN_pos p1, dD_of_pos p1, dN_pos p2, dD_of_pos p2]
  generalize rN N1 D1 = x1 at *
  generalize rD N1 D1 = y1 at *
  generalize rN N2 D2 = x2 at *
  generalize rD N2 D2 = y2 at *
  have e := r_uniq (X := x1 * y2 + x2 * y1) (Y := y1 * y2) (X' := N1 * D2 + N2 * D1) (Y' := D1 * D2) (Nat.mul_pos p1 p2) (Nat.mul_pos h1 h2) (by grind)
  rw [e.1, e.2]
theorem sum_split (l : List (Nat × Nat)) (j : Nat) : addR (sumR (l.take j)) (sumR (l.drop j)) = sumR l := by
  have h1 := sumR_ex (l.take j)
  have h2 := sumR_ex (l.drop j)
  have h3 := sumR_ex l
  rw [h1.1, h2.1, h3.1]
  have e := exS_append (l.take j) (l.drop j)
  rw [List.take_append_drop] at e
  rw [e]
  exact add_two h1.2 h2.2

/-! Parts of a slice. -/
theorem sliceAt_upto {P : Program} {T E : TypeId} {i : TypeInfo} (hT : P.underlying T = some (.slice E)) (hi : P.info? E = some i) (a : Option Addr) (n c j : Nat) (hj : j ≤ c) (w : World) :
    (Instr.sliceAt T (.slice a n c) none (some (.int .i64 (j : Int))) none).run P w = .ok (.slice a j c) w := by
  have hr := run_sizeOf hi w
  have h1 : (0 : Int) ≤ (j : Int) ∧ (j : Int) ≤ (c : Int) := ⟨by omega, by omega⟩
  simp [Instr.sliceAt, Instr.slice, run_underlying hT, Instr.sliceBounds, Instr.sliceBound, asIntOf, hr, hj, opt_add_zero]
theorem sliceAt_from2 {P : Program} {T E : TypeId} {i : TypeInfo} (hT : P.underlying T = some (.slice E)) (hi : P.info? E = some i) (hs : i.size = 2) (a : Option Addr) (n c j : Nat) (hj : j ≤ n) (hc : n ≤ c) :
    ∃ q, (∀ w : World, (Instr.sliceAt T (.slice a n c) (some (.int .i64 (j : Int))) none none).run P w = .ok (.slice q (n - j) (c - j)) w) ∧ (j < n → q = a.map (·.add (j * 2))) := by
  by_cases h4 : c = j
  · refine ⟨a, fun w => ?_, fun h => by omega⟩
    have hr := run_sizeOf hi w
    rw [hs] at hr
    have h2 : (0 : Int) ≤ (j : Int) ∧ (j : Int) ≤ (n : Int) := ⟨by omega, by omega⟩
    simp [Instr.sliceAt, Instr.slice, run_underlying hT, Instr.sliceBounds, Instr.sliceBound, asIntOf, hr, hj, h4]
  · refine ⟨a.map (·.add (j * 2)), fun w => ?_, fun _ => rfl⟩
    have hr := run_sizeOf hi w
    rw [hs] at hr
    have h2 : (0 : Int) ≤ (j : Int) ∧ (j : Int) ≤ (n : Int) := ⟨by omega, by omega⟩
    simp [Instr.sliceAt, Instr.slice, run_underlying hT, Instr.sliceBounds, Instr.sliceBound, asIntOf, hr, hj, h4]
theorem RSl.take {w : World} {a : Option Addr} {n c : Nat} {vs : List (Part × Part)} (h : RSl w a n c vs) (j : Nat) (hj : j ≤ n) : RSl w a j c (vs.take j) := by
  refine ⟨by rw [List.length_take, h.len]; omega, Nat.le_trans hj h.cap, h.big, ?_⟩
  rcases h.at_ with h0 | ⟨b, off, rfl, hc⟩
  · exact .inl (by omega)
  · refine .inr ⟨b, off, rfl, fun i v hi => hc i v ?_⟩
    rw [List.getElem?_take] at hi
    split at hi
    · exact hi
    · cases hi
theorem RSl.drop {w : World} {a q : Option Addr} {n c : Nat} {vs : List (Part × Part)} (h : RSl w a n c vs) (j : Nat) (hj : j ≤ n) (hq : j < n → q = a.map (·.add (j * 2))) : RSl w q (n - j) (c - j) (vs.drop j) := by
  have h1 := h.cap
  have h2 := h.big
  refine ⟨by rw [List.length_drop, h.len], by omega, by omega, ?_⟩
  by_cases hn : j = n
  · exact .inl (by omega)
  rcases h.at_ with h0 | ⟨b, off, rfl, hc⟩
  · exact .inl (by omega)
  · refine .inr ⟨b, off + j * 2, ?_, fun i v hi => ?_⟩
    · rw [hq (by omega)]
      simp only [Option.map_some, Addr.add]
      split
      · rename_i h0; congr 2; omega
      · rfl
    · rw [List.getElem?_drop] at hi
      have := hc (j + i) v hi
      rw [show off + j * 2 + i * 2 = off + (j + i) * 2 by omega]
      exact this
/-- What each of them reads as, whatever its size. -/
def RVal0 (w : World) (vs : List (Part × Part)) (ps : List (Nat × Nat)) : Prop :=
  ps.length = vs.length ∧ ∀ (k : Nat) (v : Part × Part) (p : Nat × Nat), vs[k]? = some v → ps[k]? = some p → SlV w v.1.1 v.1.2.1 v.1.2.2 p.1 ∧ SlV w v.2.1 v.2.2.1 v.2.2.2 p.2
theorem RVal0.small {w w' : World} {vs : List (Part × Part)} {ps : List (Nat × Nat)} (h : RVal0 w vs ps) (E : Ext w w') (hs : vs.all twelveR = true) : RVals w' vs ps := by
  refine ⟨h.1, fun k v p h1 h2 => ?_⟩
  have := List.all_eq_true.1 hs _ (List.mem_of_getElem? h1)
  simp [twelveR] at this
  exact ⟨((h.2 k v p h1 h2).1).old E, ((h.2 k v p h1 h2).2).old E, this.1, this.2⟩
theorem RVals.old {w w' : World} {vs : List (Part × Part)} {ps : List (Nat × Nat)} (h : RVals w vs ps) (E : Ext w w') : RVals w' vs ps :=
  ⟨h.1, fun k v p h1 h2 => ⟨((h.2 k v p h1 h2).1).old E, ((h.2 k v p h1 h2).2.1).old E, (h.2 k v p h1 h2).2.2⟩⟩
theorem RVals.take {w : World} {vs : List (Part × Part)} {ps : List (Nat × Nat)} (h : RVals w vs ps) (j : Nat) : RVals w (vs.take j) (ps.take j) := by
  refine ⟨by rw [List.length_take, List.length_take, h.1], fun k v p h1 h2 => h.2 k v p ?_ ?_⟩
  · rw [List.getElem?_take] at h1; split at h1
    · exact h1
    · cases h1
  · rw [List.getElem?_take] at h2; split at h2
    · exact h2
    · cases h2
theorem RVals.drop {w : World} {vs : List (Part × Part)} {ps : List (Nat × Nat)} (h : RVals w vs ps) (j : Nat) : RVals w (vs.drop j) (ps.drop j) := by
  refine ⟨by rw [List.length_drop, List.length_drop, h.1], fun k v p h1 h2 => h.2 (j + k) v p ?_ ?_⟩
  · rw [List.getElem?_drop] at h1; exact h1
  · rw [List.getElem?_drop] at h2; exact h2

theorem radd_pair {a1 b1 a2 b2 : Option Addr} {m1 n1 c1 d1 m2 n2 c2 d2 : Nat} {p q r : Nat × Nat} {w : World} (ha1 : Sl w a1 m1 c1 (lim p.1)) (hb1 : Sl w b1 n1 d1 (lim p.2)) (ha2 : Sl w a2 m2 c2 (lim q.1)) (hb2 : Sl w b2 n2 d2 (lim q.2))
    (hm1 : m1 ≤ 100000) (hn1 : n1 ≤ 100000) (hm2 : m2 ≤ 100000) (hn2 : n2 ≤ 100000) (htz : TzTab w) (h : addR p q = r) :
    Calls Tryz.prog 19 #[RatV a1 m1 c1 b1 n1 d1, RatV a2 m2 c2 b2 n2 d2] w (NewR w (m1 + n2 + m2 + n1 + 8) (n1 + n2 + 4) (lim r.1) (lim r.2)) := by
  have := radd_calls ha1 hb1 ha2 hb2 hm1 hn1 hm2 hn2 htz
  rw [val_lim, val_lim, val_lim, val_lim] at this
  subst h
  exact this

set_option maxHeartbeats 4000000 in
set_option maxRecDepth 100000 in
theorem ratsplit_law {a : Option Addr} {n c : Nat} {vs : List (Part × Part)} {ps : List (Nat × Nat)} {at_ : Int} {w : World} (hat : -9223372036854775808 ≤ at_ ∧ at_ ≤ 9223372036854775807) (ha : RSl w a n c vs) (hv : RVal0 w vs ps) (htab : Tab w) (htz : TzTab w) :
    Calls Tryz.prog 5 #[.slice a n c, .int .i64 at_] w (RetE (.bool true) w) := by
  obtain ⟨i0, hi, hs⟩ := infoRat'
  have HI := Lib.hid hi; have HS := Lib.hid hs
  have HA := Lib.hid ha; have HV := Lib.hid hv; have HTZ := Lib.hid htz
  have CK := Lib.hid (knownR_calls w htab htz)
  have hcap := ha.cap
  have hbig := ha.big
  have HAT := Lib.hid hat
  clear hi hs ha hv htab htz hat
  go_enter Tryz.func5, Tryz.ntmps5
  go_wp2_with fail
  refine CK.out.mono ?_
  rintro e w1 ⟨rfl, hext1⟩
  have E1 := Lib.hid hext1
  clear hext1
  by_cases hn : n ≤ 12
  rotate_left
  · have g1 : (12 : Int) < (n : Int) := by omega
    go_wp2_with fail
    go_ret
    exact ⟨rfl, E1.out⟩
  have g1 : ¬ (12 : Int) < (n : Int) := by omega
  have HSM := Lib.hid (smallR_calls (HA.out.old E1.out))
  by_cases h12 : vs.all twelveR = true
  rotate_left
  · rw [Bool.eq_false_iff.2 h12] at HSM
    go_wp2_with fail
    refine HSM.out.mono ?_
    rintro e w2 ⟨rfl, rfl⟩
    go_wp2_with fail
    go_ret
    exact ⟨rfl, E1.out⟩
  have HP := Lib.hid (HV.out.small E1.out h12)
  rw [h12] at HSM
  clear h12 HV
  obtain ⟨r, hr, CP⟩ := hplace_calls at_ HAT.out (n + 1) (by omega) w1
  have hlen : ((n + 1 : Nat) : Int) = (n : Int) + 1 := by omega
  rw [hlen] at CP
  have HCP := Lib.hid CP
  have hw : IntKind.i64.wrap ((n : Int) + 1) = (n : Int) + 1 := IntWalk.i64_in _ (by omega)
  clear CP hlen HAT
  go_wp2_with fail
  refine HSM.out.mono ?_
  rintro e w2 ⟨rfl, rfl⟩
  go_wp2_with fail
  refine HCP.out.mono ?_
  rintro e w2 ⟨rfl, rfl⟩
  have HA1 := Lib.hid (HA.out.old E1.out)
  have hsu := sliceAt_upto (P := Tryz.prog) Tryz.underlying36 HI.out a n c r (by omega)
  obtain ⟨q, hsf, hq⟩ := sliceAt_from2 (P := Tryz.prog) Tryz.underlying36 HI.out HS.out a n c r (by omega) hcap
  have HT1 := Lib.hid (HA1.out.take r (by omega))
  have HD1 := Lib.hid (HA1.out.drop r (by omega) hq)
  have HPT := Lib.hid (HP.out.take r); have HPD := Lib.hid (HP.out.drop r)
  have HTZ1 := Lib.hid (HTZ.out.old E1.out)
  have HSUM := Lib.hid (sum_split ps r)
  clear hq HA
  go_wp2_with fail
  go_region_held3 (fun _ => True) (trivial)
    (first
      | (go_at_call_of 23 (Value.slice a n c); refine (rsum_calls (HA1.out.old (Ext.refl _).drew) hn (HP.out.old (Ext.refl _).drew) (HTZ1.out.old (Ext.refl _).drew)).mono ?_; rintro e wA ⟨aA, lA, cA, bA, mA, dA, rfl, oaA, obA, hextA, hlA, hmA⟩; have EA : Ext w1 wA := (Ext.refl _).drew.trans hextA)
      | (go_at_call_of 23 (Value.slice a r c); refine (rsum_calls (HT1.out.old EA) (by omega) (HPT.out.old EA) (HTZ1.out.old EA)).mono ?_; rintro e wB ⟨aB, lB, cB, bB, mB, dB, rfl, oaB, obB, hextB, hlB, hmB⟩; have EB : Ext w1 wB := EA.trans hextB)
      | (go_at_call_of 23 q; refine (rsum_calls (HD1.out.old EB) (by omega) (HPD.out.old EB) (HTZ1.out.old EB)).mono ?_; rintro e wC ⟨aC, lC, cC, bC, mC, dC, rfl, oaC, obC, hextC, hlC, hmC⟩; have EC : Ext w1 wC := EB.trans hextC)
      | (go_at_call 19; refine (radd_pair (oaB.sl.old hextC) (obB.sl.old hextC) oaC.sl obC.sl (by omega) (by omega) (by omega) (by omega) (HTZ1.out.old EC) HSUM.out).mono ?_; rintro e wD ⟨aD, lD, cD, bD, mD, dD', rfl, oaD, obD, hextD, hlD, hmD⟩; have ED : Ext w1 wD := EC.trans hextD)
      | (go_at_call 18; refine (hrat_at (oaA.sl.old (hextB.trans (hextC.trans hextD))) (obA.sl.old (hextB.trans (hextC.trans hextD))) oaD.sl obD.sl (by omega) (by omega) (by omega) (by omega)).mono ?_; rintro e wE ⟨rfl, hextE⟩; have EE : Ext w1 wE := ED.trans hextE))
  all_goals (
    have HEND := Lib.hid EE
    go_wp2_with fail
    go_ret
    exact ⟨rfl, E1.out.trans HEND.out⟩)

end Go.Proofs.YtnfjfgfkeigkiaaGreatDoor
