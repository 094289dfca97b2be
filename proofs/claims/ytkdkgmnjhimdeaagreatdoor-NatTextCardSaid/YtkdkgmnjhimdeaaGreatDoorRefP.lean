/- gleanref1.Parse. -/
import Derived.Test.YtkdkgmnjhimdeaaGreatDoorRefN
import Derived.Test.YtkdkgmnjhimdeaaGreatDoorParse
import Derived.Laws.OwnMore
namespace Go.Proofs.YtkdkgmnjhimdeaaGreatDoor
open Go.RowKit Go.Lib

theorem append_row_sl' {P : Program} (w : World) {ops : Array Oper} {rest : List Oper} {o : Oper} {act : Act} {Q : Exit → Act → World → Prop} (hgd : o.guard = none) (s x : Operand) (t : TypeId)
    (ho : o.op = .call { callee := .builtin .append, args := #[s, x], argTypes := #[t, t] }) (e : TypeId) (i : TypeInfo) (h1 : P.underlying t = some (.slice e)) (h2 : P.info? e = some i)
    (h3 : i.zero = some (.int .u64 0)) (h4 : i.size = 1) (h5 : i.bytes = 8) (B : Nat) (v : Value) (k : Nat) (zs : List Nat) (hs : act.eval s = v) (hrow : w.ownsRow B e 1 v k (cells64 zs)) (hB : B ≤ w.heap.size)
    (a : Option Addr) (n c : Nat) (xs : List Nat) (hx : act.eval x = .slice a n c) (hsl : Sl w a n c xs) (hn : k + n ≤ 1099511627776) (_hbz : Bd B64 zs)
    (hK : ∀ v' w', w'.ownsRow B e 1 v' (k + n) (cells64 (zs ++ xs)) → w.grownBy w' v.ownBlock → wpList P ops Q rest (act.put o.dst v') w') :
    wpList P ops Q (o :: rest) act w := by
  cases a with
  | none =>
    obtain rfl : n = 0 := hsl.none_len
    obtain rfl : xs = [] := List.eq_nil_of_length_eq_zero hsl.len
    have hc : c = 0 := by
      rcases hsl.at_ with hh | ⟨b, off, h, _⟩
      · first | exact hh.2.2 | exact hh.2
      · cases h
    subst hc
    refine wpList_plain hgd fun K hK' => ?_
    have hr := run_append_owned_none (P := P) w B t o.type e i 1 h1 h2 v k (cells64 zs) hrow
    unfold Oper.wp execOp
    simp only [ho, resolve, invoke, builtin, Sem.run_bind, Sem.run_pure, Result.andThen_ok, List.map_toArray, List.map_cons, List.map_nil, hs, hx, hr]
    exact hK' _ _ (hK v w (by simpa using hrow) (grownBy_refl _ _))
  | some ad =>
    have hcells : ∀ (j : Nat) u, (cells64 xs)[j]? = some u → w.cell? (ad.add j) = some u := by
      intro j u hu
      unfold cells64 at hu
      rw [List.getElem?_map] at hu
      have hj : j < xs.length := by
        rcases Nat.lt_or_ge j xs.length with h | h
        · exact h
        · rw [List.getElem?_eq_none h] at hu; cases hu
      rw [List.getElem?_eq_getElem hj] at hu
      simp only [Option.map_some, Option.some.injEq] at hu
      subst hu
      rcases hsl.at_ with hh | ⟨b, off, h, hc⟩
      · have := hsl.len
        have h0 : n = 0 := by first | exact hh.1 | exact hh.2.1
        omega
      · cases h
        have hadd : (⟨b, off, none⟩ : Addr).add j = ⟨b, off + j, none⟩ := by unfold Addr.add; split <;> simp_all
        rw [hadd, hc j (by rw [← hsl.len]; exact hj), getD_of_lt hj]
    refine wpList_append_own w hgd s x t ho B e i (.int .u64 0) 1 8 h1 h2 h3 h4 h5 rfl (by omega) v k (cells64 zs) hs hrow ad n c (cells64 xs) hx (by simp [cells64, hsl.len]) hcells (oneCell_u64 xs) (by unfold maxLen; omega) (by omega) hB ?_
    intro v' w' hown hgrow _
    exact hK v' w' (by simpa [cells64] using hown) hgrow

/-- What every text is read as. -/
def prL (l : List UInt8) : List Nat := if decForm l = true then lim (dnum l) else []
def prE (l : List UInt8) : Int := if decForm l = true then 0 else 13
theorem parse_any (l : List UInt8) (hl : l.length ≤ 1000000) (w : World) : Calls Tryz.prog 48 #[.string ⟨l.toArray⟩] w (New2 w l.length (prL l) (prE l)) := by
  unfold prL prE
  by_cases h : decForm l = true
  · rw [if_pos h, if_pos h]; exact parse_form l hl h w
  · rw [if_neg h, if_neg h]
    exact (parse_bad l hl (Bool.eq_false_iff.2 h) w).mono fun e w' ⟨a, n, c, h1, h2, h3, h4⟩ => ⟨a, n, c, h1, h2, h3, by omega⟩

/-- A row of one's own as the walk meets it: what lies where, and a store. -/
theorem row_at {P : Program} {w : World} {B : Nat} {v : Value} {n : Nat} {ds : List Nat} {T E : TypeId} {i : TypeInfo} (h : w.ownsRow B E 1 v n (cells64 ds)) (hT : P.underlying T = some (.slice E)) (hi : P.info? E = some i) (hs : i.size = 1)
    (j : Nat) (hj : j < n) : ∃ g, (∀ w' : World, (Instr.indexAt T v (.int .i64 (j : Int))).run P w' = .ok (.pointer (some ⟨g, j, none⟩)) w') ∧ w.cell? ⟨g, j, none⟩ = some (.int .u64 ((ds.getD j 0 : Nat) : Int)) ∧ w.frozen? ⟨g, j, none⟩ = false ∧ B ≤ g ∧
      ∀ x : Nat, (w.setCell ⟨g, j, none⟩ (.int .u64 (x : Int))).ownsRow B E 1 v n (cells64 (ds.set j x)) ∧ w.grownBy (w.setCell ⟨g, j, none⟩ (.int .u64 (x : Int))) (some g) := by
  have hl : ds.length = n := by have := h.1; simpa [cells64] using this
  obtain ⟨g, cap, rfl, hB, -⟩ := h.form (by omega)
  refine ⟨g, fun w' => ?_, ?_, h.frozenAt j, hB, fun x => ?_⟩
  · have hr := run_sizeOf hi w'
    rw [hs] at hr
    simp only [Instr.indexAt, Sem.run_bind, run_underlying hT, Result.andThen_ok, asIntOf, Sem.run_pure]
    have h1 : (0 : Int) ≤ (j : Int) ∧ (j : Int) < (n : Int) := ⟨by omega, by omega⟩
    simp [hj, hr, Addr.add]
    try omega
  · rw [h.cellAt j (by omega)]
    unfold cells64
    rw [List.getElem?_map, List.getElem?_eq_getElem (by omega), getD_of_lt (by omega)]
    rfl
  · obtain ⟨s1, s2⟩ := h.stored j (.int .u64 (x : Int))
    refine ⟨?_, s2⟩
    have e : cells64 (ds.set j x) = (cells64 ds).set j (.int .u64 (x : Int)) := by unfold cells64; rw [List.map_set]
    rw [e]; exact s1

def RPRel (w : World) (l : List UInt8) (xv iv : Value) (wr : World) : Prop :=
  ∃ (i D : Nat) (ds : List Nat), i ≤ l.length ∧ iv = .int .i64 (i : Int) ∧ Bd B32 ds ∧ D = ds.length ∧ D ≤ i ∧ rval ds = dnum (l.take i) ∧ (l.take i).all isDig = true ∧ wr.ownsRow w.heap.size 33 1 xv D (cells64 ds) ∧ Ext w wr
def RPRel2 (w : World) (xv : Value) (D : Nat) (ds : List Nat) (c0 : Nat) (cv jv : Value) (wr : World) : Prop :=
  ∃ (j cr : Nat) (es : List Nat), j ≤ D ∧ jv = .int .i64 (j : Int) ∧ cv = .int .u64 (cr : Int) ∧ cr ≤ 9 ∧ es.length = D ∧ Bd B32 es ∧ es.drop j = ds.drop j ∧ nv B32 (es.take j) + B32 ^ j * cr = nv B32 (ds.take j) * 10 + c0 ∧
    wr.ownsRow w.heap.size 33 1 xv D (cells64 es) ∧ Ext w wr
theorem rp_round {b p r q cr u s c' c0 : Nat} (h : r + p * cr = q * 10 + c0) (hv : s + b * c' = u * 10 + cr) : r + p * s + p * b * c' = (q + p * u) * 10 + c0 := by
  have h1 : p * s + p * b * c' = p * u * 10 + p * cr := by
    rw [Nat.mul_assoc p b c', ← Nat.mul_add, hv, Nat.mul_add, Nat.mul_assoc]
  rw [Nat.add_mul]
  omega
theorem dnum_take_succ {l : List UInt8} {i : Nat} (h : i < l.length) : dnum (l.take (i + 1)) = dnum (l.take i) * 10 + ((l[i]'h).toNat - 48) := by
  rw [List.take_succ_eq_append_getElem h, dnum_append, dnum_one]; simp
theorem all_take_succ {l : List UInt8} {i : Nat} (h : i < l.length) : (l.take (i + 1)).all isDig = ((l.take i).all isDig && isDig (l[i]'h)) := by
  rw [List.take_succ_eq_append_getElem h, List.all_append]; simp

set_option maxHeartbeats 8000000 in
set_option maxRecDepth 100000 in
theorem rparse_calls (l : List UInt8) (hl : l.length ≤ 1000000) (w : World) :
    Calls Tryz.prog 49 #[.string ⟨l.toArray⟩] w (New2 w l.length (prL l) (prE l)) := by
  obtain ⟨i0, hi, hz0, hs, hby⟩ := info_parts info64
  have H1 := Lib.hid hi; have H2 := Lib.hid hz0; have H3 := Lib.hid hs; have H4 := Lib.hid hby
  clear hi hz0 hs hby
  have HNO := Lib.hid (fun (h : decForm l = false) => show prL l = [] ∧ prE l = 13 by unfold prL prE; rw [h]; exact ⟨rfl, rfl⟩)
  have HYES := Lib.hid (fun (h : decForm l = true) => show prL l = lim (dnum l) ∧ prE l = 0 by unfold prL prE; rw [h]; exact ⟨rfl, rfl⟩)
  by_cases hnil : l = []
  · subst hnil
    obtain ⟨h1, h2⟩ := HNO.out rfl
    rw [h1, h2]
    clear HNO HYES h1 h2
    go_enter Tryz.func49, Tryz.ntmps49
    go_wp2_with fail
    go_ret2
    exact ⟨none, 0, 0, rfl, Own.nil _ _, Ext.refl _, Nat.le_refl _⟩
  have hpos : 0 < l.length := List.length_pos_iff.2 hnil
  obtain ⟨c1, hc1⟩ : ∃ c, l[0]'hpos = c := ⟨_, rfl⟩
  have hsz := str_size l
  have HGET := Lib.hid (fun (i : Nat) (h : i < l.length) => show ∀ hz : i < (⟨l.toArray⟩ : ByteArray).size, (⟨l.toArray⟩ : ByteArray)[i]'hz = l[i]'h from fun _ => rfl)
  have hget0 : ∀ hz : 0 < (⟨l.toArray⟩ : ByteArray).size, (⟨l.toArray⟩ : ByteArray)[0]'hz = c1 := fun _ => hc1
  have hhead : l.head? = some c1 := by rw [List.head?_eq_getElem?, List.getElem?_eq_getElem hpos, hc1]
  generalize hS : (⟨l.toArray⟩ : ByteArray) = S at hsz HGET hget0 ⊢
  obtain ⟨N, hN⟩ : ∃ N, l.length = N := ⟨_, rfl⟩
  rw [hN] at hsz hl hpos ⊢
  have HN := Lib.hid hN
  have g0 : ((N : Int) == 0) = false := by rw [beq_eq_false_iff_ne]; omega
  have hc1b : c1.toNat < 256 := c1.toNat_lt
  clear hc1 hS
  have HF := Lib.hid (show decForm l = (!(decide (c1.toNat = 48) && decide (1 < N)) && l.all isDig) by
    have e48 : decide (l.head? = some 48) = decide (c1.toNat = 48) := by
      rw [hhead, Bool.eq_iff_iff, decide_eq_true_iff, decide_eq_true_iff]
      constructor
      · intro h; have := Option.some.inj h; rw [this]; rfl
      · intro h; have : c1 = 48 := UInt8.toNat_inj.1 h; rw [this]
    unfold decForm
    rw [decide_eq_true hnil, e48, hN, Bool.true_and])
  clear hhead hnil hN
  by_cases hbad : c1.toNat = 48 ∧ 1 < N
  · obtain ⟨hb1, hb2⟩ := hbad
    have hd : decForm l = false := by rw [HF.out, decide_eq_true hb1, decide_eq_true hb2]; rfl
    obtain ⟨h1, h2⟩ := HNO.out hd
    rw [h1, h2]
    have hI : (c1.toNat : Int) = 48 := by omega
    have hI2 : (1 : Int) < (N : Int) := by omega
    clear HNO HYES h1 h2 hd
    go_enter Tryz.func49, Tryz.ntmps49
    go_wp2_with fail
    go_ret2
    exact ⟨none, 0, 0, rfl, Own.nil _ _, Ext.refl _, by omega⟩
  have HF2 := Lib.hid (show decForm l = l.all isDig by
    rw [HF.out]
    by_cases h1 : c1.toNat = 48
    · rw [decide_eq_false (fun h => hbad ⟨h1, h⟩)]; simp
    · rw [decide_eq_false h1]; simp)
  obtain ⟨LL, hLL⟩ : ∃ L, prL l = L := ⟨_, rfl⟩
  obtain ⟨EE, hEE⟩ : ∃ E, prE l = E := ⟨_, rfl⟩
  rw [hLL, hEE]
  rw [hLL, hEE] at HNO HYES
  have HYES2 := Lib.hid (fun (h : l.all isDig = true) => HYES.out (by rw [HF2.out]; exact h))
  have HNO2 := Lib.hid (fun (h : l.all isDig = false) => HNO.out (by rw [HF2.out]; exact h))
  clear HF HF2 HYES HNO hLL hEE
  by_cases h48 : c1.toNat = 48
  · have hN1 : ¬ ((1 : Int) < (N : Int)) := by
      have : ¬ 1 < N := fun h => hbad ⟨h48, h⟩
      omega
    clear hbad h48
    go_enter Tryz.func49, Tryz.ntmps49
    go_wp2_with fail
    go_loopw [4, 5] (fun xv iv wr => RPRel w l xv iv wr) (fun _ iv _ => N - (RowKit.intOf iv).toNat)
    case atStart => exact ⟨0, 0, [], by omega, rfl, Bd.nil _, rfl, by omega, by rw [List.take_zero, dnum_nil]; rfl, rfl, World.ownsRow_nil _ _ _ _, Ext.refl _⟩
    case round =>
      obtain ⟨i, D, ds, hiN, rfl, hbd, hD, hDi, hval, hall, hrow, hex⟩ := hrel
      rw [HN.out] at hiN
      have HBD := Lib.hid hbd; have HVAL := Lib.hid hval; have HALL := Lib.hid hall; have HROW := Lib.hid hrow; have HEX := Lib.hid hex; have HD := Lib.hid hD
      obtain ⟨xa, xc, hxv⟩ := row_slice' hrow
      subst hxv
      clear hbd hval hall hrow hex hD
      by_cases hin : i = N
      · have hall2 : l.all isDig = true := by
          have := HALL.out
          rwa [List.take_of_length_le (by rw [HN.out]; omega)] at this
        have hval2 : rval ds = dnum l := by
          have := HVAL.out
          rwa [List.take_of_length_le (by rw [HN.out]; omega)] at this
        obtain ⟨h1, h2⟩ := HYES2.out hall2
        obtain ⟨a2, c2, hv2, ho2⟩ := Own.of_row HROW.out HBD.out.wide
        injection hv2 with q1 q2 q3
        subst q1 q3 h2
        have CN := number_calls ho2.sl HBD.out (by omega)
        rw [hval2, ← h1] at CN
        have HCN := Lib.hid CN
        clear CN ho2 hall2 hval2 h1
        have hge : ¬ ((i : Int) < (N : Int)) := by omega
        clear hin
        go_wp2_with fail
        refine HCN.out.mono ?_
        rintro e w3 ⟨a3, n3, c3, rfl, hown3, hext3, hn3⟩
        go_wp2_with fail
        go_ret2
        exact ⟨a3, n3, c3, rfl, hown3.mono HEX.out.size, HEX.out.trans hext3, by omega⟩
      · have hlt : (i : Int) < (N : Int) := by omega
        have hil : i < l.length := by rw [HN.out]; omega
        obtain ⟨c, hc⟩ : ∃ c, l[i]'hil = c := ⟨_, rfl⟩
        have hget : ∀ hz : i < S.size, S[i]'hz = c := fun hz => (HGET.out i hil hz).trans hc
        have hall3 := all_take_succ hil
        have hval3 := dnum_take_succ hil
        rw [hc] at hall3 hval3
        rw [HALL.out, Bool.true_and] at hall3
        rw [← HVAL.out] at hval3
        have hcb : c.toNat < 256 := c.toNat_lt
        have HA3 := Lib.hid hall3; have HV3 := Lib.hid hval3
        have HFAIL := Lib.hid (fun (h : isDig c = false) => show l.all isDig = false by
          rw [Bool.eq_false_iff]
          intro h2
          have := List.all_eq_true.1 h2 (l[i]'hil) (List.getElem_mem hil)
          rw [hc, h] at this
          exact absurd this (by decide))
        clear hall3 hval3 hc hin
        by_cases hlo : c.toNat < 48
        · obtain ⟨h1, h2⟩ := HNO2.out (HFAIL.out (by simp [isDig]; omega))
          subst h1 h2
          have hloI : (c.toNat : Int) < 48 := by omega
          go_wp2_with fail
          go_ret2
          exact ⟨none, 0, 0, rfl, Own.nil _ _, HEX.out, by omega⟩
        by_cases hhi : 57 < c.toNat
        · obtain ⟨h1, h2⟩ := HNO2.out (HFAIL.out (by simp [isDig]; omega))
          subst h1 h2
          have hloI : ¬ ((c.toNat : Int) < 48) := by omega
          have hhiI : (57 : Int) < (c.toNat : Int) := by omega
          go_wp2_with fail
          go_ret2
          exact ⟨none, 0, 0, rfl, Own.nil _ _, HEX.out, by omega⟩
        have hdig : isDig c = true := by rw [isDig_iff]; omega
        have HDIG := Lib.hid (HA3.out.trans hdig)
        obtain ⟨d, hd⟩ : ∃ d, c.toNat - 48 = d := ⟨_, rfl⟩
        have hd9 : d ≤ 9 := by omega
        have hdI : (c.toNat : Int) - 48 = (d : Int) := by omega
        rw [hd] at HV3
        have hloI : ¬ ((c.toNat : Int) < 48) := by omega
        have hhiI : ¬ ((57 : Int) < (c.toNat : Int)) := by omega
        have HST := Lib.hid (show RPRel2 w (.slice xa D xc) D ds d (.int .u64 (d : Int)) (.int .i64 0) wr from ⟨0, d, ds, by omega, rfl, rfl, hd9, HD.out.symm, HBD.out, rfl, by simp [nv], HROW.out, HEX.out⟩)
        clear hd hdig HFAIL HA3 hlo hhi
        go_wp2_with fail
        go_loopw [6, 7] (fun cv jv wr => RPRel2 w (.slice xa D xc) D ds d cv jv wr) (fun _ jv _ => D - (RowKit.intOf jv).toNat)
        case atStart => exact HST.out
        case round =>
          obtain ⟨j, cr, es, hj, rfl, rfl, hcr, hes, hbe, hdrop, hnv, hrow2, hex2⟩ := hrel
          have HES := Lib.hid hes; have HBE := Lib.hid hbe; have HDROP := Lib.hid hdrop; have HNV := Lib.hid hnv; have HROW2 := Lib.hid hrow2; have HEX2 := Lib.hid hex2
          clear hes hbe hdrop hnv hrow2 hex2
          by_cases hjD : j = D
          · have hvv : rval es + B32 ^ D * cr = rval ds * 10 + d := by
              have := HNV.out
              rw [hjD, List.take_of_length_le (by rw [HES.out]; exact Nat.le_refl _), List.take_of_length_le (by rw [← HD.out]; exact Nat.le_refl _)] at this
              exact this
            rw [← HV3.out] at hvv
            have HVV := Lib.hid hvv
            have hge : ¬ ((j : Int) < (D : Int)) := by omega
            clear hvv hjD
            by_cases hcr0 : cr = 0
            · subst hcr0
              have HV0 := Lib.hid (show rval es = dnum (l.take (i + 1)) by have := HVV.out; rw [Nat.mul_zero, Nat.add_zero] at this; exact this)
              go_wp2_with fail
              go_roundw
              case rel => 
                have HREL : RPRel w l (.slice xa D xc) (.int .i64 ((i : Int) + 1)) wr := ⟨i + 1, D, es, by rw [HN.out]; omega, by go_num, HBE.out, HES.out.symm, by omega, HV0.out, HDIG.out, HROW2.out, HEX2.out⟩
                first | exact HREL | exact ⟨_, _, _, _, HREL, rfl, rfl, rfl, rfl⟩
              case measure => simp only [RowKit.intOf]; omega
            · have hcrp : (0 : Int) < (cr : Int) := by omega
              have hcrB : cr < B64 := by rw [B64_eq]; omega
              obtain ⟨Z, hZ⟩ : ∃ Z, wr.alloc (.cells #[.int .u64 (cr : Int)] 33) = Z := ⟨_, rfl⟩
              have SZ := Lib.hid (show Sl Z (some ⟨wr.heap.size, 0, none⟩) 1 1 [cr] by rw [← hZ]; exact (own_lit wr.heap.size wr cr hcrB (Nat.le_refl _)).sl)
              have EZ := Lib.hid (show Ext w Z by rw [← hZ]; exact HEX2.out.alloc _)
              have RZ := Lib.hid (show Z.ownsRow w.heap.size 33 1 (.slice xa D xc) D (cells64 es) by rw [← hZ]; exact World.ownsRow.alloc HROW2.out _)
              have HZ := Lib.hid hZ
              have HCB := Lib.hid hcrB
              clear hZ hcrB
              go_wp2_with (first | (at_builtin; refine append_row_sl' _ rfl _ _ _ rfl _ _ Tryz.underlying22 H1.out H2.out H3.out H4.out w.heap.size _ _ _ rfl RZ.out EZ.out.size _ _ _ _ rfl SZ.out (by omega) HBE.out.wide ?_) | rw [HZ.out])
              intro v5 w5 o5 g5
              have E5 := Lib.hid (Below.grown EZ.out g5 EZ.out.size (fun k h => (World.ownsRow.lt HROW2.out k h).1))
              have O5 := Lib.hid o5
              obtain ⟨rg, rh, hvr⟩ := row_slice' o5
              subst hvr
              clear o5 g5
              have HV0 := Lib.hid (show rval (es ++ [cr]) = dnum (l.take (i + 1)) by
                have := HVV.out
                unfold rval at this ⊢
                rw [nv_append, HES.out]
                simpa [nv] using this)
              go_wp2_with fail
              go_roundw
              case rel => 
                have HREL : RPRel w l (.slice rg (D + 1) rh) (.int .i64 ((i : Int) + 1)) w5 := ⟨i + 1, D + 1, es ++ [cr], by rw [HN.out]; omega, by go_num, HBE.out.append (Bd.cons (by rw [B32_eq]; omega) (Bd.nil _)), by rw [List.length_append, HES.out]; rfl, by omega, HV0.out, HDIG.out, O5.out, E5.out⟩
                first | exact HREL | exact ⟨_, _, _, _, HREL, rfl, rfl, rfl, rfl⟩
              case measure => simp only [RowKit.intOf]; omega
          · omega
  · have hne : ((c1.toNat : Int) == 48) = false := by rw [beq_eq_false_iff_ne]; omega
    clear hbad h48
    by_cases hN1 : (1 : Int) < (N : Int)
    · skip
      go_enter Tryz.func49, Tryz.ntmps49
      go_wp2_with fail
      go_loopw [4, 5] (fun xv iv wr => RPRel w l xv iv wr) (fun _ iv _ => N - (RowKit.intOf iv).toNat)
      case atStart => exact ⟨0, 0, [], by omega, rfl, Bd.nil _, rfl, by omega, by rw [List.take_zero, dnum_nil]; rfl, rfl, World.ownsRow_nil _ _ _ _, Ext.refl _⟩
      case round =>
        obtain ⟨i, D, ds, hiN, rfl, hbd, hD, hDi, hval, hall, hrow, hex⟩ := hrel
        rw [HN.out] at hiN
        have HBD := Lib.hid hbd; have HVAL := Lib.hid hval; have HALL := Lib.hid hall; have HROW := Lib.hid hrow; have HEX := Lib.hid hex; have HD := Lib.hid hD
        obtain ⟨xa, xc, hxv⟩ := row_slice' hrow
        subst hxv
        clear hbd hval hall hrow hex hD
        by_cases hin : i = N
        · have hall2 : l.all isDig = true := by
            have := HALL.out
            rwa [List.take_of_length_le (by rw [HN.out]; omega)] at this
          have hval2 : rval ds = dnum l := by
            have := HVAL.out
            rwa [List.take_of_length_le (by rw [HN.out]; omega)] at this
          obtain ⟨h1, h2⟩ := HYES2.out hall2
          obtain ⟨a2, c2, hv2, ho2⟩ := Own.of_row HROW.out HBD.out.wide
          injection hv2 with q1 q2 q3
          subst q1 q3 h2
          have CN := number_calls ho2.sl HBD.out (by omega)
          rw [hval2, ← h1] at CN
          have HCN := Lib.hid CN
          clear CN ho2 hall2 hval2 h1
          have hge : ¬ ((i : Int) < (N : Int)) := by omega
          clear hin
          go_wp2_with fail
          refine HCN.out.mono ?_
          rintro e w3 ⟨a3, n3, c3, rfl, hown3, hext3, hn3⟩
          go_wp2_with fail
          go_ret2
          exact ⟨a3, n3, c3, rfl, hown3.mono HEX.out.size, HEX.out.trans hext3, by omega⟩
        · have hlt : (i : Int) < (N : Int) := by omega
          have hil : i < l.length := by rw [HN.out]; omega
          obtain ⟨c, hc⟩ : ∃ c, l[i]'hil = c := ⟨_, rfl⟩
          have hget : ∀ hz : i < S.size, S[i]'hz = c := fun hz => (HGET.out i hil hz).trans hc
          have hall3 := all_take_succ hil
          have hval3 := dnum_take_succ hil
          rw [hc] at hall3 hval3
          rw [HALL.out, Bool.true_and] at hall3
          rw [← HVAL.out] at hval3
          have hcb : c.toNat < 256 := c.toNat_lt
          have HA3 := Lib.hid hall3; have HV3 := Lib.hid hval3
          have HFAIL := Lib.hid (fun (h : isDig c = false) => show l.all isDig = false by
            rw [Bool.eq_false_iff]
            intro h2
            have := List.all_eq_true.1 h2 (l[i]'hil) (List.getElem_mem hil)
            rw [hc, h] at this
            exact absurd this (by decide))
          clear hall3 hval3 hc hin
          by_cases hlo : c.toNat < 48
          · obtain ⟨h1, h2⟩ := HNO2.out (HFAIL.out (by simp [isDig]; omega))
            subst h1 h2
            have hloI : (c.toNat : Int) < 48 := by omega
            go_wp2_with fail
            go_ret2
            exact ⟨none, 0, 0, rfl, Own.nil _ _, HEX.out, by omega⟩
          by_cases hhi : 57 < c.toNat
          · obtain ⟨h1, h2⟩ := HNO2.out (HFAIL.out (by simp [isDig]; omega))
            subst h1 h2
            have hloI : ¬ ((c.toNat : Int) < 48) := by omega
            have hhiI : (57 : Int) < (c.toNat : Int) := by omega
            go_wp2_with fail
            go_ret2
            exact ⟨none, 0, 0, rfl, Own.nil _ _, HEX.out, by omega⟩
          have hdig : isDig c = true := by rw [isDig_iff]; omega
          have HDIG := Lib.hid (HA3.out.trans hdig)
          obtain ⟨d, hd⟩ : ∃ d, c.toNat - 48 = d := ⟨_, rfl⟩
          have hd9 : d ≤ 9 := by omega
          have hdI : (c.toNat : Int) - 48 = (d : Int) := by omega
          rw [hd] at HV3
          have hloI : ¬ ((c.toNat : Int) < 48) := by omega
          have hhiI : ¬ ((57 : Int) < (c.toNat : Int)) := by omega
          have HST := Lib.hid (show RPRel2 w (.slice xa D xc) D ds d (.int .u64 (d : Int)) (.int .i64 0) wr from ⟨0, d, ds, by omega, rfl, rfl, hd9, HD.out.symm, HBD.out, rfl, by simp [nv], HROW.out, HEX.out⟩)
          clear hd hdig HFAIL HA3 hlo hhi
          go_wp2_with fail
          go_loopw [6, 7] (fun cv jv wr => RPRel2 w (.slice xa D xc) D ds d cv jv wr) (fun _ jv _ => D - (RowKit.intOf jv).toNat)
          case atStart => exact HST.out
          case round =>
            obtain ⟨j, cr, es, hj, rfl, rfl, hcr, hes, hbe, hdrop, hnv, hrow2, hex2⟩ := hrel
            have HES := Lib.hid hes; have HBE := Lib.hid hbe; have HDROP := Lib.hid hdrop; have HNV := Lib.hid hnv; have HROW2 := Lib.hid hrow2; have HEX2 := Lib.hid hex2
            clear hes hbe hdrop hnv hrow2 hex2
            by_cases hjD : j = D
            · have hvv : rval es + B32 ^ D * cr = rval ds * 10 + d := by
                have := HNV.out
                rw [hjD, List.take_of_length_le (by rw [HES.out]; exact Nat.le_refl _), List.take_of_length_le (by rw [← HD.out]; exact Nat.le_refl _)] at this
                exact this
              rw [← HV3.out] at hvv
              have HVV := Lib.hid hvv
              have hge : ¬ ((j : Int) < (D : Int)) := by omega
              clear hvv hjD
              by_cases hcr0 : cr = 0
              · subst hcr0
                have HV0 := Lib.hid (show rval es = dnum (l.take (i + 1)) by have := HVV.out; rw [Nat.mul_zero, Nat.add_zero] at this; exact this)
                go_wp2_with fail
                go_roundw
                case rel => 
                  have HREL : RPRel w l (.slice xa D xc) (.int .i64 ((i : Int) + 1)) wr := ⟨i + 1, D, es, by rw [HN.out]; omega, by go_num, HBE.out, HES.out.symm, by omega, HV0.out, HDIG.out, HROW2.out, HEX2.out⟩
                  first | exact HREL | exact ⟨_, _, _, _, HREL, rfl, rfl, rfl, rfl⟩
                case measure => simp only [RowKit.intOf]; omega
              · have hcrp : (0 : Int) < (cr : Int) := by omega
                have hcrB : cr < B64 := by rw [B64_eq]; omega
                obtain ⟨Z, hZ⟩ : ∃ Z, wr.alloc (.cells #[.int .u64 (cr : Int)] 33) = Z := ⟨_, rfl⟩
                have SZ := Lib.hid (show Sl Z (some ⟨wr.heap.size, 0, none⟩) 1 1 [cr] by rw [← hZ]; exact (own_lit wr.heap.size wr cr hcrB (Nat.le_refl _)).sl)
                have EZ := Lib.hid (show Ext w Z by rw [← hZ]; exact HEX2.out.alloc _)
                have RZ := Lib.hid (show Z.ownsRow w.heap.size 33 1 (.slice xa D xc) D (cells64 es) by rw [← hZ]; exact World.ownsRow.alloc HROW2.out _)
                have HZ := Lib.hid hZ
                have HCB := Lib.hid hcrB
                clear hZ hcrB
                go_wp2_with (first | (at_builtin; refine append_row_sl' _ rfl _ _ _ rfl _ _ Tryz.underlying22 H1.out H2.out H3.out H4.out w.heap.size _ _ _ rfl RZ.out EZ.out.size _ _ _ _ rfl SZ.out (by omega) HBE.out.wide ?_) | rw [HZ.out])
                intro v5 w5 o5 g5
                have E5 := Lib.hid (Below.grown EZ.out g5 EZ.out.size (fun k h => (World.ownsRow.lt HROW2.out k h).1))
                have O5 := Lib.hid o5
                obtain ⟨rg, rh, hvr⟩ := row_slice' o5
                subst hvr
                clear o5 g5
                have HV0 := Lib.hid (show rval (es ++ [cr]) = dnum (l.take (i + 1)) by
                  have := HVV.out
                  unfold rval at this ⊢
                  rw [nv_append, HES.out]
                  simpa [nv] using this)
                go_wp2_with fail
                go_roundw
                case rel => 
                  have HREL : RPRel w l (.slice rg (D + 1) rh) (.int .i64 ((i : Int) + 1)) w5 := ⟨i + 1, D + 1, es ++ [cr], by rw [HN.out]; omega, by go_num, HBE.out.append (Bd.cons (by rw [B32_eq]; omega) (Bd.nil _)), by rw [List.length_append, HES.out]; rfl, by omega, HV0.out, HDIG.out, O5.out, E5.out⟩
                  first | exact HREL | exact ⟨_, _, _, _, HREL, rfl, rfl, rfl, rfl⟩
                case measure => simp only [RowKit.intOf]; omega
            · have hltj : (j : Int) < (D : Int) := by omega
              obtain ⟨g, x1, x2, x3, hg, hst⟩ := row_at (P := Tryz.prog) HROW2.out Tryz.underlying22 H1.out H3.out j (by omega)
              have HG := Lib.hid hg; have HSTO := Lib.hid hst
              have hu := HBE.out.getD B32_pos j
              have HUD := Lib.hid (getD_of_drop HDROP.out)
              have HT1 := Lib.hid (nv_take_succ' B32 ds j)
              rw [← HUD.out] at HT1
              clear hg hst
              generalize es.getD j 0 = u at *
              rw [B32_eq] at hu
              obtain ⟨v, hv⟩ : ∃ v, u * 10 + cr = v := ⟨_, rfl⟩
              have hvB : v < 42949672960 := by omega
              have hvI : (u : Int) * 10 + (cr : Int) = (v : Int) := by omega
              have hand := rand_half v (by rw [B64_eq]; omega)
              have hshr := rshr_half v
              obtain ⟨s, hs⟩ : ∃ s, v % B32 = s := ⟨_, rfl⟩
              obtain ⟨c', hc'⟩ : ∃ c', v / B32 = c' := ⟨_, rfl⟩
              rw [hs] at hand
              rw [hc'] at hshr
              have hsB : s < B32 := by rw [← hs]; exact Nat.mod_lt _ B32_pos
              have hc9 : c' ≤ 9 := by rw [← hc', B32_eq]; omega
              have HSV := Lib.hid (show s + B32 * c' = u * 10 + cr by rw [← hs, ← hc', hv]; exact Nat.mod_add_div _ _)
              have HSB := Lib.hid hsB
              have hs64 : s < 18446744073709551616 := Nat.lt_of_lt_of_le hsB (by decide)
              clear hv hs hc' hsB
              obtain ⟨s1, s2⟩ := HSTO.out s
              have HS1 := Lib.hid s1; have HS2 := Lib.hid s2
              clear s1 s2
              have HE2 := Lib.hid (Below.grown HEX2.out HS2.out HEX2.out.size (fun k h => by cases h; exact HG.out))
              go_wp2_with fail
              go_roundw
              case rel =>
                refine ⟨j + 1, c', es.set j s, by omega, by go_num, rfl, hc9, by rw [List.length_set]; exact HES.out, HBE.out.set j HSB.out, ?_, ?_, HS1.out, HE2.out⟩
                · rw [drop_set_lo _ _ _ _ (by omega)]; exact drop_succ_of_drop HDROP.out
                · rw [nv_take_set _ _ _ _ (by rw [HES.out]; omega), HT1.out, Nat.pow_succ]
                  exact rp_round HNV.out HSV.out
              case measure => simp only [RowKit.intOf]; omega
    · skip
      go_enter Tryz.func49, Tryz.ntmps49
      go_wp2_with fail
      go_loopw [4, 5] (fun xv iv wr => RPRel w l xv iv wr) (fun _ iv _ => N - (RowKit.intOf iv).toNat)
      case atStart => exact ⟨0, 0, [], by omega, rfl, Bd.nil _, rfl, by omega, by rw [List.take_zero, dnum_nil]; rfl, rfl, World.ownsRow_nil _ _ _ _, Ext.refl _⟩
      case round =>
        obtain ⟨i, D, ds, hiN, rfl, hbd, hD, hDi, hval, hall, hrow, hex⟩ := hrel
        rw [HN.out] at hiN
        have HBD := Lib.hid hbd; have HVAL := Lib.hid hval; have HALL := Lib.hid hall; have HROW := Lib.hid hrow; have HEX := Lib.hid hex; have HD := Lib.hid hD
        obtain ⟨xa, xc, hxv⟩ := row_slice' hrow
        subst hxv
        clear hbd hval hall hrow hex hD
        by_cases hin : i = N
        · have hall2 : l.all isDig = true := by
            have := HALL.out
            rwa [List.take_of_length_le (by rw [HN.out]; omega)] at this
          have hval2 : rval ds = dnum l := by
            have := HVAL.out
            rwa [List.take_of_length_le (by rw [HN.out]; omega)] at this
          obtain ⟨h1, h2⟩ := HYES2.out hall2
          obtain ⟨a2, c2, hv2, ho2⟩ := Own.of_row HROW.out HBD.out.wide
          injection hv2 with q1 q2 q3
          subst q1 q3 h2
          have CN := number_calls ho2.sl HBD.out (by omega)
          rw [hval2, ← h1] at CN
          have HCN := Lib.hid CN
          clear CN ho2 hall2 hval2 h1
          have hge : ¬ ((i : Int) < (N : Int)) := by omega
          clear hin
          go_wp2_with fail
          refine HCN.out.mono ?_
          rintro e w3 ⟨a3, n3, c3, rfl, hown3, hext3, hn3⟩
          go_wp2_with fail
          go_ret2
          exact ⟨a3, n3, c3, rfl, hown3.mono HEX.out.size, HEX.out.trans hext3, by omega⟩
        · have hlt : (i : Int) < (N : Int) := by omega
          have hil : i < l.length := by rw [HN.out]; omega
          obtain ⟨c, hc⟩ : ∃ c, l[i]'hil = c := ⟨_, rfl⟩
          have hget : ∀ hz : i < S.size, S[i]'hz = c := fun hz => (HGET.out i hil hz).trans hc
          have hall3 := all_take_succ hil
          have hval3 := dnum_take_succ hil
          rw [hc] at hall3 hval3
          rw [HALL.out, Bool.true_and] at hall3
          rw [← HVAL.out] at hval3
          have hcb : c.toNat < 256 := c.toNat_lt
          have HA3 := Lib.hid hall3; have HV3 := Lib.hid hval3
          have HFAIL := Lib.hid (fun (h : isDig c = false) => show l.all isDig = false by
            rw [Bool.eq_false_iff]
            intro h2
            have := List.all_eq_true.1 h2 (l[i]'hil) (List.getElem_mem hil)
            rw [hc, h] at this
            exact absurd this (by decide))
          clear hall3 hval3 hc hin
          by_cases hlo : c.toNat < 48
          · obtain ⟨h1, h2⟩ := HNO2.out (HFAIL.out (by simp [isDig]; omega))
            subst h1 h2
            have hloI : (c.toNat : Int) < 48 := by omega
            go_wp2_with fail
            go_ret2
            exact ⟨none, 0, 0, rfl, Own.nil _ _, HEX.out, by omega⟩
          by_cases hhi : 57 < c.toNat
          · obtain ⟨h1, h2⟩ := HNO2.out (HFAIL.out (by simp [isDig]; omega))
            subst h1 h2
            have hloI : ¬ ((c.toNat : Int) < 48) := by omega
            have hhiI : (57 : Int) < (c.toNat : Int) := by omega
            go_wp2_with fail
            go_ret2
            exact ⟨none, 0, 0, rfl, Own.nil _ _, HEX.out, by omega⟩
          have hdig : isDig c = true := by rw [isDig_iff]; omega
          have HDIG := Lib.hid (HA3.out.trans hdig)
          obtain ⟨d, hd⟩ : ∃ d, c.toNat - 48 = d := ⟨_, rfl⟩
          have hd9 : d ≤ 9 := by omega
          have hdI : (c.toNat : Int) - 48 = (d : Int) := by omega
          rw [hd] at HV3
          have hloI : ¬ ((c.toNat : Int) < 48) := by omega
          have hhiI : ¬ ((57 : Int) < (c.toNat : Int)) := by omega
          have HST := Lib.hid (show RPRel2 w (.slice xa D xc) D ds d (.int .u64 (d : Int)) (.int .i64 0) wr from ⟨0, d, ds, by omega, rfl, rfl, hd9, HD.out.symm, HBD.out, rfl, by simp [nv], HROW.out, HEX.out⟩)
          clear hd hdig HFAIL HA3 hlo hhi
          go_wp2_with fail
          go_loopw [6, 7] (fun cv jv wr => RPRel2 w (.slice xa D xc) D ds d cv jv wr) (fun _ jv _ => D - (RowKit.intOf jv).toNat)
          case atStart => exact HST.out
          case round =>
            obtain ⟨j, cr, es, hj, rfl, rfl, hcr, hes, hbe, hdrop, hnv, hrow2, hex2⟩ := hrel
            have HES := Lib.hid hes; have HBE := Lib.hid hbe; have HDROP := Lib.hid hdrop; have HNV := Lib.hid hnv; have HROW2 := Lib.hid hrow2; have HEX2 := Lib.hid hex2
            clear hes hbe hdrop hnv hrow2 hex2
            by_cases hjD : j = D
            · have hvv : rval es + B32 ^ D * cr = rval ds * 10 + d := by
                have := HNV.out
                rw [hjD, List.take_of_length_le (by rw [HES.out]; exact Nat.le_refl _), List.take_of_length_le (by rw [← HD.out]; exact Nat.le_refl _)] at this
                exact this
              rw [← HV3.out] at hvv
              have HVV := Lib.hid hvv
              have hge : ¬ ((j : Int) < (D : Int)) := by omega
              clear hvv hjD
              by_cases hcr0 : cr = 0
              · subst hcr0
                have HV0 := Lib.hid (show rval es = dnum (l.take (i + 1)) by have := HVV.out; rw [Nat.mul_zero, Nat.add_zero] at this; exact this)
                go_wp2_with fail
                go_roundw
                case rel => 
                  have HREL : RPRel w l (.slice xa D xc) (.int .i64 ((i : Int) + 1)) wr := ⟨i + 1, D, es, by rw [HN.out]; omega, by go_num, HBE.out, HES.out.symm, by omega, HV0.out, HDIG.out, HROW2.out, HEX2.out⟩
                  first | exact HREL | exact ⟨_, _, _, _, HREL, rfl, rfl, rfl, rfl⟩
                case measure => simp only [RowKit.intOf]; omega
              · have hcrp : (0 : Int) < (cr : Int) := by omega
                have hcrB : cr < B64 := by rw [B64_eq]; omega
                obtain ⟨Z, hZ⟩ : ∃ Z, wr.alloc (.cells #[.int .u64 (cr : Int)] 33) = Z := ⟨_, rfl⟩
                have SZ := Lib.hid (show Sl Z (some ⟨wr.heap.size, 0, none⟩) 1 1 [cr] by rw [← hZ]; exact (own_lit wr.heap.size wr cr hcrB (Nat.le_refl _)).sl)
                have EZ := Lib.hid (show Ext w Z by rw [← hZ]; exact HEX2.out.alloc _)
                have RZ := Lib.hid (show Z.ownsRow w.heap.size 33 1 (.slice xa D xc) D (cells64 es) by rw [← hZ]; exact World.ownsRow.alloc HROW2.out _)
                have HZ := Lib.hid hZ
                have HCB := Lib.hid hcrB
                clear hZ hcrB
                go_wp2_with (first | (at_builtin; refine append_row_sl' _ rfl _ _ _ rfl _ _ Tryz.underlying22 H1.out H2.out H3.out H4.out w.heap.size _ _ _ rfl RZ.out EZ.out.size _ _ _ _ rfl SZ.out (by omega) HBE.out.wide ?_) | rw [HZ.out])
                intro v5 w5 o5 g5
                have E5 := Lib.hid (Below.grown EZ.out g5 EZ.out.size (fun k h => (World.ownsRow.lt HROW2.out k h).1))
                have O5 := Lib.hid o5
                obtain ⟨rg, rh, hvr⟩ := row_slice' o5
                subst hvr
                clear o5 g5
                have HV0 := Lib.hid (show rval (es ++ [cr]) = dnum (l.take (i + 1)) by
                  have := HVV.out
                  unfold rval at this ⊢
                  rw [nv_append, HES.out]
                  simpa [nv] using this)
                go_wp2_with fail
                go_roundw
                case rel => 
                  have HREL : RPRel w l (.slice rg (D + 1) rh) (.int .i64 ((i : Int) + 1)) w5 := ⟨i + 1, D + 1, es ++ [cr], by rw [HN.out]; omega, by go_num, HBE.out.append (Bd.cons (by rw [B32_eq]; omega) (Bd.nil _)), by rw [List.length_append, HES.out]; rfl, by omega, HV0.out, HDIG.out, O5.out, E5.out⟩
                  first | exact HREL | exact ⟨_, _, _, _, HREL, rfl, rfl, rfl, rfl⟩
                case measure => simp only [RowKit.intOf]; omega
            · omega

end Go.Proofs.YtkdkgmnjhimdeaaGreatDoor
