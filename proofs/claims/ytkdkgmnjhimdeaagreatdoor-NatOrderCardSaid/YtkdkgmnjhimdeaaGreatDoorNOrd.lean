/- gleanlaw1.NatOrder: the walk. -/
import Derived.Test.YtkdkgmnjhimdeaaGreatDoorKnown1
import Derived.Test.YtkdkgmnjhimdeaaGreatDoorRefB
namespace Go.Proofs.YtkdkgmnjhimdeaaGreatDoor
open Go.RowKit

theorem cmpN_le {X Y : Nat} (h : X ≤ Y) : cmpN X Y ≤ 0 := by
  rcases Nat.lt_or_eq_of_le h with h | h
  · rw [cmpN_lt h]; decide
  · rw [cmpN_eq h]; decide
theorem bits_small {a b : Option Addr} {m n c d X Y LA LB : Nat} {xs ys : List Nat} {w : World} (ha : Sl w a m c xs) (hb : Sl w b n d ys) (hx : val xs = X) (hy : val ys = Y) (hm : m ≤ 60) (hn : n ≤ 60) (h1 : bitLen X = LA) (h2 : bitLen Y = LB) : LA ≤ 6400000000 ∧ LB ≤ 6400000000 := by
  have e : ∀ k, B64 ^ k = 2 ^ (64 * k) := fun k => by rw [Nat.pow_mul]; rfl
  have b1 := nv_lt ha.bd
  have b2 := nv_lt hb.bd
  rw [ha.len, e] at b1
  rw [hb.len, e] at b2
  have c1 := bitLen_le b1
  have c2 := bitLen_le b2
  have d1 : nv B64 xs = X := hx
  have d2 : nv B64 ys = Y := hy
  rw [d1, h1] at c1
  rw [d2, h2] at c2
  omega
theorem bitLen_mono {X Y : Nat} (h : X ≤ Y) : bitLen X ≤ bitLen Y := bitLen_le (Nat.lt_of_le_of_lt h (bitLen_lt Y))
theorem val_noughts (xs : List Nat) : val (xs ++ [0, 0]) = val xs := by
  unfold val; rw [nv_append]; simp [nv]
/-- 'append([]uint64(nil), x...)', as a row. -/
theorem append_nil_row {P : Program} (w : World) {ops : Array Oper} {rest : List Oper} {o : Oper} {act : Act} {Q : Exit → Act → World → Prop} (hgd : o.guard = none) (s x : Operand) (t : TypeId)
    (ho : o.op = .call { callee := .builtin .append, args := #[s, x], argTypes := #[t, t] }) (e : TypeId) (i : TypeInfo) (h1 : P.underlying t = some (.slice e)) (h2 : P.info? e = some i)
    (h3 : i.zero = some (.int .u64 0)) (h4 : i.size = 1) (h5 : i.bytes = 8) (hs : act.eval s = .slice none 0 0) (a : Option Addr) (n c : Nat) (xs : List Nat) (hx : act.eval x = .slice a n c) (hsl : Sl w a n c xs) (hn : n ≤ 1099511627776)
    (hK : ∀ v w', w'.ownsRow w.heap.size e 1 v n (cells64 xs) → Ext w w' → wpList P ops Q rest (act.put o.dst v) w') :
    wpList P ops Q (o :: rest) act w := by
  cases a with
  | none =>
    obtain rfl : n = 0 := hsl.none_len
    obtain rfl : xs = [] := List.eq_nil_of_length_eq_zero hsl.len
    have hc : c = 0 := by
      rcases hsl.at_ with ⟨_, h⟩ | ⟨b, off, h, _⟩
      · exact h
      · cases h
    subst hc
    refine wpList_plain hgd fun K hK' => ?_
    have hr := run_append_owned_none (P := P) w w.heap.size t o.type e i 1 h1 h2 (.slice none 0 0) 0 [] (World.ownsRow_nil w _ e 1)
    unfold Oper.wp execOp
    simp only [ho, resolve, invoke, builtin, Sem.run_bind, Sem.run_pure, Result.andThen_ok, List.map_toArray, List.map_cons, List.map_nil, hs, hx, hr]
    exact hK' _ _ (hK _ w (World.ownsRow_nil w _ e 1) (Ext.refl w))
  | some ad =>
    have hcells : ∀ (j : Nat) u, (cells64 xs)[j]? = some u → w.cell? (ad.add j) = some u := by
      intro j u hu
      unfold cells64 at hu
      rw [List.getElem?_map] at hu
      have hj : j < xs.length := by
        rcases Nat.lt_or_ge j xs.length with h | h
        · exact h
        · rw [List.getElem?_eq_none h] at hu; cases hu
      rw [List.getElem?_eq_getElem hj] at hu
      simp only [Option.map_some, Option.some.injEq] at hu
      subst hu
      rcases hsl.at_ with ⟨h, _⟩ | ⟨b, off, h, hc⟩
      · have := hsl.len; omega
      · cases h
        have hadd : (⟨b, off, none⟩ : Addr).add j = ⟨b, off + j, none⟩ := by unfold Addr.add; split <;> simp_all
        rw [hadd, hc j (by rw [← hsl.len]; exact hj), getD_of_lt hj]
    refine wpList_append_own w hgd s x t ho w.heap.size e i (.int .u64 0) 1 8 h1 h2 h3 h4 h5 rfl (by omega) (.slice none 0 0) 0 [] hs (World.ownsRow_nil w _ e 1) ad n c (cells64 xs) hx (by simp [cells64, hsl.len]) hcells (oneCell_u64 xs) (by unfold maxLen; omega) (by omega) (Nat.le_refl _) ?_
    intro v' w' hown hgrow _
    simp only [Nat.zero_add, List.nil_append] at hown
    exact hK v' w' hown (Ext.grown hgrow (fun k h => by cases h))
set_option maxHeartbeats 1000000 in
set_option maxRecDepth 100000 in
theorem copyrow_calls {a : Option Addr} {n c : Nat} {xs : List Nat} {w : World} (h : Sl w a n c xs) (hn : n ≤ 1000000000) :
    Calls Tryz.prog 17 #[.slice a n c] w (fun e w' => ∃ v, e = .returned v ∧ w'.ownsRow w.heap.size 33 1 v n (cells64 xs) ∧ Ext w w') := by
  obtain ⟨i0, hi, hz0, hs, hby⟩ := info_parts info64
  have HT := Lib.hid h
  clear h
  go_enter Tryz.func17, Tryz.ntmps17
  go_wp2_with (at_builtin; refine append_nil_row _ rfl _ _ _ rfl _ _ Tryz.underlying23 hi hz0 hs hby rfl _ _ _ _ rfl HT.out (by omega) ?_)
  intro v w1 ho hext
  go_wp2_with fail
  go_ret
  exact ⟨v, rfl, ho, hext⟩
theorem lit00_at (w : World) : Sl (w.alloc (.cells #[.int .u64 0, .int .u64 0] 33)) (some ⟨w.heap.size, 0, none⟩) 2 2 [0, 0] := by
  have hc : (w.alloc (.cells #[.int .u64 0, .int .u64 0] 33 (0, 0))).heap[w.heap.size]? = some (.cells #[.int .u64 0, .int .u64 0] 33 (0, 0)) := heap_alloc_new w _
  refine ⟨rfl, Nat.le_refl _, by decide, Bd.cons (by decide) (Bd.cons (by decide) (Bd.nil _)), .inr ⟨_, _, rfl, ?_⟩⟩
  intro i hi
  rw [cell_of_row _ _ _ _ _ _ hc]
  match i, hi with
  | 0, _ => rfl
  | 1, _ => rfl

set_option maxHeartbeats 16000000 in
set_option maxRecDepth 100000 in
theorem nord_law {a1 : Option Addr} {m1 c1 : Nat} {xs1 : List Nat} {a2 : Option Addr} {m2 c2 : Nat} {xs2 : List Nat} {a3 : Option Addr} {m3 c3 : Nat} {xs3 : List Nat} {w : World} (ha1 : Sl w a1 m1 c1 xs1) (ha2 : Sl w a2 m2 c2 xs2) (ha3 : Sl w a3 m3 c3 xs3) (htab : Tab w) (htz : TzTab w) :
    Calls Tryz.prog 12 #[.slice a1 m1 c1, .slice a2 m2 c2, .slice a3 m3 c3] w (RetE (.bool true) w) := by
  obtain ⟨A, hv1⟩ : ∃ X, val xs1 = X := ⟨_, rfl⟩
  have HV1 := Lib.hid hv1; have HA1 := Lib.hid ha1
  obtain ⟨B, hv2⟩ : ∃ X, val xs2 = X := ⟨_, rfl⟩
  have HV2 := Lib.hid hv2; have HA2 := Lib.hid ha2
  obtain ⟨C, hv3⟩ : ∃ X, val xs3 = X := ⟨_, rfl⟩
  have HV3 := Lib.hid hv3; have HA3 := Lib.hid ha3
  have HTZ := Lib.hid htz; have HT := Lib.hid htab
  have CK := Lib.hid (known1_calls w htab htz)
  clear hv1 ha1 hv2 ha2 hv3 ha3 htab htz
  go_enter Tryz.func12, Tryz.ntmps12
  go_wp2_with fail
  refine CK.out.mono ?_
  rintro e w0 ⟨rfl, hx0⟩
  have D1 := Lib.hid hx0
  have EX1 := Lib.hid hx0
  clear hx0
  clear CK
  obtain ⟨Z, hZ⟩ : ∃ Z, w0.alloc (.cells #[.slice a1 m1 c1, .slice a2 m2 c2, .slice a3 m3 c3] 23) = Z := ⟨_, rfl⟩
  have hxz : Ext w0 Z := by rw [← hZ]; exact (Ext.refl _).alloc _
  by_cases h60 : m1 ≤ 60 ∧ m2 ≤ 60 ∧ m3 ≤ 60
  rotate_left
  · have HSM := Lib.hid (sm_no3 w0 a1 m1 c1 a2 m2 c2 a3 m3 c3 h60)
    rw [hZ] at HSM
    have HZ := Lib.hid hZ; have HEZ := Lib.hid (EX1.out.trans hxz)
    clear hZ hxz
    go_wp2_with (rw [HZ.out])
    refine HSM.out.mono ?_
    rintro e w' ⟨rfl, rfl⟩
    go_wp2_with fail
    go_ret
    exact ⟨rfl, HEZ.out⟩
  have HSM := Lib.hid (sm_yes3 w0 a1 m1 c1 a2 m2 c2 a3 m3 c3 h60)
  rw [hZ] at HSM
  have HZ := Lib.hid hZ
  obtain ⟨q1, q2, q3⟩ := h60
  clear hZ
  have D2 := Lib.hid hxz
  have EX2 := Lib.hid (EX1.out.trans hxz)
  clear hxz
  go_wp2_with (rw [HZ.out])
  refine HSM.out.mono ?_
  rintro e w' ⟨rfl, rfl⟩
  clear HSM
  obtain ⟨LA, hLA⟩ : ∃ X, bitLen A = X := ⟨_, rfl⟩
  obtain ⟨LB, hLB⟩ : ∃ X, bitLen B = X := ⟨_, rfl⟩
  have HLA := Lib.hid hLA; have HLB := Lib.hid hLB
  obtain ⟨hLAm, hLBm⟩ := bits_small HA1.out HA2.out HV1.out HV2.out q1 q2 hLA hLB
  rcases Nat.lt_trichotomy A B with hAB | hAB | hAB
  · skip
    have HC1 := Lib.hid (show cmpN A B = (-1) from cmpN_lt hAB)
    have HC2 := Lib.hid (show cmpN B A = 1 from cmpN_gt hAB)
    have HAB := Lib.hid hAB
    clear hAB hLA hLB
    have C1 := Lib.hid (cmp_at A B (-1) (HA1.out.old EX2.out) (HA2.out.old EX2.out) HV1.out HV2.out HC1.out (by omega) (by omega))
    go_wp2_with fail
    refine C1.out.mono ?_
    rintro e w1 ⟨rfl, x1⟩
    have D3 := Lib.hid x1
    have EX3 := Lib.hid (EX2.out.trans x1)
    clear x1
    clear C1
    have C2 := Lib.hid (cmp_at B A 1 (HA2.out.old EX3.out) (HA1.out.old EX3.out) HV2.out HV1.out HC2.out (by omega) (by omega))
    go_wp2_with fail
    refine C2.out.mono ?_
    rintro e w2 ⟨rfl, x2⟩
    have D4 := Lib.hid x2
    have EX4 := Lib.hid (EX3.out.trans x2)
    clear x2
    clear C2
    have C3 := Lib.hid (sub_no A B (HA1.out.old EX4.out) (HA2.out.old EX4.out) HV1.out HV2.out HAB.out (by omega) (by omega))
    go_wp2_with fail
    refine C3.out.mono ?_
    rintro e w3 ⟨a3r, n3r, c3r, rfl, o3, x3, l3⟩
    have S3 := Lib.hid o3.sl
    clear o3
    have D5 := Lib.hid x3
    have EX5 := Lib.hid (EX4.out.trans x3)
    clear x3
    clear C3
    by_cases hbl : (LA : Int) < (LB : Int)
    · skip
      have C4 := Lib.hid (bits_at A LA (HA1.out.old EX5.out) HV1.out HLA.out (by omega))
      go_wp2_with fail
      refine C4.out.mono ?_
      rintro e w' ⟨rfl, rfl⟩
      clear C4
      have C5 := Lib.hid (bits_at B LB (HA2.out.old EX5.out) HV2.out HLB.out (by omega))
      go_wp2_with fail
      refine C5.out.mono ?_
      rintro e w' ⟨rfl, rfl⟩
      clear C5
      rcases Nat.lt_or_ge C B with hBC | hBC
      · skip
        have HC3 := Lib.hid (cmpN_gt hBC); clear hBC
        have C6 := Lib.hid (cmp_at B C 1 (HA2.out.old EX5.out) (HA3.out.old EX5.out) HV2.out HV3.out HC3.out (by omega) (by omega))
        go_wp2_with fail
        refine C6.out.mono ?_
        rintro e w6 ⟨rfl, x6⟩
        have D6 := Lib.hid x6
        have EX6 := Lib.hid (EX5.out.trans x6)
        clear x6
        clear C6
        have C7 := Lib.hid (copyrow_calls (HA1.out.old EX6.out) (by omega))
        go_wp2_with fail
        refine C7.out.mono ?_
        rintro e w7 ⟨vrow, rfl, hrow, x7⟩
        have HROW := Lib.hid hrow; clear hrow
        obtain ⟨ra, rc, hvr⟩ := row_slice' HROW.out
        subst hvr
        have D7 := Lib.hid x7
        have EX7 := Lib.hid (EX6.out.trans x7)
        clear x7
        obtain ⟨V8, hV⟩ : ∃ V, w7.alloc (.cells #[.int .u64 0, .int .u64 0] 33) = V := ⟨_, rfl⟩
        have S8 := Lib.hid (show Sl V8 (some ⟨w7.heap.size, 0, none⟩) 2 2 [0, 0] by rw [← hV]; exact lit00_at _)
        have x8 : Ext w7 V8 := by rw [← hV]; exact (Ext.refl _).alloc _
        have HROW2 := Lib.hid (show V8.ownsRow w6.heap.size 33 1 (.slice ra m1 rc) m1 (cells64 xs1) by rw [← hV]; exact World.ownsRow.alloc HROW.out _)
        have HV8 := Lib.hid hV; clear hV
        have D8 := Lib.hid x8
        have EX8 := Lib.hid (EX7.out.trans x8)
        clear x8
        obtain ⟨i0, hi, hz0, hs, hby⟩ := info_parts info64
        have H1 := Lib.hid hi; have H2 := Lib.hid hz0; have H3 := Lib.hid hs; have H4 := Lib.hid hby
        clear hi hz0 hs hby
        have HBV := Lib.hid (Ext.trans D7.out D8.out)
        go_wp2_with (first | (at_builtin; refine append_row_sl _ rfl _ _ _ rfl _ _ Tryz.underlying23 H1.out H2.out H3.out H4.out w6.heap.size _ _ _ rfl HROW2.out HBV.out.size _ _ _ _ rfl S8.out (by omega) HA1.out.bd ?_) | rw [HV8.out])
        intro a9r c9r w9 o9 g9
        have x9 : Ext w6 w9 := Below.grown HBV.out g9 HBV.out.size (fun k h => (World.ownsRow.lt HROW.out k h).1)
        have S9 := Lib.hid o9.sl; clear o9 g9
        have EX9 := Lib.hid (EX6.out.trans x9)
        clear x9
        have C10 := Lib.hid (cmp_at A A 0 S9.out (HA1.out.old EX9.out) ((val_noughts _).trans HV1.out) HV1.out (cmpN_eq rfl) (by omega) (by omega))
        go_wp2_with fail
        refine C10.out.mono ?_
        rintro e w10 ⟨rfl, x10⟩
        have D10 := Lib.hid x10
        have EX10 := Lib.hid (EX9.out.trans x10)
        clear x10
        clear C10
        have C11 := Lib.hid (cmp_at A B (-1) (S9.out.old D10.out) (HA2.out.old EX10.out) ((val_noughts _).trans HV1.out) HV2.out HC1.out (by omega) (by omega))
        go_wp2_with fail
        refine C11.out.mono ?_
        rintro e w11 ⟨rfl, x11⟩
        have D11 := Lib.hid x11
        have EX11 := Lib.hid (EX10.out.trans x11)
        clear x11
        clear C11
        have C12 := Lib.hid (norm_at A (S9.out.old (Ext.trans D10.out D11.out)) ((val_noughts _).trans HV1.out) (by omega))
        go_wp2_with fail
        refine C12.out.mono ?_
        rintro e w12 ⟨a12r, n12r, c12r, rfl, o12, x12, l12⟩
        have S12 := Lib.hid o12.sl
        clear o12
        have D12 := Lib.hid x12
        have EX12 := Lib.hid (EX11.out.trans x12)
        clear x12
        clear C12
        have C13 := Lib.hid (norm_at A (HA1.out.old EX12.out) HV1.out (by omega))
        go_wp2_with fail
        refine C13.out.mono ?_
        rintro e w13 ⟨a13r, n13r, c13r, rfl, o13, x13, l13⟩
        have S13 := Lib.hid o13.sl
        clear o13
        have D13 := Lib.hid x13
        have EX13 := Lib.hid (EX12.out.trans x13)
        clear x13
        clear C13
        have C14 := Lib.hid (hnat_yes (S12.out.old D13.out) S13.out rfl (by omega) (by omega))
        go_wp2_with fail
        refine C14.out.mono ?_
        rintro e w14 ⟨rfl, x14⟩
        have D14 := Lib.hid x14
        have EX14 := Lib.hid (EX13.out.trans x14)
        clear x14
        clear C14
        have C15 := Lib.hid (bits_at A LA (S9.out.old (Ext.trans D10.out (Ext.trans D11.out (Ext.trans D12.out (Ext.trans D13.out D14.out))))) ((val_noughts _).trans HV1.out) HLA.out (by omega))
        go_wp2_with fail
        refine C15.out.mono ?_
        rintro e w' ⟨rfl, rfl⟩
        clear C15
        have C16 := Lib.hid (bits_at A LA (HA1.out.old EX14.out) HV1.out HLA.out (by omega))
        go_wp2_with fail
        refine C16.out.mono ?_
        rintro e w' ⟨rfl, rfl⟩
        clear C16
        go_wp2_with fail
        go_ret
        exact ⟨rfl, EX14.out⟩
      · skip
        obtain ⟨u, hu⟩ : ∃ u, cmpN B C = u := ⟨_, rfl⟩
        have hu0 : u ≤ 0 := by rw [← hu]; exact cmpN_le hBC
        obtain ⟨v, hv⟩ : ∃ v, cmpN A C = v := ⟨_, rfl⟩
        have hv0 : ¬ (0 < v) := by have := cmpN_le (Nat.le_trans (show A ≤ B by have := HAB.out; omega) hBC); omega
        have HU := Lib.hid hu; have HVV := Lib.hid hv; clear hu hv hBC
        have C6 := Lib.hid (cmp_at B C u (HA2.out.old EX5.out) (HA3.out.old EX5.out) HV2.out HV3.out HU.out (by omega) (by omega))
        go_wp2_with fail
        refine C6.out.mono ?_
        rintro e w6 ⟨rfl, x6⟩
        have D6 := Lib.hid x6
        have EX6 := Lib.hid (EX5.out.trans x6)
        clear x6
        clear C6
        have C7 := Lib.hid (cmp_at A C v (HA1.out.old EX6.out) (HA3.out.old EX6.out) HV1.out HV3.out HVV.out (by omega) (by omega))
        go_wp2_with fail
        refine C7.out.mono ?_
        rintro e w7 ⟨rfl, x7⟩
        have D7 := Lib.hid x7
        have EX7 := Lib.hid (EX6.out.trans x7)
        clear x7
        clear C7
        have C8 := Lib.hid (copyrow_calls (HA1.out.old EX7.out) (by omega))
        go_wp2_with fail
        refine C8.out.mono ?_
        rintro e w8 ⟨vrow, rfl, hrow, x8⟩
        have HROW := Lib.hid hrow; clear hrow
        obtain ⟨ra, rc, hvr⟩ := row_slice' HROW.out
        subst hvr
        have D8 := Lib.hid x8
        have EX8 := Lib.hid (EX7.out.trans x8)
        clear x8
        obtain ⟨V9, hV⟩ : ∃ V, w8.alloc (.cells #[.int .u64 0, .int .u64 0] 33) = V := ⟨_, rfl⟩
        have S9 := Lib.hid (show Sl V9 (some ⟨w8.heap.size, 0, none⟩) 2 2 [0, 0] by rw [← hV]; exact lit00_at _)
        have x9 : Ext w8 V9 := by rw [← hV]; exact (Ext.refl _).alloc _
        have HROW2 := Lib.hid (show V9.ownsRow w7.heap.size 33 1 (.slice ra m1 rc) m1 (cells64 xs1) by rw [← hV]; exact World.ownsRow.alloc HROW.out _)
        have HV9 := Lib.hid hV; clear hV
        have D9 := Lib.hid x9
        have EX9 := Lib.hid (EX8.out.trans x9)
        clear x9
        obtain ⟨i0, hi, hz0, hs, hby⟩ := info_parts info64
        have H1 := Lib.hid hi; have H2 := Lib.hid hz0; have H3 := Lib.hid hs; have H4 := Lib.hid hby
        clear hi hz0 hs hby
        have HBV := Lib.hid (Ext.trans D8.out D9.out)
        go_wp2_with (first | (at_builtin; refine append_row_sl _ rfl _ _ _ rfl _ _ Tryz.underlying23 H1.out H2.out H3.out H4.out w7.heap.size _ _ _ rfl HROW2.out HBV.out.size _ _ _ _ rfl S9.out (by omega) HA1.out.bd ?_) | rw [HV9.out])
        intro a10r c10r w10 o10 g10
        have x10 : Ext w7 w10 := Below.grown HBV.out g10 HBV.out.size (fun k h => (World.ownsRow.lt HROW.out k h).1)
        have S10 := Lib.hid o10.sl; clear o10 g10
        have EX10 := Lib.hid (EX7.out.trans x10)
        clear x10
        have C11 := Lib.hid (cmp_at A A 0 S10.out (HA1.out.old EX10.out) ((val_noughts _).trans HV1.out) HV1.out (cmpN_eq rfl) (by omega) (by omega))
        go_wp2_with fail
        refine C11.out.mono ?_
        rintro e w11 ⟨rfl, x11⟩
        have D11 := Lib.hid x11
        have EX11 := Lib.hid (EX10.out.trans x11)
        clear x11
        clear C11
        have C12 := Lib.hid (cmp_at A B (-1) (S10.out.old D11.out) (HA2.out.old EX11.out) ((val_noughts _).trans HV1.out) HV2.out HC1.out (by omega) (by omega))
        go_wp2_with fail
        refine C12.out.mono ?_
        rintro e w12 ⟨rfl, x12⟩
        have D12 := Lib.hid x12
        have EX12 := Lib.hid (EX11.out.trans x12)
        clear x12
        clear C12
        have C13 := Lib.hid (norm_at A (S10.out.old (Ext.trans D11.out D12.out)) ((val_noughts _).trans HV1.out) (by omega))
        go_wp2_with fail
        refine C13.out.mono ?_
        rintro e w13 ⟨a13r, n13r, c13r, rfl, o13, x13, l13⟩
        have S13 := Lib.hid o13.sl
        clear o13
        have D13 := Lib.hid x13
        have EX13 := Lib.hid (EX12.out.trans x13)
        clear x13
        clear C13
        have C14 := Lib.hid (norm_at A (HA1.out.old EX13.out) HV1.out (by omega))
        go_wp2_with fail
        refine C14.out.mono ?_
        rintro e w14 ⟨a14r, n14r, c14r, rfl, o14, x14, l14⟩
        have S14 := Lib.hid o14.sl
        clear o14
        have D14 := Lib.hid x14
        have EX14 := Lib.hid (EX13.out.trans x14)
        clear x14
        clear C14
        have C15 := Lib.hid (hnat_yes (S13.out.old D14.out) S14.out rfl (by omega) (by omega))
        go_wp2_with fail
        refine C15.out.mono ?_
        rintro e w15 ⟨rfl, x15⟩
        have D15 := Lib.hid x15
        have EX15 := Lib.hid (EX14.out.trans x15)
        clear x15
        clear C15
        have C16 := Lib.hid (bits_at A LA (S10.out.old (Ext.trans D11.out (Ext.trans D12.out (Ext.trans D13.out (Ext.trans D14.out D15.out))))) ((val_noughts _).trans HV1.out) HLA.out (by omega))
        go_wp2_with fail
        refine C16.out.mono ?_
        rintro e w' ⟨rfl, rfl⟩
        clear C16
        have C17 := Lib.hid (bits_at A LA (HA1.out.old EX15.out) HV1.out HLA.out (by omega))
        go_wp2_with fail
        refine C17.out.mono ?_
        rintro e w' ⟨rfl, rfl⟩
        clear C17
        go_wp2_with fail
        go_ret
        exact ⟨rfl, EX15.out⟩
    · skip
      have C4 := Lib.hid (bits_at A LA (HA1.out.old EX5.out) HV1.out HLA.out (by omega))
      go_wp2_with fail
      refine C4.out.mono ?_
      rintro e w' ⟨rfl, rfl⟩
      clear C4
      have C5 := Lib.hid (bits_at B LB (HA2.out.old EX5.out) HV2.out HLB.out (by omega))
      go_wp2_with fail
      refine C5.out.mono ?_
      rintro e w' ⟨rfl, rfl⟩
      clear C5
      rcases Nat.lt_or_ge C B with hBC | hBC
      · skip
        have HC3 := Lib.hid (cmpN_gt hBC); clear hBC
        have C6 := Lib.hid (cmp_at B C 1 (HA2.out.old EX5.out) (HA3.out.old EX5.out) HV2.out HV3.out HC3.out (by omega) (by omega))
        go_wp2_with fail
        refine C6.out.mono ?_
        rintro e w6 ⟨rfl, x6⟩
        have D6 := Lib.hid x6
        have EX6 := Lib.hid (EX5.out.trans x6)
        clear x6
        clear C6
        have C7 := Lib.hid (copyrow_calls (HA1.out.old EX6.out) (by omega))
        go_wp2_with fail
        refine C7.out.mono ?_
        rintro e w7 ⟨vrow, rfl, hrow, x7⟩
        have HROW := Lib.hid hrow; clear hrow
        obtain ⟨ra, rc, hvr⟩ := row_slice' HROW.out
        subst hvr
        have D7 := Lib.hid x7
        have EX7 := Lib.hid (EX6.out.trans x7)
        clear x7
        obtain ⟨V8, hV⟩ : ∃ V, w7.alloc (.cells #[.int .u64 0, .int .u64 0] 33) = V := ⟨_, rfl⟩
        have S8 := Lib.hid (show Sl V8 (some ⟨w7.heap.size, 0, none⟩) 2 2 [0, 0] by rw [← hV]; exact lit00_at _)
        have x8 : Ext w7 V8 := by rw [← hV]; exact (Ext.refl _).alloc _
        have HROW2 := Lib.hid (show V8.ownsRow w6.heap.size 33 1 (.slice ra m1 rc) m1 (cells64 xs1) by rw [← hV]; exact World.ownsRow.alloc HROW.out _)
        have HV8 := Lib.hid hV; clear hV
        have D8 := Lib.hid x8
        have EX8 := Lib.hid (EX7.out.trans x8)
        clear x8
        obtain ⟨i0, hi, hz0, hs, hby⟩ := info_parts info64
        have H1 := Lib.hid hi; have H2 := Lib.hid hz0; have H3 := Lib.hid hs; have H4 := Lib.hid hby
        clear hi hz0 hs hby
        have HBV := Lib.hid (Ext.trans D7.out D8.out)
        go_wp2_with (first | (at_builtin; refine append_row_sl _ rfl _ _ _ rfl _ _ Tryz.underlying23 H1.out H2.out H3.out H4.out w6.heap.size _ _ _ rfl HROW2.out HBV.out.size _ _ _ _ rfl S8.out (by omega) HA1.out.bd ?_) | rw [HV8.out])
        intro a9r c9r w9 o9 g9
        have x9 : Ext w6 w9 := Below.grown HBV.out g9 HBV.out.size (fun k h => (World.ownsRow.lt HROW.out k h).1)
        have S9 := Lib.hid o9.sl; clear o9 g9
        have EX9 := Lib.hid (EX6.out.trans x9)
        clear x9
        have C10 := Lib.hid (cmp_at A A 0 S9.out (HA1.out.old EX9.out) ((val_noughts _).trans HV1.out) HV1.out (cmpN_eq rfl) (by omega) (by omega))
        go_wp2_with fail
        refine C10.out.mono ?_
        rintro e w10 ⟨rfl, x10⟩
        have D10 := Lib.hid x10
        have EX10 := Lib.hid (EX9.out.trans x10)
        clear x10
        clear C10
        have C11 := Lib.hid (cmp_at A B (-1) (S9.out.old D10.out) (HA2.out.old EX10.out) ((val_noughts _).trans HV1.out) HV2.out HC1.out (by omega) (by omega))
        go_wp2_with fail
        refine C11.out.mono ?_
        rintro e w11 ⟨rfl, x11⟩
        have D11 := Lib.hid x11
        have EX11 := Lib.hid (EX10.out.trans x11)
        clear x11
        clear C11
        have C12 := Lib.hid (norm_at A (S9.out.old (Ext.trans D10.out D11.out)) ((val_noughts _).trans HV1.out) (by omega))
        go_wp2_with fail
        refine C12.out.mono ?_
        rintro e w12 ⟨a12r, n12r, c12r, rfl, o12, x12, l12⟩
        have S12 := Lib.hid o12.sl
        clear o12
        have D12 := Lib.hid x12
        have EX12 := Lib.hid (EX11.out.trans x12)
        clear x12
        clear C12
        have C13 := Lib.hid (norm_at A (HA1.out.old EX12.out) HV1.out (by omega))
        go_wp2_with fail
        refine C13.out.mono ?_
        rintro e w13 ⟨a13r, n13r, c13r, rfl, o13, x13, l13⟩
        have S13 := Lib.hid o13.sl
        clear o13
        have D13 := Lib.hid x13
        have EX13 := Lib.hid (EX12.out.trans x13)
        clear x13
        clear C13
        have C14 := Lib.hid (hnat_yes (S12.out.old D13.out) S13.out rfl (by omega) (by omega))
        go_wp2_with fail
        refine C14.out.mono ?_
        rintro e w14 ⟨rfl, x14⟩
        have D14 := Lib.hid x14
        have EX14 := Lib.hid (EX13.out.trans x14)
        clear x14
        clear C14
        have C15 := Lib.hid (bits_at A LA (S9.out.old (Ext.trans D10.out (Ext.trans D11.out (Ext.trans D12.out (Ext.trans D13.out D14.out))))) ((val_noughts _).trans HV1.out) HLA.out (by omega))
        go_wp2_with fail
        refine C15.out.mono ?_
        rintro e w' ⟨rfl, rfl⟩
        clear C15
        have C16 := Lib.hid (bits_at A LA (HA1.out.old EX14.out) HV1.out HLA.out (by omega))
        go_wp2_with fail
        refine C16.out.mono ?_
        rintro e w' ⟨rfl, rfl⟩
        clear C16
        go_wp2_with fail
        go_ret
        exact ⟨rfl, EX14.out⟩
      · skip
        obtain ⟨u, hu⟩ : ∃ u, cmpN B C = u := ⟨_, rfl⟩
        have hu0 : u ≤ 0 := by rw [← hu]; exact cmpN_le hBC
        obtain ⟨v, hv⟩ : ∃ v, cmpN A C = v := ⟨_, rfl⟩
        have hv0 : ¬ (0 < v) := by have := cmpN_le (Nat.le_trans (show A ≤ B by have := HAB.out; omega) hBC); omega
        have HU := Lib.hid hu; have HVV := Lib.hid hv; clear hu hv hBC
        have C6 := Lib.hid (cmp_at B C u (HA2.out.old EX5.out) (HA3.out.old EX5.out) HV2.out HV3.out HU.out (by omega) (by omega))
        go_wp2_with fail
        refine C6.out.mono ?_
        rintro e w6 ⟨rfl, x6⟩
        have D6 := Lib.hid x6
        have EX6 := Lib.hid (EX5.out.trans x6)
        clear x6
        clear C6
        have C7 := Lib.hid (cmp_at A C v (HA1.out.old EX6.out) (HA3.out.old EX6.out) HV1.out HV3.out HVV.out (by omega) (by omega))
        go_wp2_with fail
        refine C7.out.mono ?_
        rintro e w7 ⟨rfl, x7⟩
        have D7 := Lib.hid x7
        have EX7 := Lib.hid (EX6.out.trans x7)
        clear x7
        clear C7
        have C8 := Lib.hid (copyrow_calls (HA1.out.old EX7.out) (by omega))
        go_wp2_with fail
        refine C8.out.mono ?_
        rintro e w8 ⟨vrow, rfl, hrow, x8⟩
        have HROW := Lib.hid hrow; clear hrow
        obtain ⟨ra, rc, hvr⟩ := row_slice' HROW.out
        subst hvr
        have D8 := Lib.hid x8
        have EX8 := Lib.hid (EX7.out.trans x8)
        clear x8
        obtain ⟨V9, hV⟩ : ∃ V, w8.alloc (.cells #[.int .u64 0, .int .u64 0] 33) = V := ⟨_, rfl⟩
        have S9 := Lib.hid (show Sl V9 (some ⟨w8.heap.size, 0, none⟩) 2 2 [0, 0] by rw [← hV]; exact lit00_at _)
        have x9 : Ext w8 V9 := by rw [← hV]; exact (Ext.refl _).alloc _
        have HROW2 := Lib.hid (show V9.ownsRow w7.heap.size 33 1 (.slice ra m1 rc) m1 (cells64 xs1) by rw [← hV]; exact World.ownsRow.alloc HROW.out _)
        have HV9 := Lib.hid hV; clear hV
        have D9 := Lib.hid x9
        have EX9 := Lib.hid (EX8.out.trans x9)
        clear x9
        obtain ⟨i0, hi, hz0, hs, hby⟩ := info_parts info64
        have H1 := Lib.hid hi; have H2 := Lib.hid hz0; have H3 := Lib.hid hs; have H4 := Lib.hid hby
        clear hi hz0 hs hby
        have HBV := Lib.hid (Ext.trans D8.out D9.out)
        go_wp2_with (first | (at_builtin; refine append_row_sl _ rfl _ _ _ rfl _ _ Tryz.underlying23 H1.out H2.out H3.out H4.out w7.heap.size _ _ _ rfl HROW2.out HBV.out.size _ _ _ _ rfl S9.out (by omega) HA1.out.bd ?_) | rw [HV9.out])
        intro a10r c10r w10 o10 g10
        have x10 : Ext w7 w10 := Below.grown HBV.out g10 HBV.out.size (fun k h => (World.ownsRow.lt HROW.out k h).1)
        have S10 := Lib.hid o10.sl; clear o10 g10
        have EX10 := Lib.hid (EX7.out.trans x10)
        clear x10
        have C11 := Lib.hid (cmp_at A A 0 S10.out (HA1.out.old EX10.out) ((val_noughts _).trans HV1.out) HV1.out (cmpN_eq rfl) (by omega) (by omega))
        go_wp2_with fail
        refine C11.out.mono ?_
        rintro e w11 ⟨rfl, x11⟩
        have D11 := Lib.hid x11
        have EX11 := Lib.hid (EX10.out.trans x11)
        clear x11
        clear C11
        have C12 := Lib.hid (cmp_at A B (-1) (S10.out.old D11.out) (HA2.out.old EX11.out) ((val_noughts _).trans HV1.out) HV2.out HC1.out (by omega) (by omega))
        go_wp2_with fail
        refine C12.out.mono ?_
        rintro e w12 ⟨rfl, x12⟩
        have D12 := Lib.hid x12
        have EX12 := Lib.hid (EX11.out.trans x12)
        clear x12
        clear C12
        have C13 := Lib.hid (norm_at A (S10.out.old (Ext.trans D11.out D12.out)) ((val_noughts _).trans HV1.out) (by omega))
        go_wp2_with fail
        refine C13.out.mono ?_
        rintro e w13 ⟨a13r, n13r, c13r, rfl, o13, x13, l13⟩
        have S13 := Lib.hid o13.sl
        clear o13
        have D13 := Lib.hid x13
        have EX13 := Lib.hid (EX12.out.trans x13)
        clear x13
        clear C13
        have C14 := Lib.hid (norm_at A (HA1.out.old EX13.out) HV1.out (by omega))
        go_wp2_with fail
        refine C14.out.mono ?_
        rintro e w14 ⟨a14r, n14r, c14r, rfl, o14, x14, l14⟩
        have S14 := Lib.hid o14.sl
        clear o14
        have D14 := Lib.hid x14
        have EX14 := Lib.hid (EX13.out.trans x14)
        clear x14
        clear C14
        have C15 := Lib.hid (hnat_yes (S13.out.old D14.out) S14.out rfl (by omega) (by omega))
        go_wp2_with fail
        refine C15.out.mono ?_
        rintro e w15 ⟨rfl, x15⟩
        have D15 := Lib.hid x15
        have EX15 := Lib.hid (EX14.out.trans x15)
        clear x15
        clear C15
        have C16 := Lib.hid (bits_at A LA (S10.out.old (Ext.trans D11.out (Ext.trans D12.out (Ext.trans D13.out (Ext.trans D14.out D15.out))))) ((val_noughts _).trans HV1.out) HLA.out (by omega))
        go_wp2_with fail
        refine C16.out.mono ?_
        rintro e w' ⟨rfl, rfl⟩
        clear C16
        have C17 := Lib.hid (bits_at A LA (HA1.out.old EX15.out) HV1.out HLA.out (by omega))
        go_wp2_with fail
        refine C17.out.mono ?_
        rintro e w' ⟨rfl, rfl⟩
        clear C17
        go_wp2_with fail
        go_ret
        exact ⟨rfl, EX15.out⟩
  · skip
    have HC1 := Lib.hid (show cmpN A B = 0 from cmpN_eq hAB)
    have HC2 := Lib.hid (show cmpN B A = 0 from cmpN_eq hAB.symm)
    have HAB := Lib.hid hAB
    have hlab : LA = LB := by rw [← hLA, ← hLB, hAB]
    have hbl : ¬ ((LA : Int) < (LB : Int)) := by omega
    clear hlab
    clear hAB hLA hLB
    have C1 := Lib.hid (cmp_at A B 0 (HA1.out.old EX2.out) (HA2.out.old EX2.out) HV1.out HV2.out HC1.out (by omega) (by omega))
    go_wp2_with fail
    refine C1.out.mono ?_
    rintro e w1 ⟨rfl, x1⟩
    have D3 := Lib.hid x1
    have EX3 := Lib.hid (EX2.out.trans x1)
    clear x1
    clear C1
    have C2 := Lib.hid (cmp_at B A 0 (HA2.out.old EX3.out) (HA1.out.old EX3.out) HV2.out HV1.out HC2.out (by omega) (by omega))
    go_wp2_with fail
    refine C2.out.mono ?_
    rintro e w2 ⟨rfl, x2⟩
    have D4 := Lib.hid x2
    have EX4 := Lib.hid (EX3.out.trans x2)
    clear x2
    clear C2
    obtain ⟨DD, hDD⟩ : ∃ X, A = X + B := ⟨A - B, by have := HAB.out; omega⟩
    have HDD := Lib.hid hDD; clear hDD
    have C3 := Lib.hid (sub_at A B DD (HA1.out.old EX4.out) (HA2.out.old EX4.out) HV1.out HV2.out HDD.out (by omega) (by omega))
    go_wp2_with fail
    refine C3.out.mono ?_
    rintro e w3 ⟨a3r, n3r, c3r, rfl, o3, x3, l3⟩
    have S3 := Lib.hid o3.sl
    clear o3
    have D5 := Lib.hid x3
    have EX5 := Lib.hid (EX4.out.trans x3)
    clear x3
    clear C3
    have z1 : n3r = 0 := S3.out.len_zero.2 (by have := HDD.out; have := HAB.out; omega)
    subst z1
    have C4 := Lib.hid (bits_at A LA (HA1.out.old EX5.out) HV1.out HLA.out (by omega))
    go_wp2_with fail
    refine C4.out.mono ?_
    rintro e w' ⟨rfl, rfl⟩
    clear C4
    have C5 := Lib.hid (bits_at B LB (HA2.out.old EX5.out) HV2.out HLB.out (by omega))
    go_wp2_with fail
    refine C5.out.mono ?_
    rintro e w' ⟨rfl, rfl⟩
    clear C5
    rcases Nat.lt_or_ge C B with hBC | hBC
    · skip
      have HC3 := Lib.hid (cmpN_gt hBC); clear hBC
      have C6 := Lib.hid (cmp_at B C 1 (HA2.out.old EX5.out) (HA3.out.old EX5.out) HV2.out HV3.out HC3.out (by omega) (by omega))
      go_wp2_with fail
      refine C6.out.mono ?_
      rintro e w6 ⟨rfl, x6⟩
      have D6 := Lib.hid x6
      have EX6 := Lib.hid (EX5.out.trans x6)
      clear x6
      clear C6
      have C7 := Lib.hid (copyrow_calls (HA1.out.old EX6.out) (by omega))
      go_wp2_with fail
      refine C7.out.mono ?_
      rintro e w7 ⟨vrow, rfl, hrow, x7⟩
      have HROW := Lib.hid hrow; clear hrow
      obtain ⟨ra, rc, hvr⟩ := row_slice' HROW.out
      subst hvr
      have D7 := Lib.hid x7
      have EX7 := Lib.hid (EX6.out.trans x7)
      clear x7
      obtain ⟨V8, hV⟩ : ∃ V, w7.alloc (.cells #[.int .u64 0, .int .u64 0] 33) = V := ⟨_, rfl⟩
      have S8 := Lib.hid (show Sl V8 (some ⟨w7.heap.size, 0, none⟩) 2 2 [0, 0] by rw [← hV]; exact lit00_at _)
      have x8 : Ext w7 V8 := by rw [← hV]; exact (Ext.refl _).alloc _
      have HROW2 := Lib.hid (show V8.ownsRow w6.heap.size 33 1 (.slice ra m1 rc) m1 (cells64 xs1) by rw [← hV]; exact World.ownsRow.alloc HROW.out _)
      have HV8 := Lib.hid hV; clear hV
      have D8 := Lib.hid x8
      have EX8 := Lib.hid (EX7.out.trans x8)
      clear x8
      obtain ⟨i0, hi, hz0, hs, hby⟩ := info_parts info64
      have H1 := Lib.hid hi; have H2 := Lib.hid hz0; have H3 := Lib.hid hs; have H4 := Lib.hid hby
      clear hi hz0 hs hby
      have HBV := Lib.hid (Ext.trans D7.out D8.out)
      go_wp2_with (first | (at_builtin; refine append_row_sl _ rfl _ _ _ rfl _ _ Tryz.underlying23 H1.out H2.out H3.out H4.out w6.heap.size _ _ _ rfl HROW2.out HBV.out.size _ _ _ _ rfl S8.out (by omega) HA1.out.bd ?_) | rw [HV8.out])
      intro a9r c9r w9 o9 g9
      have x9 : Ext w6 w9 := Below.grown HBV.out g9 HBV.out.size (fun k h => (World.ownsRow.lt HROW.out k h).1)
      have S9 := Lib.hid o9.sl; clear o9 g9
      have EX9 := Lib.hid (EX6.out.trans x9)
      clear x9
      have C10 := Lib.hid (cmp_at A A 0 S9.out (HA1.out.old EX9.out) ((val_noughts _).trans HV1.out) HV1.out (cmpN_eq rfl) (by omega) (by omega))
      go_wp2_with fail
      refine C10.out.mono ?_
      rintro e w10 ⟨rfl, x10⟩
      have D10 := Lib.hid x10
      have EX10 := Lib.hid (EX9.out.trans x10)
      clear x10
      clear C10
      have C11 := Lib.hid (cmp_at A B 0 (S9.out.old D10.out) (HA2.out.old EX10.out) ((val_noughts _).trans HV1.out) HV2.out HC1.out (by omega) (by omega))
      go_wp2_with fail
      refine C11.out.mono ?_
      rintro e w11 ⟨rfl, x11⟩
      have D11 := Lib.hid x11
      have EX11 := Lib.hid (EX10.out.trans x11)
      clear x11
      clear C11
      have C12 := Lib.hid (norm_at A (S9.out.old (Ext.trans D10.out D11.out)) ((val_noughts _).trans HV1.out) (by omega))
      go_wp2_with fail
      refine C12.out.mono ?_
      rintro e w12 ⟨a12r, n12r, c12r, rfl, o12, x12, l12⟩
      have S12 := Lib.hid o12.sl
      clear o12
      have D12 := Lib.hid x12
      have EX12 := Lib.hid (EX11.out.trans x12)
      clear x12
      clear C12
      have C13 := Lib.hid (norm_at A (HA1.out.old EX12.out) HV1.out (by omega))
      go_wp2_with fail
      refine C13.out.mono ?_
      rintro e w13 ⟨a13r, n13r, c13r, rfl, o13, x13, l13⟩
      have S13 := Lib.hid o13.sl
      clear o13
      have D13 := Lib.hid x13
      have EX13 := Lib.hid (EX12.out.trans x13)
      clear x13
      clear C13
      have C14 := Lib.hid (hnat_yes (S12.out.old D13.out) S13.out rfl (by omega) (by omega))
      go_wp2_with fail
      refine C14.out.mono ?_
      rintro e w14 ⟨rfl, x14⟩
      have D14 := Lib.hid x14
      have EX14 := Lib.hid (EX13.out.trans x14)
      clear x14
      clear C14
      have C15 := Lib.hid (bits_at A LA (S9.out.old (Ext.trans D10.out (Ext.trans D11.out (Ext.trans D12.out (Ext.trans D13.out D14.out))))) ((val_noughts _).trans HV1.out) HLA.out (by omega))
      go_wp2_with fail
      refine C15.out.mono ?_
      rintro e w' ⟨rfl, rfl⟩
      clear C15
      have C16 := Lib.hid (bits_at A LA (HA1.out.old EX14.out) HV1.out HLA.out (by omega))
      go_wp2_with fail
      refine C16.out.mono ?_
      rintro e w' ⟨rfl, rfl⟩
      clear C16
      go_wp2_with fail
      go_ret
      exact ⟨rfl, EX14.out⟩
    · skip
      obtain ⟨u, hu⟩ : ∃ u, cmpN B C = u := ⟨_, rfl⟩
      have hu0 : u ≤ 0 := by rw [← hu]; exact cmpN_le hBC
      obtain ⟨v, hv⟩ : ∃ v, cmpN A C = v := ⟨_, rfl⟩
      have hv0 : ¬ (0 < v) := by have := cmpN_le (Nat.le_trans (show A ≤ B by have := HAB.out; omega) hBC); omega
      have HU := Lib.hid hu; have HVV := Lib.hid hv; clear hu hv hBC
      have C6 := Lib.hid (cmp_at B C u (HA2.out.old EX5.out) (HA3.out.old EX5.out) HV2.out HV3.out HU.out (by omega) (by omega))
      go_wp2_with fail
      refine C6.out.mono ?_
      rintro e w6 ⟨rfl, x6⟩
      have D6 := Lib.hid x6
      have EX6 := Lib.hid (EX5.out.trans x6)
      clear x6
      clear C6
      have C7 := Lib.hid (cmp_at A C v (HA1.out.old EX6.out) (HA3.out.old EX6.out) HV1.out HV3.out HVV.out (by omega) (by omega))
      go_wp2_with fail
      refine C7.out.mono ?_
      rintro e w7 ⟨rfl, x7⟩
      have D7 := Lib.hid x7
      have EX7 := Lib.hid (EX6.out.trans x7)
      clear x7
      clear C7
      have C8 := Lib.hid (copyrow_calls (HA1.out.old EX7.out) (by omega))
      go_wp2_with fail
      refine C8.out.mono ?_
      rintro e w8 ⟨vrow, rfl, hrow, x8⟩
      have HROW := Lib.hid hrow; clear hrow
      obtain ⟨ra, rc, hvr⟩ := row_slice' HROW.out
      subst hvr
      have D8 := Lib.hid x8
      have EX8 := Lib.hid (EX7.out.trans x8)
      clear x8
      obtain ⟨V9, hV⟩ : ∃ V, w8.alloc (.cells #[.int .u64 0, .int .u64 0] 33) = V := ⟨_, rfl⟩
      have S9 := Lib.hid (show Sl V9 (some ⟨w8.heap.size, 0, none⟩) 2 2 [0, 0] by rw [← hV]; exact lit00_at _)
      have x9 : Ext w8 V9 := by rw [← hV]; exact (Ext.refl _).alloc _
      have HROW2 := Lib.hid (show V9.ownsRow w7.heap.size 33 1 (.slice ra m1 rc) m1 (cells64 xs1) by rw [← hV]; exact World.ownsRow.alloc HROW.out _)
      have HV9 := Lib.hid hV; clear hV
      have D9 := Lib.hid x9
      have EX9 := Lib.hid (EX8.out.trans x9)
      clear x9
      obtain ⟨i0, hi, hz0, hs, hby⟩ := info_parts info64
      have H1 := Lib.hid hi; have H2 := Lib.hid hz0; have H3 := Lib.hid hs; have H4 := Lib.hid hby
      clear hi hz0 hs hby
      have HBV := Lib.hid (Ext.trans D8.out D9.out)
      go_wp2_with (first | (at_builtin; refine append_row_sl _ rfl _ _ _ rfl _ _ Tryz.underlying23 H1.out H2.out H3.out H4.out w7.heap.size _ _ _ rfl HROW2.out HBV.out.size _ _ _ _ rfl S9.out (by omega) HA1.out.bd ?_) | rw [HV9.out])
      intro a10r c10r w10 o10 g10
      have x10 : Ext w7 w10 := Below.grown HBV.out g10 HBV.out.size (fun k h => (World.ownsRow.lt HROW.out k h).1)
      have S10 := Lib.hid o10.sl; clear o10 g10
      have EX10 := Lib.hid (EX7.out.trans x10)
      clear x10
      have C11 := Lib.hid (cmp_at A A 0 S10.out (HA1.out.old EX10.out) ((val_noughts _).trans HV1.out) HV1.out (cmpN_eq rfl) (by omega) (by omega))
      go_wp2_with fail
      refine C11.out.mono ?_
      rintro e w11 ⟨rfl, x11⟩
      have D11 := Lib.hid x11
      have EX11 := Lib.hid (EX10.out.trans x11)
      clear x11
      clear C11
      have C12 := Lib.hid (cmp_at A B 0 (S10.out.old D11.out) (HA2.out.old EX11.out) ((val_noughts _).trans HV1.out) HV2.out HC1.out (by omega) (by omega))
      go_wp2_with fail
      refine C12.out.mono ?_
      rintro e w12 ⟨rfl, x12⟩
      have D12 := Lib.hid x12
      have EX12 := Lib.hid (EX11.out.trans x12)
      clear x12
      clear C12
      have C13 := Lib.hid (norm_at A (S10.out.old (Ext.trans D11.out D12.out)) ((val_noughts _).trans HV1.out) (by omega))
      go_wp2_with fail
      refine C13.out.mono ?_
      rintro e w13 ⟨a13r, n13r, c13r, rfl, o13, x13, l13⟩
      have S13 := Lib.hid o13.sl
      clear o13
      have D13 := Lib.hid x13
      have EX13 := Lib.hid (EX12.out.trans x13)
      clear x13
      clear C13
      have C14 := Lib.hid (norm_at A (HA1.out.old EX13.out) HV1.out (by omega))
      go_wp2_with fail
      refine C14.out.mono ?_
      rintro e w14 ⟨a14r, n14r, c14r, rfl, o14, x14, l14⟩
      have S14 := Lib.hid o14.sl
      clear o14
      have D14 := Lib.hid x14
      have EX14 := Lib.hid (EX13.out.trans x14)
      clear x14
      clear C14
      have C15 := Lib.hid (hnat_yes (S13.out.old D14.out) S14.out rfl (by omega) (by omega))
      go_wp2_with fail
      refine C15.out.mono ?_
      rintro e w15 ⟨rfl, x15⟩
      have D15 := Lib.hid x15
      have EX15 := Lib.hid (EX14.out.trans x15)
      clear x15
      clear C15
      have C16 := Lib.hid (bits_at A LA (S10.out.old (Ext.trans D11.out (Ext.trans D12.out (Ext.trans D13.out (Ext.trans D14.out D15.out))))) ((val_noughts _).trans HV1.out) HLA.out (by omega))
      go_wp2_with fail
      refine C16.out.mono ?_
      rintro e w' ⟨rfl, rfl⟩
      clear C16
      have C17 := Lib.hid (bits_at A LA (HA1.out.old EX15.out) HV1.out HLA.out (by omega))
      go_wp2_with fail
      refine C17.out.mono ?_
      rintro e w' ⟨rfl, rfl⟩
      clear C17
      go_wp2_with fail
      go_ret
      exact ⟨rfl, EX15.out⟩
  · skip
    have HC1 := Lib.hid (show cmpN A B = 1 from cmpN_gt hAB)
    have HC2 := Lib.hid (show cmpN B A = (-1) from cmpN_lt hAB)
    have HAB := Lib.hid hAB
    have hbl : ¬ ((LA : Int) < (LB : Int)) := by have := bitLen_mono (Nat.le_of_lt hAB); omega
    clear hAB hLA hLB
    have C1 := Lib.hid (cmp_at A B 1 (HA1.out.old EX2.out) (HA2.out.old EX2.out) HV1.out HV2.out HC1.out (by omega) (by omega))
    go_wp2_with fail
    refine C1.out.mono ?_
    rintro e w1 ⟨rfl, x1⟩
    have D3 := Lib.hid x1
    have EX3 := Lib.hid (EX2.out.trans x1)
    clear x1
    clear C1
    have C2 := Lib.hid (cmp_at B A (-1) (HA2.out.old EX3.out) (HA1.out.old EX3.out) HV2.out HV1.out HC2.out (by omega) (by omega))
    go_wp2_with fail
    refine C2.out.mono ?_
    rintro e w2 ⟨rfl, x2⟩
    have D4 := Lib.hid x2
    have EX4 := Lib.hid (EX3.out.trans x2)
    clear x2
    clear C2
    obtain ⟨DD, hDD⟩ : ∃ X, A = X + B := ⟨A - B, by have := HAB.out; omega⟩
    have HDD := Lib.hid hDD; clear hDD
    have C3 := Lib.hid (sub_at A B DD (HA1.out.old EX4.out) (HA2.out.old EX4.out) HV1.out HV2.out HDD.out (by omega) (by omega))
    go_wp2_with fail
    refine C3.out.mono ?_
    rintro e w3 ⟨a3r, n3r, c3r, rfl, o3, x3, l3⟩
    have S3 := Lib.hid o3.sl
    clear o3
    have D5 := Lib.hid x3
    have EX5 := Lib.hid (EX4.out.trans x3)
    clear x3
    clear C3
    have z0 : ¬ n3r = 0 := fun h => by have h1 := S3.out.len_zero.1 h; have h2 := HDD.out; have h3 := HAB.out; omega
    have z1 : (0 : Int) < (n3r : Int) := by omega
    have C4 := Lib.hid (bits_at A LA (HA1.out.old EX5.out) HV1.out HLA.out (by omega))
    go_wp2_with fail
    refine C4.out.mono ?_
    rintro e w' ⟨rfl, rfl⟩
    clear C4
    have C5 := Lib.hid (bits_at B LB (HA2.out.old EX5.out) HV2.out HLB.out (by omega))
    go_wp2_with fail
    refine C5.out.mono ?_
    rintro e w' ⟨rfl, rfl⟩
    clear C5
    have C6 := Lib.hid (copyrow_calls (HA1.out.old EX5.out) (by omega))
    go_wp2_with fail
    refine C6.out.mono ?_
    rintro e w6 ⟨vrow, rfl, hrow, x6⟩
    have HROW := Lib.hid hrow; clear hrow
    obtain ⟨ra, rc, hvr⟩ := row_slice' HROW.out
    subst hvr
    have D6 := Lib.hid x6
    have EX6 := Lib.hid (EX5.out.trans x6)
    clear x6
    obtain ⟨V7, hV⟩ : ∃ V, w6.alloc (.cells #[.int .u64 0, .int .u64 0] 33) = V := ⟨_, rfl⟩
    have S7 := Lib.hid (show Sl V7 (some ⟨w6.heap.size, 0, none⟩) 2 2 [0, 0] by rw [← hV]; exact lit00_at _)
    have x7 : Ext w6 V7 := by rw [← hV]; exact (Ext.refl _).alloc _
    have HROW2 := Lib.hid (show V7.ownsRow w3.heap.size 33 1 (.slice ra m1 rc) m1 (cells64 xs1) by rw [← hV]; exact World.ownsRow.alloc HROW.out _)
    have HV7 := Lib.hid hV; clear hV
    have D7 := Lib.hid x7
    have EX7 := Lib.hid (EX6.out.trans x7)
    clear x7
    obtain ⟨i0, hi, hz0, hs, hby⟩ := info_parts info64
    have H1 := Lib.hid hi; have H2 := Lib.hid hz0; have H3 := Lib.hid hs; have H4 := Lib.hid hby
    clear hi hz0 hs hby
    have HBV := Lib.hid (Ext.trans D6.out D7.out)
    go_wp2_with (first | (at_builtin; refine append_row_sl _ rfl _ _ _ rfl _ _ Tryz.underlying23 H1.out H2.out H3.out H4.out w3.heap.size _ _ _ rfl HROW2.out HBV.out.size _ _ _ _ rfl S7.out (by omega) HA1.out.bd ?_) | rw [HV7.out])
    intro a8r c8r w8 o8 g8
    have x8 : Ext w3 w8 := Below.grown HBV.out g8 HBV.out.size (fun k h => (World.ownsRow.lt HROW.out k h).1)
    have S8 := Lib.hid o8.sl; clear o8 g8
    have EX8 := Lib.hid (EX5.out.trans x8)
    clear x8
    have C9 := Lib.hid (cmp_at A A 0 S8.out (HA1.out.old EX8.out) ((val_noughts _).trans HV1.out) HV1.out (cmpN_eq rfl) (by omega) (by omega))
    go_wp2_with fail
    refine C9.out.mono ?_
    rintro e w9 ⟨rfl, x9⟩
    have D9 := Lib.hid x9
    have EX9 := Lib.hid (EX8.out.trans x9)
    clear x9
    clear C9
    have C10 := Lib.hid (cmp_at A B 1 (S8.out.old D9.out) (HA2.out.old EX9.out) ((val_noughts _).trans HV1.out) HV2.out HC1.out (by omega) (by omega))
    go_wp2_with fail
    refine C10.out.mono ?_
    rintro e w10 ⟨rfl, x10⟩
    have D10 := Lib.hid x10
    have EX10 := Lib.hid (EX9.out.trans x10)
    clear x10
    clear C10
    have C11 := Lib.hid (norm_at A (S8.out.old (Ext.trans D9.out D10.out)) ((val_noughts _).trans HV1.out) (by omega))
    go_wp2_with fail
    refine C11.out.mono ?_
    rintro e w11 ⟨a11r, n11r, c11r, rfl, o11, x11, l11⟩
    have S11 := Lib.hid o11.sl
    clear o11
    have D11 := Lib.hid x11
    have EX11 := Lib.hid (EX10.out.trans x11)
    clear x11
    clear C11
    have C12 := Lib.hid (norm_at A (HA1.out.old EX11.out) HV1.out (by omega))
    go_wp2_with fail
    refine C12.out.mono ?_
    rintro e w12 ⟨a12r, n12r, c12r, rfl, o12, x12, l12⟩
    have S12 := Lib.hid o12.sl
    clear o12
    have D12 := Lib.hid x12
    have EX12 := Lib.hid (EX11.out.trans x12)
    clear x12
    clear C12
    have C13 := Lib.hid (hnat_yes (S11.out.old D12.out) S12.out rfl (by omega) (by omega))
    go_wp2_with fail
    refine C13.out.mono ?_
    rintro e w13 ⟨rfl, x13⟩
    have D13 := Lib.hid x13
    have EX13 := Lib.hid (EX12.out.trans x13)
    clear x13
    clear C13
    have C14 := Lib.hid (bits_at A LA (S8.out.old (Ext.trans D9.out (Ext.trans D10.out (Ext.trans D11.out (Ext.trans D12.out D13.out))))) ((val_noughts _).trans HV1.out) HLA.out (by omega))
    go_wp2_with fail
    refine C14.out.mono ?_
    rintro e w' ⟨rfl, rfl⟩
    clear C14
    have C15 := Lib.hid (bits_at A LA (HA1.out.old EX13.out) HV1.out HLA.out (by omega))
    go_wp2_with fail
    refine C15.out.mono ?_
    rintro e w' ⟨rfl, rfl⟩
    clear C15
    go_wp2_with fail
    go_ret
    exact ⟨rfl, EX13.out⟩

end Go.Proofs.YtkdkgmnjhimdeaaGreatDoor
