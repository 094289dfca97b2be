/- gleanlaw1.NatPowers: the walk. -/
import Derived.Test.YtkdkgmnjhimdeaaGreatDoorKnown1
namespace Go.Proofs.YtkdkgmnjhimdeaaGreatDoor
open Go.RowKit Go.Lib

theorem text_len {a : Option Addr} {n c : Nat} {xs : List Nat} {w : World} (k : Nat) (ha : Sl w a n c xs) (hx : val xs = 10 ^ k) (hn : n ≤ 100000) (ht : Tab w) :
    ∃ st : ByteArray, st.size = k + 1 ∧ Calls Tryz.prog 50 #[.slice a n c] w (RetE (.string st) w) := by
  refine ⟨⟨(decDigits (10 ^ k)).toArray⟩, ?_, ?_⟩
  · rw [str_size, decDigits_length]
    exact nDigits_unique k (10 ^ k) (Nat.le_refl _) (Nat.pow_lt_pow_right (by decide) (Nat.lt_succ_self k))
  · rw [← hx]; exact text_calls ha (by omega) ht
theorem low_val {D j v : Nat} (hj : j < D) : val ((List.replicate D 0).set j v) = B64 ^ j * v := by
  have h := nv_set B64 (List.replicate D 0) j v (by rw [List.length_replicate]; exact hj)
  rw [nv_replicate, List.getElem_replicate, Nat.mul_zero, Nat.add_zero, Nat.zero_add] at h
  exact h
theorem low_pow {L j t : Nat} (h : L = 64 * j + t) : B64 ^ j * 2 ^ t = 2 ^ L := by
  rw [h, Nat.pow_add, Nat.pow_mul]; rfl
theorem bits_low {a : Option Addr} {m c X LA : Nat} {xs : List Nat} {w : World} (ha : Sl w a m c xs) (hx : val xs = X) (hm : m ≤ 60) (h1 : bitLen X = LA) : LA ≤ 3840 := by
  have b1 := nv_lt ha.bd
  rw [ha.len, show B64 ^ m = 2 ^ (64 * m) by rw [Nat.pow_mul]; rfl] at b1
  have c1 := bitLen_le b1
  have d1 : nv B64 xs = X := hx
  rw [d1, h1] at c1
  omega

set_option maxHeartbeats 16000000 in
set_option maxRecDepth 100000 in
theorem npow_law {a1 : Option Addr} {m1 c1 : Nat} {xs1 : List Nat} {w : World} {n2 n3 : Int} (hn2 : -9223372036854775808 ≤ n2 ∧ n2 ≤ 9223372036854775807) (hn3 : -9223372036854775808 ≤ n3 ∧ n3 ≤ 9223372036854775807) (ha1 : Sl w a1 m1 c1 xs1) (htab : Tab w) (htz : TzTab w) :
    Calls Tryz.prog 13 #[.slice a1 m1 c1, .int .i64 n2, .int .i64 n3] w (RetE (.bool true) w) := by
  obtain ⟨A, hv1⟩ : ∃ X, val xs1 = X := ⟨_, rfl⟩
  have HV1 := Lib.hid hv1; have HA1 := Lib.hid ha1
  have HTZ := Lib.hid htz; have HT := Lib.hid htab
  have CK := Lib.hid (known1_calls w htab htz)
  clear hv1 ha1 htab htz
  go_enter Tryz.func13, Tryz.ntmps13
  go_wp2_with fail
  refine CK.out.mono ?_
  rintro e w0 ⟨rfl, hx0⟩
  have D1 := Lib.hid hx0
  have EX1 := Lib.hid hx0
  clear hx0
  clear CK
  obtain ⟨Z, hZ⟩ : ∃ Z, w0.alloc (.cells #[.slice a1 m1 c1] 23) = Z := ⟨_, rfl⟩
  have hxz : Ext w0 Z := by rw [← hZ]; exact (Ext.refl _).alloc _
  by_cases h60 : m1 ≤ 60
  rotate_left
  · have HSM := Lib.hid (sm_no1 w0 a1 m1 c1 h60)
    rw [hZ] at HSM
    have HZ := Lib.hid hZ; have HEZ := Lib.hid (EX1.out.trans hxz)
    clear hZ hxz
    go_wp2_with (rw [HZ.out])
    refine HSM.out.mono ?_
    rintro e w' ⟨rfl, rfl⟩
    go_wp2_with fail
    go_ret
    exact ⟨rfl, HEZ.out⟩
  have HSM := Lib.hid (sm_yes1 w0 a1 m1 c1 h60)
  rw [hZ] at HSM
  have HZ := Lib.hid hZ
  clear hZ
  have D2 := Lib.hid hxz
  have EX2 := Lib.hid (EX1.out.trans hxz)
  clear hxz
  go_wp2_with (rw [HZ.out])
  refine HSM.out.mono ?_
  rintro e w' ⟨rfl, rfl⟩
  clear HSM
  obtain ⟨LA, hLA⟩ : ∃ X, bitLen A = X := ⟨_, rfl⟩
  have HLA := Lib.hid hLA
  have hLAb := bits_low HA1.out HV1.out h60 hLA
  have HGE := Lib.hid (fun (h : A ≠ 0) => bitLen_ge h); have HLT := Lib.hid (bitLen_lt A)
  have HA0 := Lib.hid (show LA = 0 → A = 0 from fun h => by have := bitLen_lt A; rw [hLA, h] at this; simpa using this)
  rw [hLA] at HGE HLT
  clear hLA
  obtain ⟨r1, hr1, CP1⟩ := hplace_calls n2 hn2 600 (by decide) Z
  obtain ⟨r2, hr2, CP2⟩ := hplace_calls n3 hn3 600 (by decide) Z
  have HP1 := Lib.hid CP1; have HP2 := Lib.hid CP2; clear CP1 CP2 hn2 hn3
  have C1 := Lib.hid (HP1.out)
  go_wp2_with fail
  refine C1.out.mono ?_
  rintro e w' ⟨rfl, rfl⟩
  clear C1
  have C2 := Lib.hid (HP2.out)
  go_wp2_with fail
  refine C2.out.mono ?_
  rintro e w' ⟨rfl, rfl⟩
  clear C2
  obtain ⟨s, hs⟩ : ∃ s : Nat, (r1 : Int) + (r2 : Int) = (s : Int) := ⟨r1 + r2, by omega⟩
  have hs2 : s ≤ 1198 := by omega
  obtain ⟨P1, hP1⟩ : ∃ X, 10 ^ r1 = X := ⟨_, rfl⟩
  obtain ⟨P2, hP2⟩ : ∃ X, 10 ^ r2 = X := ⟨_, rfl⟩
  obtain ⟨P3, hP3⟩ : ∃ X, 10 ^ s = X := ⟨_, rfl⟩
  have H12 := Lib.hid (show P1 * P2 = P3 by rw [← hP1, ← hP2, ← hP3, ← Nat.pow_add]; congr 1; omega)
  have K1 := Lib.hid hP1; have K2 := Lib.hid hP2; have K3 := Lib.hid hP3; clear hP1 hP2 hP3
  have C3 := Lib.hid (pow10_at r1 P1 (by omega) K1.out Z)
  go_wp2_with fail
  refine C3.out.mono ?_
  rintro e w3 ⟨a3r, n3r, c3r, rfl, o3, x3, l3⟩
  have S3 := Lib.hid o3.sl
  clear o3
  have D3 := Lib.hid x3
  have EX3 := Lib.hid (EX2.out.trans x3)
  clear x3
  clear C3
  have C4 := Lib.hid (pow10_at r2 P2 (by omega) K2.out w3)
  go_wp2_with fail
  refine C4.out.mono ?_
  rintro e w4 ⟨a4r, n4r, c4r, rfl, o4, x4, l4⟩
  have S4 := Lib.hid o4.sl
  clear o4
  have D4 := Lib.hid x4
  have EX4 := Lib.hid (EX3.out.trans x4)
  clear x4
  clear C4
  have C5 := Lib.hid (pow10_at s P3 (by omega) K3.out w4)
  go_wp2_with fail
  refine C5.out.mono ?_
  rintro e w5 ⟨a5r, n5r, c5r, rfl, o5, x5, l5⟩
  have S5 := Lib.hid o5.sl
  clear o5
  have D5 := Lib.hid x5
  have EX5 := Lib.hid (EX4.out.trans x5)
  clear x5
  clear C5
  have C6 := Lib.hid (mul_at P1 P2 P3 (S3.out.old (Ext.trans D4.out D5.out)) (S4.out.old D5.out) (val_lim _) (val_lim _) H12.out (by omega) (by omega))
  go_wp2_with fail
  refine C6.out.mono ?_
  rintro e w6 ⟨a6r, n6r, c6r, rfl, o6, x6, l6⟩
  have S6 := Lib.hid o6.sl
  clear o6
  have D6 := Lib.hid x6
  have EX6 := Lib.hid (EX5.out.trans x6)
  clear x6
  clear C6
  have C7 := Lib.hid (hnat_yes S6.out (S5.out.old D6.out) rfl (by omega) (by omega))
  go_wp2_with fail
  refine C7.out.mono ?_
  rintro e w7 ⟨rfl, x7⟩
  have D7 := Lib.hid x7
  have EX7 := Lib.hid (EX6.out.trans x7)
  clear x7
  clear C7
  obtain ⟨tx, htx, CT⟩ := text_len r1 (S3.out.old (Ext.trans D4.out (Ext.trans D5.out (Ext.trans D6.out D7.out)))) ((val_lim _).trans K1.out.symm) (by omega) (HT.out.old EX7.out)
  have HCT := Lib.hid CT; clear CT
  have C8 := Lib.hid (HCT.out)
  go_wp2_with fail
  refine C8.out.mono ?_
  rintro e w8 ⟨rfl, x8⟩
  have D8 := Lib.hid x8
  have EX8 := Lib.hid (EX7.out.trans x8)
  clear x8
  clear C8
  have C9 := Lib.hid (bits_at A LA (HA1.out.old EX8.out) HV1.out HLA.out (by omega))
  go_wp2_with fail
  refine C9.out.mono ?_
  rintro e w' ⟨rfl, rfl⟩
  clear C9
  by_cases hb0 : LA = 0
  · skip
    have HZ0 := Lib.hid (HA0.out hb0)
    subst hb0
    have C10 := Lib.hid (norm_at A (HA1.out.old EX8.out) HV1.out (by omega))
    go_wp2_with fail
    refine C10.out.mono ?_
    rintro e w10 ⟨a10r, n10r, c10r, rfl, o10, x10, l10⟩
    have S10 := Lib.hid o10.sl
    clear o10
    have D9 := Lib.hid x10
    have EX9 := Lib.hid (EX8.out.trans x10)
    clear x10
    clear C10
    have z1 : n10r = 0 := S10.out.len_zero.2 HZ0.out
    subst z1
    go_wp2_with fail
    go_ret
    exact ⟨rfl, EX9.out⟩
  · skip
    have g0 : ((LA : Int) == 0) = false := by rw [beq_eq_false_iff_ne]; omega
    have hA0 : A ≠ 0 := fun h => hb0 (by rw [← HLA.out, h]; rfl)
    obtain ⟨D, hD⟩ : ∃ D, LA / 64 = D := ⟨_, rfl⟩
    obtain ⟨j, hj⟩ : ∃ j, (LA - 1) / 64 = j := ⟨_, rfl⟩
    obtain ⟨t, ht⟩ : ∃ t, (LA - 1) % 64 = t := ⟨_, rfl⟩
    have f1 : (LA : Int).tdiv 64 = (D : Int) := by rw [Int.tdiv_eq_ediv_of_nonneg (by omega)]; omega
    have f2 : ((LA : Int) - 1).tdiv 64 = (j : Int) := by rw [Int.tdiv_eq_ediv_of_nonneg (by omega)]; omega
    have f3 : ((LA : Int) - 1).tmod 64 = (t : Int) := by rw [Int.tmod_eq_emod_of_nonneg (by omega)]; omega
    have hD60 : D ≤ 60 := by omega
    have hjD : j < D + 1 := by omega
    have ht64 : t < 64 := by omega
    have w1 : IntKind.i64.wrap (D : Int) = (D : Int) := IntWalk.i64_in _ (by omega)
    have w2 : IntKind.i64.wrap (j : Int) = (j : Int) := IntWalk.i64_in _ (by omega)
    have HLOW := Lib.hid (show B64 ^ j * 2 ^ t = 2 ^ (LA - 1) from low_pow (by omega))
    have HTOP := Lib.hid (show 2 ^ (LA - 1) + 2 ^ (LA - 1) = 2 ^ LA by rw [← Nat.two_mul, ← Nat.pow_succ']; congr 1; omega)
    have HG := Lib.hid (HGE.out hA0)
    obtain ⟨v, hv⟩ : ∃ v, 2 ^ t = v := ⟨_, rfl⟩
    have hvB : v < B64 := by rw [← hv]; exact Nat.pow_lt_pow_right (by decide) ht64
    have e1 : (1 : Int) * 2 ^ t = (v : Int) := by rw [← hv]; simp
    have e2 : (2 : Int) ^ t = (v : Int) := by rw [← hv]; simp
    have e3 : IntKind.u64.wrap (v : Int) = (v : Int) := IntWalk.u64_in _ (by rw [B64_eq] at hvB; omega)
    rw [hv] at HLOW
    obtain ⟨P, hP⟩ : ∃ P, 2 ^ (LA - 1) = P := ⟨_, rfl⟩
    obtain ⟨Q, hQ⟩ : ∃ Q, 2 ^ LA = Q := ⟨_, rfl⟩
    rw [hP] at HLOW HTOP HG; rw [hQ] at HTOP HLT
    obtain ⟨u, hu⟩ : ∃ u, cmpN P A = u := ⟨_, rfl⟩
    have hu0 : u ≤ 0 := by rw [← hu]; have h := HG.out; unfold cmpN; split <;> first | decide | (split <;> first | decide | omega)
    have HU := Lib.hid hu; have HC2 := Lib.hid (cmpN_lt HLT.out)
    clear hv hD hj ht hP hQ hu hb0 hA0
    obtain ⟨i0, hi, hz0, hs, hby⟩ := info_parts info64
    have H1 := Lib.hid hi; have H2 := Lib.hid hz0; have H3 := Lib.hid hs; have H4 := Lib.hid hby
    clear hi hz0 hs hby
    go_wp2_with (at_make; refine make_sl _ rfl _ _ _ rfl _ _ Tryz.underlying23 H1.out H2.out H3.out H4.out _ _ rfl rfl (D + 1) (by omega) (by omega) (by omega) ?_)
    intro o wm hown hext
    obtain ⟨bo, oo, hixo, hco, hao⟩ := hown.sl.ix (P := Tryz.prog) Tryz.underlying23 H1.out H3.out
    have x3 := hixo j hjD
    have x4 := hco j hjD
    have x5 := hown.free (hao (by omega)) (oo + j)
    have hst := hown.store (hao (by omega)) j v hjD hvB
    obtain ⟨W2, hW2⟩ : ∃ W, wm.setCell ⟨bo, oo + j, none⟩ (.int .u64 (v : Int)) = W := ⟨_, rfl⟩
    rw [hW2] at hst
    have hx2 : Ext w8 W2 := Ext.grown' hext hown (Nat.le_refl _) hst.2
    have SLOW := Lib.hid hst.1.sl
    have HVL := Lib.hid (show val ((List.replicate (D + 1) 0).set j v) = P from (low_val hjD).trans HLOW.out)
    have HW2 := Lib.hid hW2
    clear hixo hco hao hown hext hst hW2
    have D9 := Lib.hid hx2
    have EX9 := Lib.hid (EX8.out.trans hx2)
    clear hx2
    have C10 := Lib.hid (cmp_at P A u SLOW.out (HA1.out.old EX9.out) HVL.out HV1.out HU.out (by omega) (by omega))
    go_wp2_with (rw [HW2.out])
    refine C10.out.mono ?_
    rintro e w10 ⟨rfl, x10⟩
    have D10 := Lib.hid x10
    have EX10 := Lib.hid (EX9.out.trans x10)
    clear x10
    clear C10
    have C11 := Lib.hid (add_at P P Q (SLOW.out.old D10.out) (SLOW.out.old D10.out) HVL.out HVL.out HTOP.out (by omega) (by omega))
    go_wp2_with fail
    refine C11.out.mono ?_
    rintro e w11 ⟨a11r, n11r, c11r, rfl, o11, x11, l11⟩
    have S11 := Lib.hid o11.sl
    clear o11
    have D11 := Lib.hid x11
    have EX11 := Lib.hid (EX10.out.trans x11)
    clear x11
    clear C11
    have C12 := Lib.hid (cmp_at A Q (-1) (HA1.out.old EX11.out) S11.out HV1.out (val_lim _) HC2.out (by omega) (by omega))
    go_wp2_with fail
    refine C12.out.mono ?_
    rintro e w12 ⟨rfl, x12⟩
    have D12 := Lib.hid x12
    have EX12 := Lib.hid (EX11.out.trans x12)
    clear x12
    clear C12
    go_wp2_with fail
    go_ret
    exact ⟨rfl, EX12.out⟩

end Go.Proofs.YtkdkgmnjhimdeaaGreatDoor
