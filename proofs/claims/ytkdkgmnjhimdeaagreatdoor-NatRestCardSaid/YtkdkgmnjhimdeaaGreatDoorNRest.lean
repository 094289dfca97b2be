/- gleanlaw1.NatRest: the walk. -/
import Derived.Test.YtkdkgmnjhimdeaaGreatDoorKnown1
namespace Go.Proofs.YtkdkgmnjhimdeaaGreatDoor
open Go.RowKit

set_option maxHeartbeats 16000000 in
set_option maxRecDepth 100000 in
theorem nrest_law {a1 : Option Addr} {m1 c1 : Nat} {xs1 : List Nat} {a2 : Option Addr} {m2 c2 : Nat} {xs2 : List Nat} {a3 : Option Addr} {m3 c3 : Nat} {xs3 : List Nat} {w : World} (ha1 : Sl w a1 m1 c1 xs1) (ha2 : Sl w a2 m2 c2 xs2) (ha3 : Sl w a3 m3 c3 xs3) (htab : Tab w) (htz : TzTab w) :
    Calls Tryz.prog 9 #[.slice a1 m1 c1, .slice a2 m2 c2, .slice a3 m3 c3] w (RetE (.bool true) w) := by
  obtain ⟨A, hv1⟩ : ∃ X, val xs1 = X := ⟨_, rfl⟩
  have HV1 := Lib.hid hv1; have HA1 := Lib.hid ha1
  obtain ⟨B, hv2⟩ : ∃ X, val xs2 = X := ⟨_, rfl⟩
  have HV2 := Lib.hid hv2; have HA2 := Lib.hid ha2
  obtain ⟨C, hv3⟩ : ∃ X, val xs3 = X := ⟨_, rfl⟩
  have HV3 := Lib.hid hv3; have HA3 := Lib.hid ha3
  have HTZ := Lib.hid htz; have HT := Lib.hid htab
  have CK := Lib.hid (known1_calls w htab htz)
  clear hv1 ha1 hv2 ha2 hv3 ha3 htab htz
  go_enter Tryz.func9, Tryz.ntmps9
  go_wp2_with fail
  refine CK.out.mono ?_
  rintro e w0 ⟨rfl, hx0⟩
  have D1 := Lib.hid hx0
  have EX1 := Lib.hid hx0
  clear hx0
  clear CK
  obtain ⟨Z, hZ⟩ : ∃ Z, w0.alloc (.cells #[.slice a1 m1 c1, .slice a2 m2 c2, .slice a3 m3 c3] 23) = Z := ⟨_, rfl⟩
  have hxz : Ext w0 Z := by rw [← hZ]; exact (Ext.refl _).alloc _
  by_cases h60 : m1 ≤ 60 ∧ m2 ≤ 60 ∧ m3 ≤ 60
  rotate_left
  · have HSM := Lib.hid (sm_no3 w0 a1 m1 c1 a2 m2 c2 a3 m3 c3 h60)
    rw [hZ] at HSM
    have HZ := Lib.hid hZ; have HEZ := Lib.hid (EX1.out.trans hxz)
    clear hZ hxz
    go_wp2_with (rw [HZ.out])
    refine HSM.out.mono ?_
    rintro e w' ⟨rfl, rfl⟩
    go_wp2_with fail
    go_ret
    exact ⟨rfl, HEZ.out⟩
  have HSM := Lib.hid (sm_yes3 w0 a1 m1 c1 a2 m2 c2 a3 m3 c3 h60)
  rw [hZ] at HSM
  have HZ := Lib.hid hZ
  obtain ⟨q1, q2, q3⟩ := h60
  clear hZ
  have D2 := Lib.hid hxz
  have EX2 := Lib.hid (EX1.out.trans hxz)
  clear hxz
  go_wp2_with (rw [HZ.out])
  refine HSM.out.mono ?_
  rintro e w' ⟨rfl, rfl⟩
  clear HSM
  by_cases hB : B = 0
  · skip
    have HB0 := Lib.hid (HV2.out.trans hB)
    have C1 := Lib.hid (divmod_no A (HA1.out.old EX2.out) (HA2.out.old EX2.out) HB0.out (by omega) (by omega))
    go_wp2_with fail
    refine C1.out.mono ?_
    rintro e w1 ⟨a1q, c1q, n1q, a1r, c1r, n1r, rfl, o1q, o1r, x1, l1q, l1r, -⟩
    have S1q := Lib.hid o1q.sl; have S1r := Lib.hid o1r.sl
    clear o1q o1r
    have D3 := Lib.hid x1
    have EX3 := Lib.hid (EX2.out.trans x1)
    clear x1
    clear C1
    have z1 : n1q = 0 := by have := S1q.out.len; simpa using this.symm
    have z2 : n1r = 0 := by have := S1r.out.len; simpa using this.symm
    have C2 := Lib.hid (norm_at B (HA2.out.old EX3.out) HV2.out (by omega))
    go_wp2_with fail
    refine C2.out.mono ?_
    rintro e w2 ⟨a2r, n2r, c2r, rfl, o2, x2, l2⟩
    have S2 := Lib.hid o2.sl
    clear o2
    have D4 := Lib.hid x2
    have EX4 := Lib.hid (EX3.out.trans x2)
    clear x2
    clear C2
    have z3 : n2r = 0 := S2.out.len_zero.2 hB
    subst z1 z2 z3
    go_wp2_with fail
    go_ret
    exact ⟨rfl, EX4.out⟩
  · skip
    have HB0 := Lib.hid hB
    obtain ⟨Q, hQ⟩ : ∃ X, A / B = X := ⟨_, rfl⟩
    obtain ⟨R, hR⟩ : ∃ X, A % B = X := ⟨_, rfl⟩
    obtain ⟨Q2, hQ2⟩ : ∃ X, A * C / B = X := ⟨_, rfl⟩
    obtain ⟨R2, hR2⟩ : ∃ X, A * C % B = X := ⟨_, rfl⟩
    have HQ := Lib.hid hQ; have HR := Lib.hid hR; have HQ2 := Lib.hid hQ2; have HR2 := Lib.hid hR2
    have HLT := Lib.hid (cmpN_lt (show R < B by rw [← hR]; exact Nat.mod_lt _ (by omega)))
    have HSUM := Lib.hid (show Q * B + R = A by rw [← hQ, ← hR, Nat.mul_comm]; exact Nat.div_add_mod A B)
    clear hQ hR hQ2 hR2
    have C1 := Lib.hid (divmod_at A B Q R (HA1.out.old EX2.out) (HA2.out.old EX2.out) HV1.out HV2.out HB0.out HQ.out HR.out (by omega) (by omega))
    go_wp2_with fail
    refine C1.out.mono ?_
    rintro e w1 ⟨a1q, c1q, n1q, a1r, c1r, n1r, rfl, o1q, o1r, x1, l1q, l1r, -⟩
    have S1q := Lib.hid o1q.sl; have S1r := Lib.hid o1r.sl
    clear o1q o1r
    have D3 := Lib.hid x1
    have EX3 := Lib.hid (EX2.out.trans x1)
    clear x1
    clear C1
    have C2 := Lib.hid (norm_at B (HA2.out.old EX3.out) HV2.out (by omega))
    go_wp2_with fail
    refine C2.out.mono ?_
    rintro e w2 ⟨a2r, n2r, c2r, rfl, o2, x2, l2⟩
    have S2 := Lib.hid o2.sl
    clear o2
    have D4 := Lib.hid x2
    have EX4 := Lib.hid (EX3.out.trans x2)
    clear x2
    clear C2
    have z3 : ¬ n2r = 0 := fun h => HB0.out (S2.out.len_zero.1 h)
    have z4 : ((n2r : Int) == 0) = false := by rw [beq_eq_false_iff_ne]; omega
    have C3 := Lib.hid (cmp_at R B (-1) (S1r.out.old D4.out) (HA2.out.old EX4.out) (val_lim _) HV2.out HLT.out (by omega) (by omega))
    go_wp2_with fail
    refine C3.out.mono ?_
    rintro e w3 ⟨rfl, x3⟩
    have D5 := Lib.hid x3
    have EX5 := Lib.hid (EX4.out.trans x3)
    clear x3
    clear C3
    have C4 := Lib.hid (mul_at Q B (Q * B) (S1q.out.old (Ext.trans D4.out D5.out)) (HA2.out.old EX5.out) (val_lim _) HV2.out rfl (by omega) (by omega))
    go_wp2_with fail
    refine C4.out.mono ?_
    rintro e w4 ⟨a4r, n4r, c4r, rfl, o4, x4, l4⟩
    have S4 := Lib.hid o4.sl
    clear o4
    have D6 := Lib.hid x4
    have EX6 := Lib.hid (EX5.out.trans x4)
    clear x4
    clear C4
    have C5 := Lib.hid (add_at (Q * B) R A S4.out (S1r.out.old (Ext.trans D4.out (Ext.trans D5.out D6.out))) (val_lim _) (val_lim _) HSUM.out (by omega) (by omega))
    go_wp2_with fail
    refine C5.out.mono ?_
    rintro e w5 ⟨a5r, n5r, c5r, rfl, o5, x5, l5⟩
    have S5 := Lib.hid o5.sl
    clear o5
    have D7 := Lib.hid x5
    have EX7 := Lib.hid (EX6.out.trans x5)
    clear x5
    clear C5
    have C6 := Lib.hid (norm_at A (HA1.out.old EX7.out) HV1.out (by omega))
    go_wp2_with fail
    refine C6.out.mono ?_
    rintro e w6 ⟨a6r, n6r, c6r, rfl, o6, x6, l6⟩
    have S6 := Lib.hid o6.sl
    clear o6
    have D8 := Lib.hid x6
    have EX8 := Lib.hid (EX7.out.trans x6)
    clear x6
    clear C6
    have C7 := Lib.hid (hnat_yes (S5.out.old D8.out) S6.out rfl (by omega) (by omega))
    go_wp2_with fail
    refine C7.out.mono ?_
    rintro e w7 ⟨rfl, x7⟩
    have D9 := Lib.hid x7
    have EX9 := Lib.hid (EX8.out.trans x7)
    clear x7
    clear C7
    have C8 := Lib.hid (hnormal_calls (S1q.out.old (Ext.trans D4.out (Ext.trans D5.out (Ext.trans D6.out (Ext.trans D7.out (Ext.trans D8.out D9.out)))))) (by omega))
    go_wp2_with fail
    refine C8.out.mono ?_
    rintro e w' ⟨rfl, rfl⟩
    clear C8
    have C9 := Lib.hid (hnormal_calls (S1r.out.old (Ext.trans D4.out (Ext.trans D5.out (Ext.trans D6.out (Ext.trans D7.out (Ext.trans D8.out D9.out)))))) (by omega))
    go_wp2_with fail
    refine C9.out.mono ?_
    rintro e w' ⟨rfl, rfl⟩
    clear C9
    have C10 := Lib.hid (muldiv_at A C B Q2 R2 (HA1.out.old EX9.out) (HA3.out.old EX9.out) HV1.out HV3.out (HA2.out.old EX9.out) HV2.out HB0.out HQ2.out HR2.out (by omega) (by omega) (by omega))
    go_wp2_with fail
    refine C10.out.mono ?_
    rintro e w10 ⟨a10q, c10q, n10q, a10r, c10r, n10r, rfl, o10q, o10r, x10, l10q, l10r, -⟩
    have S10q := Lib.hid o10q.sl; have S10r := Lib.hid o10r.sl
    clear o10q o10r
    have D10 := Lib.hid x10
    have EX10 := Lib.hid (EX9.out.trans x10)
    clear x10
    clear C10
    have C11 := Lib.hid (mul_at A C (A * C) (HA1.out.old EX10.out) (HA3.out.old EX10.out) HV1.out HV3.out rfl (by omega) (by omega))
    go_wp2_with fail
    refine C11.out.mono ?_
    rintro e w11 ⟨a11r, n11r, c11r, rfl, o11, x11, l11⟩
    have S11 := Lib.hid o11.sl
    clear o11
    have D11 := Lib.hid x11
    have EX11 := Lib.hid (EX10.out.trans x11)
    clear x11
    clear C11
    have C12 := Lib.hid (divmod_at (A * C) B Q2 R2 S11.out (HA2.out.old EX11.out) (val_lim _) HV2.out HB0.out HQ2.out HR2.out (by omega) (by omega))
    go_wp2_with fail
    refine C12.out.mono ?_
    rintro e w12 ⟨a12q, c12q, n12q, a12r, c12r, n12r, rfl, o12q, o12r, x12, l12q, l12r, -⟩
    have S12q := Lib.hid o12q.sl; have S12r := Lib.hid o12r.sl
    clear o12q o12r
    have D12 := Lib.hid x12
    have EX12 := Lib.hid (EX11.out.trans x12)
    clear x12
    clear C12
    have C13 := Lib.hid (mul_at A B (A * B) (HA1.out.old EX12.out) (HA2.out.old EX12.out) HV1.out HV2.out rfl (by omega) (by omega))
    go_wp2_with fail
    refine C13.out.mono ?_
    rintro e w13 ⟨a13r, n13r, c13r, rfl, o13, x13, l13⟩
    have S13 := Lib.hid o13.sl
    clear o13
    have D13 := Lib.hid x13
    have EX13 := Lib.hid (EX12.out.trans x13)
    clear x13
    clear C13
    have C14 := Lib.hid (divmod_at (A * B) B A 0 S13.out (HA2.out.old EX13.out) (val_lim _) HV2.out HB0.out (Nat.mul_div_cancel _ (Nat.pos_of_ne_zero HB0.out)) (Nat.mul_mod_left _ _) (by omega) (by omega))
    go_wp2_with fail
    refine C14.out.mono ?_
    rintro e w14 ⟨a14q, c14q, n14q, a14r, c14r, n14r, rfl, o14q, o14r, x14, l14q, l14r, -⟩
    have S14q := Lib.hid o14q.sl; have S14r := Lib.hid o14r.sl
    clear o14q o14r
    have D14 := Lib.hid x14
    have EX14 := Lib.hid (EX13.out.trans x14)
    clear x14
    clear C14
    have z5 : n14r = 0 := S14r.out.len_zero.2 rfl
    subst z5
    have C15 := Lib.hid (hnat_yes (S10q.out.old (Ext.trans D11.out (Ext.trans D12.out (Ext.trans D13.out D14.out)))) (S12q.out.old (Ext.trans D13.out D14.out)) rfl (by omega) (by omega))
    go_wp2_with fail
    refine C15.out.mono ?_
    rintro e w15 ⟨rfl, x15⟩
    have D15 := Lib.hid x15
    have EX15 := Lib.hid (EX14.out.trans x15)
    clear x15
    clear C15
    have C16 := Lib.hid (hnat_yes (S10r.out.old (Ext.trans D11.out (Ext.trans D12.out (Ext.trans D13.out (Ext.trans D14.out D15.out))))) (S12r.out.old (Ext.trans D13.out (Ext.trans D14.out D15.out))) rfl (by omega) (by omega))
    go_wp2_with fail
    refine C16.out.mono ?_
    rintro e w16 ⟨rfl, x16⟩
    have D16 := Lib.hid x16
    have EX16 := Lib.hid (EX15.out.trans x16)
    clear x16
    clear C16
    have C17 := Lib.hid (norm_at A (HA1.out.old EX16.out) HV1.out (by omega))
    go_wp2_with fail
    refine C17.out.mono ?_
    rintro e w17 ⟨a17r, n17r, c17r, rfl, o17, x17, l17⟩
    have S17 := Lib.hid o17.sl
    clear o17
    have D17 := Lib.hid x17
    have EX17 := Lib.hid (EX16.out.trans x17)
    clear x17
    clear C17
    have C18 := Lib.hid (hnat_yes (S14q.out.old (Ext.trans D15.out (Ext.trans D16.out D17.out))) S17.out rfl (by omega) (by omega))
    go_wp2_with fail
    refine C18.out.mono ?_
    rintro e w18 ⟨rfl, x18⟩
    have D18 := Lib.hid x18
    have EX18 := Lib.hid (EX17.out.trans x18)
    clear x18
    clear C18
    go_wp2_with fail
    go_ret
    exact ⟨rfl, EX18.out⟩

end Go.Proofs.YtkdkgmnjhimdeaaGreatDoor
