/- gleanlaw1.NatScaled: the walk. -/
import Derived.Test.YtkdkgmnjhimdeaaGreatDoorKnown1
namespace Go.Proofs.YtkdkgmnjhimdeaaGreatDoor
open Go.RowKit

set_option maxHeartbeats 16000000 in
set_option maxRecDepth 100000 in
theorem nscal_law {a1 : Option Addr} {m1 c1 : Nat} {xs1 : List Nat} {a2 : Option Addr} {m2 c2 : Nat} {xs2 : List Nat} {a3 : Option Addr} {m3 c3 : Nat} {xs3 : List Nat} {w : World} (ha1 : Sl w a1 m1 c1 xs1) (ha2 : Sl w a2 m2 c2 xs2) (ha3 : Sl w a3 m3 c3 xs3) (htab : Tab w) (htz : TzTab w) :
    Calls Tryz.prog 14 #[.slice a1 m1 c1, .slice a2 m2 c2, .slice a3 m3 c3] w (RetE (.bool true) w) := by
  obtain ⟨A, hv1⟩ : ∃ X, val xs1 = X := ⟨_, rfl⟩
  have HV1 := Lib.hid hv1; have HA1 := Lib.hid ha1
  obtain ⟨B, hv2⟩ : ∃ X, val xs2 = X := ⟨_, rfl⟩
  have HV2 := Lib.hid hv2; have HA2 := Lib.hid ha2
  obtain ⟨C, hv3⟩ : ∃ X, val xs3 = X := ⟨_, rfl⟩
  have HV3 := Lib.hid hv3; have HA3 := Lib.hid ha3
  have HTZ := Lib.hid htz; have HT := Lib.hid htab
  have CK := Lib.hid (known1_calls w htab htz)
  clear hv1 ha1 hv2 ha2 hv3 ha3 htab htz
  go_enter Tryz.func14, Tryz.ntmps14
  go_wp2_with fail
  refine CK.out.mono ?_
  rintro e w0 ⟨rfl, hx0⟩
  have D1 := Lib.hid hx0
  have EX1 := Lib.hid hx0
  clear hx0
  clear CK
  obtain ⟨Z, hZ⟩ : ∃ Z, w0.alloc (.cells #[.slice a1 m1 c1, .slice a2 m2 c2, .slice a3 m3 c3] 23) = Z := ⟨_, rfl⟩
  have hxz : Ext w0 Z := by rw [← hZ]; exact (Ext.refl _).alloc _
  by_cases h60 : m1 ≤ 60 ∧ m2 ≤ 60 ∧ m3 ≤ 60
  rotate_left
  · have HSM := Lib.hid (sm_no3 w0 a1 m1 c1 a2 m2 c2 a3 m3 c3 h60)
    rw [hZ] at HSM
    have HZ := Lib.hid hZ; have HEZ := Lib.hid (EX1.out.trans hxz)
    clear hZ hxz
    go_wp2_with (rw [HZ.out])
    refine HSM.out.mono ?_
    rintro e w' ⟨rfl, rfl⟩
    go_wp2_with fail
    go_ret
    exact ⟨rfl, HEZ.out⟩
  have HSM := Lib.hid (sm_yes3 w0 a1 m1 c1 a2 m2 c2 a3 m3 c3 h60)
  rw [hZ] at HSM
  have HZ := Lib.hid hZ
  obtain ⟨q1, q2, q3⟩ := h60
  clear hZ
  have D2 := Lib.hid hxz
  have EX2 := Lib.hid (EX1.out.trans hxz)
  clear hxz
  go_wp2_with (rw [HZ.out])
  refine HSM.out.mono ?_
  rintro e w' ⟨rfl, rfl⟩
  clear HSM
  have C1 := Lib.hid (norm_at B (HA2.out.old EX2.out) HV2.out (by omega))
  go_wp2_with fail
  refine C1.out.mono ?_
  rintro e w1 ⟨a1r, n1r, c1r, rfl, o1, x1, l1⟩
  have S1 := Lib.hid o1.sl
  clear o1
  have D3 := Lib.hid x1
  have EX3 := Lib.hid (EX2.out.trans x1)
  clear x1
  clear C1
  by_cases hB0 : B = 0
  · skip
    have z1 : n1r = 0 := S1.out.len_zero.2 hB0
    subst z1
    go_wp2_with fail
    go_ret
    exact ⟨rfl, EX3.out⟩
  · skip
    have z1 : ¬ n1r = 0 := fun h => hB0 (S1.out.len_zero.1 h)
    have z2 : ((n1r : Int) == 0) = false := by rw [beq_eq_false_iff_ne]; omega
    have C2 := Lib.hid (norm_at C (HA3.out.old EX3.out) HV3.out (by omega))
    go_wp2_with fail
    refine C2.out.mono ?_
    rintro e w2 ⟨a2r, n2r, c2r, rfl, o2, x2, l2⟩
    have S2 := Lib.hid o2.sl
    clear o2
    have D4 := Lib.hid x2
    have EX4 := Lib.hid (EX3.out.trans x2)
    clear x2
    clear C2
    by_cases hC0 : C = 0
    · skip
      have z3 : n2r = 0 := S2.out.len_zero.2 hC0
      subst z3
      go_wp2_with fail
      go_ret
      exact ⟨rfl, EX4.out⟩
    · skip
      have z3 : ¬ n2r = 0 := fun h => hC0 (S2.out.len_zero.1 h)
      have z4 : ((n2r : Int) == 0) = false := by rw [beq_eq_false_iff_ne]; omega
      have HB0 := Lib.hid hB0; have HC0 := Lib.hid hC0; clear hB0 hC0
      obtain ⟨Q, hQ⟩ : ∃ X, A / B = X := ⟨_, rfl⟩
      obtain ⟨R, hR⟩ : ∃ X, A % B = X := ⟨_, rfl⟩
      obtain ⟨G, hG⟩ : ∃ X, Nat.gcd A B = X := ⟨_, rfl⟩
      have HQ2 := Lib.hid (show A * C / (B * C) = Q by rw [← hQ]; exact Nat.mul_div_mul_right A B (Nat.pos_of_ne_zero HC0.out))
      have HR2 := Lib.hid (show A * C % (B * C) = R * C by rw [← hR]; exact Nat.mul_mod_mul_right C A B)
      have HG2 := Lib.hid (show Nat.gcd (A * C) (B * C) = G * C by rw [← hG]; exact Nat.gcd_mul_right A C B)
      have HBC := Lib.hid (show B * C ≠ 0 from Nat.mul_ne_zero HB0.out HC0.out)
      have HQ := Lib.hid hQ; have HR := Lib.hid hR; have HG := Lib.hid hG; clear hQ hR hG
      have C3 := Lib.hid (divmod_at A B Q R (HA1.out.old EX4.out) (HA2.out.old EX4.out) HV1.out HV2.out HB0.out HQ.out HR.out (by omega) (by omega))
      go_wp2_with fail
      refine C3.out.mono ?_
      rintro e w3 ⟨a3q, c3q, n3q, a3r, c3r, n3r, rfl, o3q, o3r, x3, l3q, l3r, -⟩
      have S3q := Lib.hid o3q.sl; have S3r := Lib.hid o3r.sl
      clear o3q o3r
      have D5 := Lib.hid x3
      have EX5 := Lib.hid (EX4.out.trans x3)
      clear x3
      clear C3
      have C4 := Lib.hid (mul_at A C (A * C) (HA1.out.old EX5.out) (HA3.out.old EX5.out) HV1.out HV3.out rfl (by omega) (by omega))
      go_wp2_with fail
      refine C4.out.mono ?_
      rintro e w4 ⟨a4r, n4r, c4r, rfl, o4, x4, l4⟩
      have S4 := Lib.hid o4.sl
      clear o4
      have D6 := Lib.hid x4
      have EX6 := Lib.hid (EX5.out.trans x4)
      clear x4
      clear C4
      have C5 := Lib.hid (mul_at B C (B * C) (HA2.out.old EX6.out) (HA3.out.old EX6.out) HV2.out HV3.out rfl (by omega) (by omega))
      go_wp2_with fail
      refine C5.out.mono ?_
      rintro e w5 ⟨a5r, n5r, c5r, rfl, o5, x5, l5⟩
      have S5 := Lib.hid o5.sl
      clear o5
      have D7 := Lib.hid x5
      have EX7 := Lib.hid (EX6.out.trans x5)
      clear x5
      clear C5
      have C6 := Lib.hid (divmod_at (A * C) (B * C) Q (R * C) (S4.out.old D7.out) S5.out (val_lim _) (val_lim _) HBC.out HQ2.out HR2.out (by omega) (by omega))
      go_wp2_with fail
      refine C6.out.mono ?_
      rintro e w6 ⟨a6q, c6q, n6q, a6r, c6r, n6r, rfl, o6q, o6r, x6, l6q, l6r, -⟩
      have S6q := Lib.hid o6q.sl; have S6r := Lib.hid o6r.sl
      clear o6q o6r
      have D8 := Lib.hid x6
      have EX8 := Lib.hid (EX7.out.trans x6)
      clear x6
      clear C6
      have C7 := Lib.hid (hnat_yes (S3q.out.old (Ext.trans D6.out (Ext.trans D7.out D8.out))) S6q.out rfl (by omega) (by omega))
      go_wp2_with fail
      refine C7.out.mono ?_
      rintro e w7 ⟨rfl, x7⟩
      have D9 := Lib.hid x7
      have EX9 := Lib.hid (EX8.out.trans x7)
      clear x7
      clear C7
      have C8 := Lib.hid (mul_at R C (R * C) (S3r.out.old (Ext.trans D6.out (Ext.trans D7.out (Ext.trans D8.out D9.out)))) (HA3.out.old EX9.out) (val_lim _) HV3.out rfl (by omega) (by omega))
      go_wp2_with fail
      refine C8.out.mono ?_
      rintro e w8 ⟨a8r, n8r, c8r, rfl, o8, x8, l8⟩
      have S8 := Lib.hid o8.sl
      clear o8
      have D10 := Lib.hid x8
      have EX10 := Lib.hid (EX9.out.trans x8)
      clear x8
      clear C8
      have C9 := Lib.hid (hnat_yes S8.out (S6r.out.old (Ext.trans D9.out D10.out)) rfl (by omega) (by omega))
      go_wp2_with fail
      refine C9.out.mono ?_
      rintro e w9 ⟨rfl, x9⟩
      have D11 := Lib.hid x9
      have EX11 := Lib.hid (EX10.out.trans x9)
      clear x9
      clear C9
      have C10 := Lib.hid (mul_at A C (A * C) (HA1.out.old EX11.out) (HA3.out.old EX11.out) HV1.out HV3.out rfl (by omega) (by omega))
      go_wp2_with fail
      refine C10.out.mono ?_
      rintro e w10 ⟨a10r, n10r, c10r, rfl, o10, x10, l10⟩
      have S10 := Lib.hid o10.sl
      clear o10
      have D12 := Lib.hid x10
      have EX12 := Lib.hid (EX11.out.trans x10)
      clear x10
      clear C10
      have C11 := Lib.hid (mul_at B C (B * C) (HA2.out.old EX12.out) (HA3.out.old EX12.out) HV2.out HV3.out rfl (by omega) (by omega))
      go_wp2_with fail
      refine C11.out.mono ?_
      rintro e w11 ⟨a11r, n11r, c11r, rfl, o11, x11, l11⟩
      have S11 := Lib.hid o11.sl
      clear o11
      have D13 := Lib.hid x11
      have EX13 := Lib.hid (EX12.out.trans x11)
      clear x11
      clear C11
      have C12 := Lib.hid (gcd_at (A * C) (B * C) (G * C) (S10.out.old D13.out) S11.out (val_lim _) (val_lim _) HG2.out (by omega) (by omega) (HTZ.out.old EX13.out))
      go_wp2_with fail
      refine C12.out.mono ?_
      rintro e w12 ⟨a12r, n12r, c12r, rfl, o12, x12, l12⟩
      have S12 := Lib.hid o12.sl
      clear o12
      have D14 := Lib.hid x12
      have EX14 := Lib.hid (EX13.out.trans x12)
      clear x12
      clear C12
      have C13 := Lib.hid (gcd_at A B G (HA1.out.old EX14.out) (HA2.out.old EX14.out) HV1.out HV2.out HG.out (by omega) (by omega) (HTZ.out.old EX14.out))
      go_wp2_with fail
      refine C13.out.mono ?_
      rintro e w13 ⟨a13r, n13r, c13r, rfl, o13, x13, l13⟩
      have S13 := Lib.hid o13.sl
      clear o13
      have D15 := Lib.hid x13
      have EX15 := Lib.hid (EX14.out.trans x13)
      clear x13
      clear C13
      have C14 := Lib.hid (mul_at G C (G * C) S13.out (HA3.out.old EX15.out) (val_lim _) HV3.out rfl (by omega) (by omega))
      go_wp2_with fail
      refine C14.out.mono ?_
      rintro e w14 ⟨a14r, n14r, c14r, rfl, o14, x14, l14⟩
      have S14 := Lib.hid o14.sl
      clear o14
      have D16 := Lib.hid x14
      have EX16 := Lib.hid (EX15.out.trans x14)
      clear x14
      clear C14
      have C15 := Lib.hid (hnat_yes (S12.out.old (Ext.trans D15.out D16.out)) S14.out rfl (by omega) (by omega))
      go_wp2_with fail
      refine C15.out.mono ?_
      rintro e w15 ⟨rfl, x15⟩
      have D17 := Lib.hid x15
      have EX17 := Lib.hid (EX16.out.trans x15)
      clear x15
      clear C15
      go_wp2_with fail
      go_ret
      exact ⟨rfl, EX17.out⟩

end Go.Proofs.YtkdkgmnjhimdeaaGreatDoor
