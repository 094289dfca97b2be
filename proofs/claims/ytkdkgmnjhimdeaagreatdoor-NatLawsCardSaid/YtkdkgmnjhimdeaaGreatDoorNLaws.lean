/- gleanlaw1.NatLaws: the walk. -/
import Derived.Test.YtkdkgmnjhimdeaaGreatDoorKnown1
namespace Go.Proofs.YtkdkgmnjhimdeaaGreatDoor
open Go.RowKit

set_option maxHeartbeats 16000000 in
set_option maxRecDepth 100000 in
theorem nlaws_law {a1 : Option Addr} {m1 c1 : Nat} {xs1 : List Nat} {a2 : Option Addr} {m2 c2 : Nat} {xs2 : List Nat} {a3 : Option Addr} {m3 c3 : Nat} {xs3 : List Nat} {w : World} (ha1 : Sl w a1 m1 c1 xs1) (ha2 : Sl w a2 m2 c2 xs2) (ha3 : Sl w a3 m3 c3 xs3) (htab : Tab w) (htz : TzTab w) :
    Calls Tryz.prog 8 #[.slice a1 m1 c1, .slice a2 m2 c2, .slice a3 m3 c3] w (RetE (.bool true) w) := by
  obtain ⟨A, hv1⟩ : ∃ X, val xs1 = X := ⟨_, rfl⟩
  have HV1 := Lib.hid hv1; have HA1 := Lib.hid ha1
  obtain ⟨B, hv2⟩ : ∃ X, val xs2 = X := ⟨_, rfl⟩
  have HV2 := Lib.hid hv2; have HA2 := Lib.hid ha2
  obtain ⟨C, hv3⟩ : ∃ X, val xs3 = X := ⟨_, rfl⟩
  have HV3 := Lib.hid hv3; have HA3 := Lib.hid ha3
  have HTZ := Lib.hid htz; have HT := Lib.hid htab
  have CK := Lib.hid (known1_calls w htab htz)
  clear hv1 ha1 hv2 ha2 hv3 ha3 htab htz
  go_enter Tryz.func8, Tryz.ntmps8
  go_wp2_with fail
  refine CK.out.mono ?_
  rintro e w0 ⟨rfl, hx0⟩
  have D1 := Lib.hid hx0
  have EX1 := Lib.hid hx0
  clear hx0
  clear CK
  obtain ⟨Z, hZ⟩ : ∃ Z, w0.alloc (.cells #[.slice a1 m1 c1, .slice a2 m2 c2, .slice a3 m3 c3] 23) = Z := ⟨_, rfl⟩
  have hxz : Ext w0 Z := by rw [← hZ]; exact (Ext.refl _).alloc _
  by_cases h60 : m1 ≤ 60 ∧ m2 ≤ 60 ∧ m3 ≤ 60
  rotate_left
  · have HSM := Lib.hid (sm_no3 w0 a1 m1 c1 a2 m2 c2 a3 m3 c3 h60)
    rw [hZ] at HSM
    have HZ := Lib.hid hZ; have HEZ := Lib.hid (EX1.out.trans hxz)
    clear hZ hxz
    go_wp2_with (rw [HZ.out])
    refine HSM.out.mono ?_
    rintro e w' ⟨rfl, rfl⟩
    go_wp2_with fail
    go_ret
    exact ⟨rfl, HEZ.out⟩
  have HSM := Lib.hid (sm_yes3 w0 a1 m1 c1 a2 m2 c2 a3 m3 c3 h60)
  rw [hZ] at HSM
  have HZ := Lib.hid hZ
  obtain ⟨q1, q2, q3⟩ := h60
  clear hZ
  have D2 := Lib.hid hxz
  have EX2 := Lib.hid (EX1.out.trans hxz)
  clear hxz
  go_wp2_with (rw [HZ.out])
  refine HSM.out.mono ?_
  rintro e w' ⟨rfl, rfl⟩
  clear HSM
  have C1 := Lib.hid (add_at A B (A + B) (HA1.out.old EX2.out) (HA2.out.old EX2.out) HV1.out HV2.out rfl (by omega) (by omega))
  go_wp2_with fail
  refine C1.out.mono ?_
  rintro e w1 ⟨a1r, n1r, c1r, rfl, o1, x1, l1⟩
  have S1 := Lib.hid o1.sl
  clear o1
  have D3 := Lib.hid x1
  have EX3 := Lib.hid (EX2.out.trans x1)
  clear x1
  clear C1
  have C2 := Lib.hid (add_at B A (A + B) (HA2.out.old EX3.out) (HA1.out.old EX3.out) HV2.out HV1.out (Nat.add_comm _ _) (by omega) (by omega))
  go_wp2_with fail
  refine C2.out.mono ?_
  rintro e w2 ⟨a2r, n2r, c2r, rfl, o2, x2, l2⟩
  have S2 := Lib.hid o2.sl
  clear o2
  have D4 := Lib.hid x2
  have EX4 := Lib.hid (EX3.out.trans x2)
  clear x2
  clear C2
  have C3 := Lib.hid (hnat_yes (S1.out.old D4.out) S2.out rfl (by omega) (by omega))
  go_wp2_with fail
  refine C3.out.mono ?_
  rintro e w3 ⟨rfl, x3⟩
  have D5 := Lib.hid x3
  have EX5 := Lib.hid (EX4.out.trans x3)
  clear x3
  clear C3
  have C4 := Lib.hid (mul_at A B (A * B) (HA1.out.old EX5.out) (HA2.out.old EX5.out) HV1.out HV2.out rfl (by omega) (by omega))
  go_wp2_with fail
  refine C4.out.mono ?_
  rintro e w4 ⟨a4r, n4r, c4r, rfl, o4, x4, l4⟩
  have S4 := Lib.hid o4.sl
  clear o4
  have D6 := Lib.hid x4
  have EX6 := Lib.hid (EX5.out.trans x4)
  clear x4
  clear C4
  have C5 := Lib.hid (mul_at B A (A * B) (HA2.out.old EX6.out) (HA1.out.old EX6.out) HV2.out HV1.out (Nat.mul_comm _ _) (by omega) (by omega))
  go_wp2_with fail
  refine C5.out.mono ?_
  rintro e w5 ⟨a5r, n5r, c5r, rfl, o5, x5, l5⟩
  have S5 := Lib.hid o5.sl
  clear o5
  have D7 := Lib.hid x5
  have EX7 := Lib.hid (EX6.out.trans x5)
  clear x5
  clear C5
  have C6 := Lib.hid (hnat_yes (S4.out.old D7.out) S5.out rfl (by omega) (by omega))
  go_wp2_with fail
  refine C6.out.mono ?_
  rintro e w6 ⟨rfl, x6⟩
  have D8 := Lib.hid x6
  have EX8 := Lib.hid (EX7.out.trans x6)
  clear x6
  clear C6
  have C7 := Lib.hid (add_at (A + B) C (A + B + C) (S1.out.old (Ext.trans D4.out (Ext.trans D5.out (Ext.trans D6.out (Ext.trans D7.out D8.out))))) (HA3.out.old EX8.out) (val_lim _) HV3.out rfl (by omega) (by omega))
  go_wp2_with fail
  refine C7.out.mono ?_
  rintro e w7 ⟨a7r, n7r, c7r, rfl, o7, x7, l7⟩
  have S7 := Lib.hid o7.sl
  clear o7
  have D9 := Lib.hid x7
  have EX9 := Lib.hid (EX8.out.trans x7)
  clear x7
  clear C7
  have C8 := Lib.hid (add_at B C (B + C) (HA2.out.old EX9.out) (HA3.out.old EX9.out) HV2.out HV3.out rfl (by omega) (by omega))
  go_wp2_with fail
  refine C8.out.mono ?_
  rintro e w8 ⟨a8r, n8r, c8r, rfl, o8, x8, l8⟩
  have S8 := Lib.hid o8.sl
  clear o8
  have D10 := Lib.hid x8
  have EX10 := Lib.hid (EX9.out.trans x8)
  clear x8
  clear C8
  have C9 := Lib.hid (add_at A (B + C) (A + B + C) (HA1.out.old EX10.out) S8.out HV1.out (val_lim _) (Nat.add_assoc _ _ _).symm (by omega) (by omega))
  go_wp2_with fail
  refine C9.out.mono ?_
  rintro e w9 ⟨a9r, n9r, c9r, rfl, o9, x9, l9⟩
  have S9 := Lib.hid o9.sl
  clear o9
  have D11 := Lib.hid x9
  have EX11 := Lib.hid (EX10.out.trans x9)
  clear x9
  clear C9
  have C10 := Lib.hid (hnat_yes (S7.out.old (Ext.trans D10.out D11.out)) S9.out rfl (by omega) (by omega))
  go_wp2_with fail
  refine C10.out.mono ?_
  rintro e w10 ⟨rfl, x10⟩
  have D12 := Lib.hid x10
  have EX12 := Lib.hid (EX11.out.trans x10)
  clear x10
  clear C10
  have C11 := Lib.hid (mul_at A B (A * B) (HA1.out.old EX12.out) (HA2.out.old EX12.out) HV1.out HV2.out rfl (by omega) (by omega))
  go_wp2_with fail
  refine C11.out.mono ?_
  rintro e w11 ⟨a11r, n11r, c11r, rfl, o11, x11, l11⟩
  have S11 := Lib.hid o11.sl
  clear o11
  have D13 := Lib.hid x11
  have EX13 := Lib.hid (EX12.out.trans x11)
  clear x11
  clear C11
  have C12 := Lib.hid (mul_at (A * B) C (A * B * C) S11.out (HA3.out.old EX13.out) (val_lim _) HV3.out rfl (by omega) (by omega))
  go_wp2_with fail
  refine C12.out.mono ?_
  rintro e w12 ⟨a12r, n12r, c12r, rfl, o12, x12, l12⟩
  have S12 := Lib.hid o12.sl
  clear o12
  have D14 := Lib.hid x12
  have EX14 := Lib.hid (EX13.out.trans x12)
  clear x12
  clear C12
  have C13 := Lib.hid (mul_at B C (B * C) (HA2.out.old EX14.out) (HA3.out.old EX14.out) HV2.out HV3.out rfl (by omega) (by omega))
  go_wp2_with fail
  refine C13.out.mono ?_
  rintro e w13 ⟨a13r, n13r, c13r, rfl, o13, x13, l13⟩
  have S13 := Lib.hid o13.sl
  clear o13
  have D15 := Lib.hid x13
  have EX15 := Lib.hid (EX14.out.trans x13)
  clear x13
  clear C13
  have C14 := Lib.hid (mul_at A (B * C) (A * B * C) (HA1.out.old EX15.out) S13.out HV1.out (val_lim _) (Nat.mul_assoc _ _ _).symm (by omega) (by omega))
  go_wp2_with fail
  refine C14.out.mono ?_
  rintro e w14 ⟨a14r, n14r, c14r, rfl, o14, x14, l14⟩
  have S14 := Lib.hid o14.sl
  clear o14
  have D16 := Lib.hid x14
  have EX16 := Lib.hid (EX15.out.trans x14)
  clear x14
  clear C14
  have C15 := Lib.hid (hnat_yes (S12.out.old (Ext.trans D15.out D16.out)) S14.out rfl (by omega) (by omega))
  go_wp2_with fail
  refine C15.out.mono ?_
  rintro e w15 ⟨rfl, x15⟩
  have D17 := Lib.hid x15
  have EX17 := Lib.hid (EX16.out.trans x15)
  clear x15
  clear C15
  have C16 := Lib.hid (add_at B C (B + C) (HA2.out.old EX17.out) (HA3.out.old EX17.out) HV2.out HV3.out rfl (by omega) (by omega))
  go_wp2_with fail
  refine C16.out.mono ?_
  rintro e w16 ⟨a16r, n16r, c16r, rfl, o16, x16, l16⟩
  have S16 := Lib.hid o16.sl
  clear o16
  have D18 := Lib.hid x16
  have EX18 := Lib.hid (EX17.out.trans x16)
  clear x16
  clear C16
  have C17 := Lib.hid (mul_at A (B + C) (A * B + A * C) (HA1.out.old EX18.out) S16.out HV1.out (val_lim _) (Nat.mul_add _ _ _) (by omega) (by omega))
  go_wp2_with fail
  refine C17.out.mono ?_
  rintro e w17 ⟨a17r, n17r, c17r, rfl, o17, x17, l17⟩
  have S17 := Lib.hid o17.sl
  clear o17
  have D19 := Lib.hid x17
  have EX19 := Lib.hid (EX18.out.trans x17)
  clear x17
  clear C17
  have C18 := Lib.hid (mul_at A B (A * B) (HA1.out.old EX19.out) (HA2.out.old EX19.out) HV1.out HV2.out rfl (by omega) (by omega))
  go_wp2_with fail
  refine C18.out.mono ?_
  rintro e w18 ⟨a18r, n18r, c18r, rfl, o18, x18, l18⟩
  have S18 := Lib.hid o18.sl
  clear o18
  have D20 := Lib.hid x18
  have EX20 := Lib.hid (EX19.out.trans x18)
  clear x18
  clear C18
  have C19 := Lib.hid (mul_at A C (A * C) (HA1.out.old EX20.out) (HA3.out.old EX20.out) HV1.out HV3.out rfl (by omega) (by omega))
  go_wp2_with fail
  refine C19.out.mono ?_
  rintro e w19 ⟨a19r, n19r, c19r, rfl, o19, x19, l19⟩
  have S19 := Lib.hid o19.sl
  clear o19
  have D21 := Lib.hid x19
  have EX21 := Lib.hid (EX20.out.trans x19)
  clear x19
  clear C19
  have C20 := Lib.hid (add_at (A * B) (A * C) (A * B + A * C) (S18.out.old D21.out) S19.out (val_lim _) (val_lim _) rfl (by omega) (by omega))
  go_wp2_with fail
  refine C20.out.mono ?_
  rintro e w20 ⟨a20r, n20r, c20r, rfl, o20, x20, l20⟩
  have S20 := Lib.hid o20.sl
  clear o20
  have D22 := Lib.hid x20
  have EX22 := Lib.hid (EX21.out.trans x20)
  clear x20
  clear C20
  have C21 := Lib.hid (hnat_yes (S17.out.old (Ext.trans D20.out (Ext.trans D21.out D22.out))) S20.out rfl (by omega) (by omega))
  go_wp2_with fail
  refine C21.out.mono ?_
  rintro e w21 ⟨rfl, x21⟩
  have D23 := Lib.hid x21
  have EX23 := Lib.hid (EX22.out.trans x21)
  clear x21
  clear C21
  have C22 := Lib.hid (sub_at (A + B) B A (S1.out.old (Ext.trans D4.out (Ext.trans D5.out (Ext.trans D6.out (Ext.trans D7.out (Ext.trans D8.out (Ext.trans D9.out (Ext.trans D10.out (Ext.trans D11.out (Ext.trans D12.out (Ext.trans D13.out (Ext.trans D14.out (Ext.trans D15.out (Ext.trans D16.out (Ext.trans D17.out (Ext.trans D18.out (Ext.trans D19.out (Ext.trans D20.out (Ext.trans D21.out (Ext.trans D22.out D23.out)))))))))))))))))))) (HA2.out.old EX23.out) (val_lim _) HV2.out rfl (by omega) (by omega))
  go_wp2_with fail
  refine C22.out.mono ?_
  rintro e w22 ⟨a22r, n22r, c22r, rfl, o22, x22, l22⟩
  have S22 := Lib.hid o22.sl
  clear o22
  have D24 := Lib.hid x22
  have EX24 := Lib.hid (EX23.out.trans x22)
  clear x22
  clear C22
  have C23 := Lib.hid (of_calls 1 (by decide) w22)
  go_wp2_with fail
  refine C23.out.mono ?_
  rintro e w23 ⟨a23r, n23r, c23r, rfl, o23, x23, l23⟩
  have S23 := Lib.hid o23.sl
  clear o23
  have D25 := Lib.hid x23
  have EX25 := Lib.hid (EX24.out.trans x23)
  clear x23
  clear C23
  have C24 := Lib.hid (add_at (A + B) 1 (A + B + 1) (S1.out.old (Ext.trans D4.out (Ext.trans D5.out (Ext.trans D6.out (Ext.trans D7.out (Ext.trans D8.out (Ext.trans D9.out (Ext.trans D10.out (Ext.trans D11.out (Ext.trans D12.out (Ext.trans D13.out (Ext.trans D14.out (Ext.trans D15.out (Ext.trans D16.out (Ext.trans D17.out (Ext.trans D18.out (Ext.trans D19.out (Ext.trans D20.out (Ext.trans D21.out (Ext.trans D22.out (Ext.trans D23.out (Ext.trans D24.out D25.out)))))))))))))))))))))) S23.out (val_lim _) (val_lim _) rfl (by omega) (by omega))
  go_wp2_with fail
  refine C24.out.mono ?_
  rintro e w24 ⟨a24r, n24r, c24r, rfl, o24, x24, l24⟩
  have S24 := Lib.hid o24.sl
  clear o24
  have D26 := Lib.hid x24
  have EX26 := Lib.hid (EX25.out.trans x24)
  clear x24
  clear C24
  have C25 := Lib.hid (sub_no A (A + B + 1) (HA1.out.old EX26.out) S24.out HV1.out (val_lim _) (by omega) (by omega) (by omega))
  go_wp2_with fail
  refine C25.out.mono ?_
  rintro e w25 ⟨a25r, n25r, c25r, rfl, o25, x25, l25⟩
  have S25 := Lib.hid o25.sl
  clear o25
  have D27 := Lib.hid x25
  have EX27 := Lib.hid (EX26.out.trans x25)
  clear x25
  clear C25
  have C26 := Lib.hid (norm_at A (HA1.out.old EX27.out) HV1.out (by omega))
  go_wp2_with fail
  refine C26.out.mono ?_
  rintro e w26 ⟨a26r, n26r, c26r, rfl, o26, x26, l26⟩
  have S26 := Lib.hid o26.sl
  clear o26
  have D28 := Lib.hid x26
  have EX28 := Lib.hid (EX27.out.trans x26)
  clear x26
  clear C26
  have C27 := Lib.hid (hnat_yes (S22.out.old (Ext.trans D25.out (Ext.trans D26.out (Ext.trans D27.out D28.out)))) S26.out rfl (by omega) (by omega))
  go_wp2_with fail
  refine C27.out.mono ?_
  rintro e w27 ⟨rfl, x27⟩
  have D29 := Lib.hid x27
  have EX29 := Lib.hid (EX28.out.trans x27)
  clear x27
  clear C27
  have C28 := Lib.hid (hnormal_calls (S1.out.old (Ext.trans D4.out (Ext.trans D5.out (Ext.trans D6.out (Ext.trans D7.out (Ext.trans D8.out (Ext.trans D9.out (Ext.trans D10.out (Ext.trans D11.out (Ext.trans D12.out (Ext.trans D13.out (Ext.trans D14.out (Ext.trans D15.out (Ext.trans D16.out (Ext.trans D17.out (Ext.trans D18.out (Ext.trans D19.out (Ext.trans D20.out (Ext.trans D21.out (Ext.trans D22.out (Ext.trans D23.out (Ext.trans D24.out (Ext.trans D25.out (Ext.trans D26.out (Ext.trans D27.out (Ext.trans D28.out D29.out)))))))))))))))))))))))))) (by omega))
  go_wp2_with fail
  refine C28.out.mono ?_
  rintro e w' ⟨rfl, rfl⟩
  clear C28
  obtain ⟨u, hu⟩ : ∃ u, cmpN (A + B) A = u := ⟨_, rfl⟩
  have hu0 : 0 ≤ u := by rw [← hu]; unfold cmpN; split <;> first | omega | (split <;> decide)
  have HU := Lib.hid hu; clear hu
  have C29 := Lib.hid (cmp_at (A + B) A u (S1.out.old (Ext.trans D4.out (Ext.trans D5.out (Ext.trans D6.out (Ext.trans D7.out (Ext.trans D8.out (Ext.trans D9.out (Ext.trans D10.out (Ext.trans D11.out (Ext.trans D12.out (Ext.trans D13.out (Ext.trans D14.out (Ext.trans D15.out (Ext.trans D16.out (Ext.trans D17.out (Ext.trans D18.out (Ext.trans D19.out (Ext.trans D20.out (Ext.trans D21.out (Ext.trans D22.out (Ext.trans D23.out (Ext.trans D24.out (Ext.trans D25.out (Ext.trans D26.out (Ext.trans D27.out (Ext.trans D28.out D29.out)))))))))))))))))))))))))) (HA1.out.old EX29.out) (val_lim _) HV1.out HU.out (by omega) (by omega))
  go_wp2_with fail
  refine C29.out.mono ?_
  rintro e w29 ⟨rfl, x29⟩
  have D30 := Lib.hid x29
  have EX30 := Lib.hid (EX29.out.trans x29)
  clear x29
  clear C29
  obtain ⟨v, hv⟩ : ∃ v, cmpN A (A + B) = v := ⟨_, rfl⟩
  have hv0 : v ≤ 0 := by rw [← hv]; unfold cmpN; split <;> first | decide | (split <;> first | decide | omega)
  have HV := Lib.hid hv; clear hv
  have C30 := Lib.hid (cmp_at A (A + B) v (HA1.out.old EX30.out) (S1.out.old (Ext.trans D4.out (Ext.trans D5.out (Ext.trans D6.out (Ext.trans D7.out (Ext.trans D8.out (Ext.trans D9.out (Ext.trans D10.out (Ext.trans D11.out (Ext.trans D12.out (Ext.trans D13.out (Ext.trans D14.out (Ext.trans D15.out (Ext.trans D16.out (Ext.trans D17.out (Ext.trans D18.out (Ext.trans D19.out (Ext.trans D20.out (Ext.trans D21.out (Ext.trans D22.out (Ext.trans D23.out (Ext.trans D24.out (Ext.trans D25.out (Ext.trans D26.out (Ext.trans D27.out (Ext.trans D28.out (Ext.trans D29.out D30.out))))))))))))))))))))))))))) HV1.out (val_lim _) HV.out (by omega) (by omega))
  go_wp2_with fail
  refine C30.out.mono ?_
  rintro e w30 ⟨rfl, x30⟩
  have D31 := Lib.hid x30
  have EX31 := Lib.hid (EX30.out.trans x30)
  clear x30
  clear C30
  obtain ⟨z, hz⟩ : ∃ z, cmpN A B = z := ⟨_, rfl⟩
  obtain ⟨y, hy⟩ : ∃ y : Bool, (z == (0 : Int)) = y := ⟨_, rfl⟩
  have HY := Lib.hid (show decide (lim A = lim B) = y by rw [decide_lim, hz, hy])
  have HZ1 := Lib.hid hz; clear hz
  have C31 := Lib.hid (cmp_at A B z (HA1.out.old EX31.out) (HA2.out.old EX31.out) HV1.out HV2.out HZ1.out (by omega) (by omega))
  go_wp2_with fail
  refine C31.out.mono ?_
  rintro e w31 ⟨rfl, x31⟩
  have D32 := Lib.hid x31
  have EX32 := Lib.hid (EX31.out.trans x31)
  clear x31
  clear C31
  have C32 := Lib.hid (norm_at A (HA1.out.old EX32.out) HV1.out (by omega))
  go_wp2_with fail
  refine C32.out.mono ?_
  rintro e w32 ⟨a32r, n32r, c32r, rfl, o32, x32, l32⟩
  have S32 := Lib.hid o32.sl
  clear o32
  have D33 := Lib.hid x32
  have EX33 := Lib.hid (EX32.out.trans x32)
  clear x32
  clear C32
  have C33 := Lib.hid (norm_at B (HA2.out.old EX33.out) HV2.out (by omega))
  go_wp2_with fail
  refine C33.out.mono ?_
  rintro e w33 ⟨a33r, n33r, c33r, rfl, o33, x33, l33⟩
  have S33 := Lib.hid o33.sl
  clear o33
  have D34 := Lib.hid x33
  have EX34 := Lib.hid (EX33.out.trans x33)
  clear x33
  clear C33
  have C34 := Lib.hid (hnat_at y (S32.out.old D34.out) S33.out HY.out (by omega) (by omega))
  go_wp2_with fail
  refine C34.out.mono ?_
  rintro e w34 ⟨rfl, x34⟩
  have D35 := Lib.hid x34
  have EX35 := Lib.hid (EX34.out.trans x34)
  clear x34
  clear C34
  go_wp2_with fail
  go_ret
  exact ⟨rfl, EX35.out⟩

end Go.Proofs.YtkdkgmnjhimdeaaGreatDoor
