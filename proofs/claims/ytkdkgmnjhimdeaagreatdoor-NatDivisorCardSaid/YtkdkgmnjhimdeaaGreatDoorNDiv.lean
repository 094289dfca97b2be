/- gleanlaw1.NatDivisor: the walk. -/
import Derived.Test.YtkdkgmnjhimdeaaGreatDoorKnown1
namespace Go.Proofs.YtkdkgmnjhimdeaaGreatDoor
open Go.RowKit

theorem gcd_parts {A B G : Nat} (h : Nat.gcd A B = G) (h0 : G ≠ 0) : Nat.gcd (A / G) (B / G) = 1 := by
  have hp : 0 < Nat.gcd A B := by omega
  subst h
  obtain ⟨a, ha⟩ := Nat.gcd_dvd_left A B
  obtain ⟨b, hb⟩ := Nat.gcd_dvd_right A B
  have e := Nat.gcd_mul_left (Nat.gcd A B) (A / Nat.gcd A B) (B / Nat.gcd A B)
  rw [Nat.mul_div_cancel' (Nat.gcd_dvd_left A B), Nat.mul_div_cancel' (Nat.gcd_dvd_right A B)] at e
  exact (Nat.eq_of_mul_eq_mul_left hp (by rw [Nat.mul_one]; exact e)).symm


set_option maxHeartbeats 16000000 in
set_option maxRecDepth 100000 in
theorem ndiv_law {a1 : Option Addr} {m1 c1 : Nat} {xs1 : List Nat} {a2 : Option Addr} {m2 c2 : Nat} {xs2 : List Nat} {w : World} (ha1 : Sl w a1 m1 c1 xs1) (ha2 : Sl w a2 m2 c2 xs2) (htab : Tab w) (htz : TzTab w) :
    Calls Tryz.prog 11 #[.slice a1 m1 c1, .slice a2 m2 c2] w (RetE (.bool true) w) := by
  obtain ⟨A, hv1⟩ : ∃ X, val xs1 = X := ⟨_, rfl⟩
  have HV1 := Lib.hid hv1; have HA1 := Lib.hid ha1
  obtain ⟨B, hv2⟩ : ∃ X, val xs2 = X := ⟨_, rfl⟩
  have HV2 := Lib.hid hv2; have HA2 := Lib.hid ha2
  have HTZ := Lib.hid htz; have HT := Lib.hid htab
  have CK := Lib.hid (known1_calls w htab htz)
  clear hv1 ha1 hv2 ha2 htab htz
  go_enter Tryz.func11, Tryz.ntmps11
  go_wp2_with fail
  refine CK.out.mono ?_
  rintro e w0 ⟨rfl, hx0⟩
  have D1 := Lib.hid hx0
  have EX1 := Lib.hid hx0
  clear hx0
  clear CK
  obtain ⟨Z, hZ⟩ : ∃ Z, w0.alloc (.cells #[.slice a1 m1 c1, .slice a2 m2 c2] 23) = Z := ⟨_, rfl⟩
  have hxz : Ext w0 Z := by rw [← hZ]; exact (Ext.refl _).alloc _
  by_cases h60 : m1 ≤ 60 ∧ m2 ≤ 60
  rotate_left
  · have HSM := Lib.hid (sm_no2 w0 a1 m1 c1 a2 m2 c2 h60)
    rw [hZ] at HSM
    have HZ := Lib.hid hZ; have HEZ := Lib.hid (EX1.out.trans hxz)
    clear hZ hxz
    go_wp2_with (rw [HZ.out])
    refine HSM.out.mono ?_
    rintro e w' ⟨rfl, rfl⟩
    go_wp2_with fail
    go_ret
    exact ⟨rfl, HEZ.out⟩
  have HSM := Lib.hid (sm_yes2 w0 a1 m1 c1 a2 m2 c2 h60)
  rw [hZ] at HSM
  have HZ := Lib.hid hZ
  obtain ⟨q1, q2⟩ := h60
  clear hZ
  have D2 := Lib.hid hxz
  have EX2 := Lib.hid (EX1.out.trans hxz)
  clear hxz
  go_wp2_with (rw [HZ.out])
  refine HSM.out.mono ?_
  rintro e w' ⟨rfl, rfl⟩
  clear HSM
  obtain ⟨G, hG⟩ : ∃ X, Nat.gcd A B = X := ⟨_, rfl⟩
  have HG := Lib.hid hG
  have C1 := Lib.hid (gcd_at A B G (HA1.out.old EX2.out) (HA2.out.old EX2.out) HV1.out HV2.out HG.out (by omega) (by omega) (HTZ.out.old EX2.out))
  go_wp2_with fail
  refine C1.out.mono ?_
  rintro e w1 ⟨a1r, n1r, c1r, rfl, o1, x1, l1⟩
  have S1 := Lib.hid o1.sl
  clear o1
  have D3 := Lib.hid x1
  have EX3 := Lib.hid (EX2.out.trans x1)
  clear x1
  clear C1
  by_cases hG0 : G = 0
  · skip
    have z1 : n1r = 0 := S1.out.len_zero.2 hG0
    subst z1
    have hA0 : A = 0 := Nat.eq_zero_of_gcd_eq_zero_left (hG.trans hG0)
    have hB0 : B = 0 := Nat.eq_zero_of_gcd_eq_zero_right (hG.trans hG0)
    clear hG
    have C2 := Lib.hid (norm_at A (HA1.out.old EX3.out) HV1.out (by omega))
    go_wp2_with fail
    refine C2.out.mono ?_
    rintro e w2 ⟨a2r, n2r, c2r, rfl, o2, x2, l2⟩
    have S2 := Lib.hid o2.sl
    clear o2
    have D4 := Lib.hid x2
    have EX4 := Lib.hid (EX3.out.trans x2)
    clear x2
    clear C2
    have z2 : n2r = 0 := S2.out.len_zero.2 hA0
    subst z2
    have C3 := Lib.hid (norm_at B (HA2.out.old EX4.out) HV2.out (by omega))
    go_wp2_with fail
    refine C3.out.mono ?_
    rintro e w3 ⟨a3r, n3r, c3r, rfl, o3, x3, l3⟩
    have S3 := Lib.hid o3.sl
    clear o3
    have D5 := Lib.hid x3
    have EX5 := Lib.hid (EX4.out.trans x3)
    clear x3
    clear C3
    have z3 : n3r = 0 := S3.out.len_zero.2 hB0
    subst z3
    go_wp2_with fail
    go_ret
    exact ⟨rfl, EX5.out⟩
  · skip
    have z1 : ¬ n1r = 0 := fun h => hG0 (S1.out.len_zero.1 h)
    have z2 : ((n1r : Int) == 0) = false := by rw [beq_eq_false_iff_ne]; omega
    have HG0 := Lib.hid hG0
    have HDA := Lib.hid (show A % G = 0 from Nat.mod_eq_zero_of_dvd (hG ▸ Nat.gcd_dvd_left A B)); have HDB := Lib.hid (show B % G = 0 from Nat.mod_eq_zero_of_dvd (hG ▸ Nat.gcd_dvd_right A B))
    have HONE := Lib.hid (gcd_parts hG hG0)
    clear hG hG0
    obtain ⟨P, hP⟩ : ∃ X, A / G = X := ⟨_, rfl⟩
    obtain ⟨Q, hQ⟩ : ∃ X, B / G = X := ⟨_, rfl⟩
    rw [hP, hQ] at HONE
    have HP := Lib.hid hP; have HQ := Lib.hid hQ
    clear hP hQ
    have C2 := Lib.hid (divmod_at A G P 0 (HA1.out.old EX3.out) S1.out HV1.out (val_lim _) HG0.out HP.out HDA.out (by omega) (by omega))
    go_wp2_with fail
    refine C2.out.mono ?_
    rintro e w2 ⟨a2q, c2q, n2q, a2r, c2r, n2r, rfl, o2q, o2r, x2, l2q, l2r, -⟩
    have S2q := Lib.hid o2q.sl; have S2r := Lib.hid o2r.sl
    clear o2q o2r
    have D4 := Lib.hid x2
    have EX4 := Lib.hid (EX3.out.trans x2)
    clear x2
    clear C2
    have z3 : n2r = 0 := S2r.out.len_zero.2 rfl
    subst z3
    have C3 := Lib.hid (divmod_at B G Q 0 (HA2.out.old EX4.out) (S1.out.old D4.out) HV2.out (val_lim _) HG0.out HQ.out HDB.out (by omega) (by omega))
    go_wp2_with fail
    refine C3.out.mono ?_
    rintro e w3 ⟨a3q, c3q, n3q, a3r, c3r, n3r, rfl, o3q, o3r, x3, l3q, l3r, -⟩
    have S3q := Lib.hid o3q.sl; have S3r := Lib.hid o3r.sl
    clear o3q o3r
    have D5 := Lib.hid x3
    have EX5 := Lib.hid (EX4.out.trans x3)
    clear x3
    clear C3
    have z4 : n3r = 0 := S3r.out.len_zero.2 rfl
    subst z4
    have C4 := Lib.hid (gcd_at P Q 1 (S2q.out.old D5.out) S3q.out (val_lim _) (val_lim _) HONE.out (by omega) (by omega) (HTZ.out.old EX5.out))
    go_wp2_with fail
    refine C4.out.mono ?_
    rintro e w4 ⟨a4r, n4r, c4r, rfl, o4, x4, l4⟩
    have S4 := Lib.hid o4.sl
    clear o4
    have D6 := Lib.hid x4
    have EX6 := Lib.hid (EX5.out.trans x4)
    clear x4
    clear C4
    have C5 := Lib.hid (of_calls 1 (by decide) w4)
    go_wp2_with fail
    refine C5.out.mono ?_
    rintro e w5 ⟨a5r, n5r, c5r, rfl, o5, x5, l5⟩
    have S5 := Lib.hid o5.sl
    clear o5
    have D7 := Lib.hid x5
    have EX7 := Lib.hid (EX6.out.trans x5)
    clear x5
    clear C5
    have C6 := Lib.hid (hnat_yes (S4.out.old D7.out) S5.out rfl (by omega) (by omega))
    go_wp2_with fail
    refine C6.out.mono ?_
    rintro e w6 ⟨rfl, x6⟩
    have D8 := Lib.hid x6
    have EX8 := Lib.hid (EX7.out.trans x6)
    clear x6
    clear C6
    go_wp2_with fail
    go_ret
    exact ⟨rfl, EX8.out⟩

end Go.Proofs.YtkdkgmnjhimdeaaGreatDoor
