/- gleanlaw1.NatGcd: the walk. -/
import Derived.Test.YtkdkgmnjhimdeaaGreatDoorKnown1
import Derived.Test.YtkdkgmnjhimdeaaGreatDoorRefN
namespace Go.Proofs.YtkdkgmnjhimdeaaGreatDoor
open Go.RowKit

theorem pow10_no (n : Int) (h : ¬ (0 ≤ n ∧ n ≤ 4096)) (w : World) : Calls Tryz.prog 38 #[.int .i64 n] w (New2 w 1000 [] 12) := by
  have := pow10_calls n w
  unfold pow10L pow10E at this
  rwa [if_neg h, if_neg h] at this
set_option maxHeartbeats 1000000 in
set_option maxRecDepth 100000 in
theorem rpow_no (n : Int) (h : ¬ (0 ≤ n ∧ n ≤ 4096)) (w : World) : Calls Tryz.prog 39 #[.int .i64 n] w (New2 w 5000 [] 12) := by
  by_cases hn : n < 0
  · clear h
    go_enter Tryz.func39, Tryz.ntmps39
    go_wp2_with fail
    go_ret2
    exact ⟨none, 0, 0, rfl, Own.nil _ _, Ext.refl _, by omega⟩
  · have hb : 4096 < n := by omega
    clear h
    go_enter Tryz.func39, Tryz.ntmps39
    go_wp2_with fail
    go_ret2
    exact ⟨none, 0, 0, rfl, Own.nil _ _, Ext.refl _, by omega⟩
theorem rpow_at (n V : Nat) (hn : n ≤ 4096) (hv : 10 ^ n = V) (w : World) : Calls Tryz.prog 39 #[.int .i64 (n : Int)] w (New2 w 5000 (lim V) 0) := by
  have := rpow_calls n hn w
  rwa [hv] at this
theorem fgcd_at (X Y G : Nat) {a b : Option Addr} {m n c d : Nat} {xs ys : List Nat} {w : World} (ha : Sl w a m c xs) (hb : Sl w b n d ys) (hx : val xs = X) (hy : val ys = Y) (h : Nat.gcd X Y = G) (hm : m ≤ 100000) (hn : n ≤ 100000) :
    Calls Tryz.prog 41 #[.slice a m c, .slice b n d] w (New w (2 * m + 2 * n) (lim G)) := by
  subst hx hy h; exact fgcd_calls ha hb (by omega) (by omega)

set_option maxHeartbeats 16000000 in
set_option maxRecDepth 100000 in
theorem ngcd_law {a1 : Option Addr} {m1 c1 : Nat} {xs1 : List Nat} {a2 : Option Addr} {m2 c2 : Nat} {xs2 : List Nat} {w : World} {nn : Int} (hnn : -9223372036854775808 ≤ nn ∧ nn ≤ 9223372036854775807) (ha1 : Sl w a1 m1 c1 xs1) (ha2 : Sl w a2 m2 c2 xs2) (htab : Tab w) (htz : TzTab w) :
    Calls Tryz.prog 5 #[.slice a1 m1 c1, .slice a2 m2 c2, .int .i64 nn] w (RetE (.bool true) w) := by
  obtain ⟨A, hv1⟩ : ∃ X, val xs1 = X := ⟨_, rfl⟩
  have HV1 := Lib.hid hv1; have HA1 := Lib.hid ha1
  obtain ⟨B, hv2⟩ : ∃ X, val xs2 = X := ⟨_, rfl⟩
  have HV2 := Lib.hid hv2; have HA2 := Lib.hid ha2
  have HTZ := Lib.hid htz; have HT := Lib.hid htab
  have CK := Lib.hid (known1_calls w htab htz)
  clear hv1 ha1 hv2 ha2 htab htz
  go_enter Tryz.func5, Tryz.ntmps5
  go_wp2_with fail
  refine CK.out.mono ?_
  rintro e w0 ⟨rfl, hx0⟩
  have D1 := Lib.hid hx0
  have EX1 := Lib.hid hx0
  clear hx0
  clear CK
  obtain ⟨Z, hZ⟩ : ∃ Z, w0.alloc (.cells #[.slice a1 m1 c1, .slice a2 m2 c2] 23) = Z := ⟨_, rfl⟩
  have hxz : Ext w0 Z := by rw [← hZ]; exact (Ext.refl _).alloc _
  by_cases h60 : m1 ≤ 60 ∧ m2 ≤ 60
  rotate_left
  · have HSM := Lib.hid (sm_no2 w0 a1 m1 c1 a2 m2 c2 h60)
    rw [hZ] at HSM
    have HZ := Lib.hid hZ; have HEZ := Lib.hid (EX1.out.trans hxz)
    clear hZ hxz
    go_wp2_with (rw [HZ.out])
    refine HSM.out.mono ?_
    rintro e w' ⟨rfl, rfl⟩
    go_wp2_with fail
    go_ret
    exact ⟨rfl, HEZ.out⟩
  have HSM := Lib.hid (sm_yes2 w0 a1 m1 c1 a2 m2 c2 h60)
  rw [hZ] at HSM
  have HZ := Lib.hid hZ
  obtain ⟨q1, q2⟩ := h60
  clear hZ
  have D2 := Lib.hid hxz
  have EX2 := Lib.hid (EX1.out.trans hxz)
  clear hxz
  go_wp2_with (rw [HZ.out])
  refine HSM.out.mono ?_
  rintro e w' ⟨rfl, rfl⟩
  clear HSM
  obtain ⟨G, hG⟩ : ∃ X, Nat.gcd A B = X := ⟨_, rfl⟩
  have HG := Lib.hid hG; clear hG
  by_cases hN : 0 ≤ nn ∧ nn ≤ 4096
  · skip
    obtain ⟨N, rfl⟩ : ∃ N : Nat, nn = (N : Int) := ⟨nn.toNat, by omega⟩
    have hN4 : N ≤ 4096 := by omega
    obtain ⟨P, hP⟩ : ∃ X, 10 ^ N = X := ⟨_, rfl⟩
    have HP := Lib.hid hP; clear hP
    have C1 := Lib.hid (pow10_at N P hN4 HP.out Z)
    go_wp2_with fail
    refine C1.out.mono ?_
    rintro e w1 ⟨a1r, n1r, c1r, rfl, o1, x1, l1⟩
    have S1 := Lib.hid o1.sl
    clear o1
    have D3 := Lib.hid x1
    have EX3 := Lib.hid (EX2.out.trans x1)
    clear x1
    clear C1
    have C2 := Lib.hid (rpow_at N P hN4 HP.out w1)
    go_wp2_with fail
    refine C2.out.mono ?_
    rintro e w2 ⟨a2r, n2r, c2r, rfl, o2, x2, l2⟩
    have S2 := Lib.hid o2.sl
    clear o2
    have D4 := Lib.hid x2
    have EX4 := Lib.hid (EX3.out.trans x2)
    clear x2
    clear C2
    have C3 := Lib.hid (gcd_at A B G (HA1.out.old EX4.out) (HA2.out.old EX4.out) HV1.out HV2.out HG.out (by omega) (by omega) (HTZ.out.old EX4.out))
    go_wp2_with fail
    refine C3.out.mono ?_
    rintro e w3 ⟨a3r, n3r, c3r, rfl, o3, x3, l3⟩
    have S3 := Lib.hid o3.sl
    clear o3
    have D5 := Lib.hid x3
    have EX5 := Lib.hid (EX4.out.trans x3)
    clear x3
    clear C3
    have C4 := Lib.hid (fgcd_at A B G (HA1.out.old EX5.out) (HA2.out.old EX5.out) HV1.out HV2.out HG.out (by omega) (by omega))
    go_wp2_with fail
    refine C4.out.mono ?_
    rintro e w4 ⟨a4r, n4r, c4r, rfl, o4, x4, l4⟩
    have S4 := Lib.hid o4.sl
    clear o4
    have D6 := Lib.hid x4
    have EX6 := Lib.hid (EX5.out.trans x4)
    clear x4
    clear C4
    have C5 := Lib.hid (hnat_yes (S3.out.old D6.out) S4.out rfl (by omega) (by omega))
    go_wp2_with fail
    refine C5.out.mono ?_
    rintro e w5 ⟨rfl, x5⟩
    have D7 := Lib.hid x5
    have EX7 := Lib.hid (EX6.out.trans x5)
    clear x5
    clear C5
    have C6 := Lib.hid (hnat_yes (S1.out.old (Ext.trans D4.out (Ext.trans D5.out (Ext.trans D6.out D7.out)))) (S2.out.old (Ext.trans D5.out (Ext.trans D6.out D7.out))) rfl (by omega) (by omega))
    go_wp2_with fail
    refine C6.out.mono ?_
    rintro e w6 ⟨rfl, x6⟩
    have D8 := Lib.hid x6
    have EX8 := Lib.hid (EX7.out.trans x6)
    clear x6
    clear C6
    go_wp2_with fail
    go_ret
    exact ⟨rfl, EX8.out⟩
  · skip
    have HN := Lib.hid hN; clear hN
    have C1 := Lib.hid (pow10_no nn HN.out Z)
    go_wp2_with fail
    refine C1.out.mono ?_
    rintro e w1 ⟨a1r, n1r, c1r, rfl, o1, x1, l1⟩
    have S1 := Lib.hid o1.sl
    clear o1
    have D3 := Lib.hid x1
    have EX3 := Lib.hid (EX2.out.trans x1)
    clear x1
    clear C1
    have C2 := Lib.hid (rpow_no nn HN.out w1)
    go_wp2_with fail
    refine C2.out.mono ?_
    rintro e w2 ⟨a2r, n2r, c2r, rfl, o2, x2, l2⟩
    have S2 := Lib.hid o2.sl
    clear o2
    have D4 := Lib.hid x2
    have EX4 := Lib.hid (EX3.out.trans x2)
    clear x2
    clear C2
    have C3 := Lib.hid (gcd_at A B G (HA1.out.old EX4.out) (HA2.out.old EX4.out) HV1.out HV2.out HG.out (by omega) (by omega) (HTZ.out.old EX4.out))
    go_wp2_with fail
    refine C3.out.mono ?_
    rintro e w3 ⟨a3r, n3r, c3r, rfl, o3, x3, l3⟩
    have S3 := Lib.hid o3.sl
    clear o3
    have D5 := Lib.hid x3
    have EX5 := Lib.hid (EX4.out.trans x3)
    clear x3
    clear C3
    have C4 := Lib.hid (fgcd_at A B G (HA1.out.old EX5.out) (HA2.out.old EX5.out) HV1.out HV2.out HG.out (by omega) (by omega))
    go_wp2_with fail
    refine C4.out.mono ?_
    rintro e w4 ⟨a4r, n4r, c4r, rfl, o4, x4, l4⟩
    have S4 := Lib.hid o4.sl
    clear o4
    have D6 := Lib.hid x4
    have EX6 := Lib.hid (EX5.out.trans x4)
    clear x4
    clear C4
    have C5 := Lib.hid (hnat_yes (S3.out.old D6.out) S4.out rfl (by omega) (by omega))
    go_wp2_with fail
    refine C5.out.mono ?_
    rintro e w5 ⟨rfl, x5⟩
    have D7 := Lib.hid x5
    have EX7 := Lib.hid (EX6.out.trans x5)
    clear x5
    clear C5
    have C6 := Lib.hid (hnat_yes (S1.out.old (Ext.trans D4.out (Ext.trans D5.out (Ext.trans D6.out D7.out)))) (S2.out.old (Ext.trans D5.out (Ext.trans D6.out D7.out))) rfl (by omega) (by omega))
    go_wp2_with fail
    refine C6.out.mono ?_
    rintro e w6 ⟨rfl, x6⟩
    have D8 := Lib.hid x6
    have EX8 := Lib.hid (EX7.out.trans x6)
    clear x6
    clear C6
    go_wp2_with fail
    go_ret
    exact ⟨rfl, EX8.out⟩

end Go.Proofs.YtkdkgmnjhimdeaaGreatDoor
