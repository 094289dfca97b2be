/- gleanlaw1.NatBytes: the walk. -/
import Derived.Test.YtkdkgmnjhimdeaaGreatDoorKnown1
import Derived.Test.YtkdkgmnjhimdeaaGreatDoorRefY
namespace Go.Proofs.YtkdkgmnjhimdeaaGreatDoor
open Go.RowKit

theorem rbytes_at (X : Nat) (l : List Nat) {a : Option Addr} {n c : Nat} {xs : List Nat} {w : World} (ha : Sl w a n c xs) (hx : val xs = X) (hl : bytesOf X = l) (hn : n ≤ 60) :
    Calls Tryz.prog 47 #[.slice a n c] w (NewB w (8 * n) l) := by
  subst hx hl; exact rbytes_calls ha (by omega)
theorem fb_at (X : Nat) {a : Option Addr} {n c : Nat} {bs : List Nat} {w : World} (ha : SlB w a n c bs) (hn : n ≤ 480) (hz : ¬ (bs ≠ [] ∧ bs.getD 0 0 = 0)) (hv : nv 256 bs.reverse = X) :
    Calls Tryz.prog 43 #[.slice a n c] w (New2 w 1000 (lim X) 0) := by
  subst hv
  exact (frombytes_ok ha (by omega) hz).mono fun e w' ⟨a, n, c, h1, h2, h3, h4⟩ => ⟨a, n, c, h1, h2, h3, by omega⟩
theorem rfb_at (X : Nat) {a : Option Addr} {n c : Nat} {bs : List Nat} {w : World} (ha : SlB w a n c bs) (hn : n ≤ 480) (hz : ¬ (bs ≠ [] ∧ bs.getD 0 0 = 0)) (hv : nv 256 bs.reverse = X) :
    Calls Tryz.prog 44 #[.slice a n c] w (New2 w 1000 (lim X) 0) := by
  subst hv
  exact (rfrombytes_ok ha (by omega) hz).mono fun e w' ⟨a, n, c, h1, h2, h3, h4⟩ => ⟨a, n, c, h1, h2, h3, by omega⟩
theorem copyb_at {a : Option Addr} {n c : Nat} {bs : List Nat} {w : World} (ha : SlB w a n c bs) (hn : n ≤ 480) : Calls Tryz.prog 42 #[.slice a n c] w (NewB w 480 bs) :=
  (copybytes_calls ha (by omega)).mono fun e w' ⟨a, n, c, h1, h2, h3, h4⟩ => ⟨a, n, c, h1, h2, h3, by omega⟩

set_option maxHeartbeats 16000000 in
set_option maxRecDepth 100000 in
theorem nbyt_law {a1 : Option Addr} {m1 c1 : Nat} {xs1 : List Nat} {w : World} {ab : Option Addr} {nb cb : Nat} {bs : List Nat} (hB : SlB w ab nb cb bs) (ha1 : Sl w a1 m1 c1 xs1) (htab : Tab w) (htz : TzTab w) :
    Calls Tryz.prog 6 #[.slice a1 m1 c1, .slice ab nb cb] w (RetE (.bool true) w) := by
  obtain ⟨A, hv1⟩ : ∃ X, val xs1 = X := ⟨_, rfl⟩
  have HV1 := Lib.hid hv1; have HA1 := Lib.hid ha1
  have HTZ := Lib.hid htz; have HT := Lib.hid htab
  have CK := Lib.hid (known1_calls w htab htz)
  clear hv1 ha1 htab htz
  go_enter Tryz.func6, Tryz.ntmps6
  go_wp2_with fail
  refine CK.out.mono ?_
  rintro e w0 ⟨rfl, hx0⟩
  have D1 := Lib.hid hx0
  have EX1 := Lib.hid hx0
  clear hx0
  clear CK
  have HBB := Lib.hid hB; clear hB
  obtain ⟨Z, hZ⟩ : ∃ Z, w0.alloc (.cells #[.slice a1 m1 c1] 23) = Z := ⟨_, rfl⟩
  have hxz : Ext w0 Z := by rw [← hZ]; exact (Ext.refl _).alloc _
  by_cases h60 : m1 ≤ 60
  rotate_left
  · have HSM := Lib.hid (sm_no1 w0 a1 m1 c1 h60)
    rw [hZ] at HSM
    have HZ := Lib.hid hZ; have HEZ := Lib.hid (EX1.out.trans hxz)
    clear hZ hxz
    go_wp2_with (rw [HZ.out])
    refine HSM.out.mono ?_
    rintro e w' ⟨rfl, rfl⟩
    go_wp2_with fail
    go_ret
    exact ⟨rfl, HEZ.out⟩
  have HSM := Lib.hid (sm_yes1 w0 a1 m1 c1 h60)
  rw [hZ] at HSM
  have HZ := Lib.hid hZ
  clear hZ
  have D2 := Lib.hid hxz
  have EX2 := Lib.hid (EX1.out.trans hxz)
  clear hxz
  go_wp2_with (rw [HZ.out])
  refine HSM.out.mono ?_
  rintro e w' ⟨rfl, rfl⟩
  clear HSM
  by_cases h480 : nb ≤ 480
  rotate_left
  · have g1 : (480 : Int) < (nb : Int) := by omega
    go_wp2_with fail
    go_ret
    exact ⟨rfl, EX2.out⟩
  have g1 : ¬ (480 : Int) < (nb : Int) := by omega
  obtain ⟨X, hX⟩ : ∃ X, nv 256 bs.reverse = X := ⟨_, rfl⟩
  have HX := Lib.hid hX; clear hX
  have C1 := Lib.hid (copyb_at (HBB.out.old EX2.out) h480)
  go_wp2_with fail
  refine C1.out.mono ?_
  rintro e w1 ⟨a1r, n1r, c1r, rfl, o1, x1, l1⟩
  have S1 := Lib.hid o1.sl
  clear o1
  have D3 := Lib.hid x1
  have EX3 := Lib.hid (EX2.out.trans x1)
  clear x1
  clear C1
  by_cases hz : bs ≠ [] ∧ bs.getD 0 0 = 0
  · skip
    have HZ0 := Lib.hid hz; clear hz
    have C2 := Lib.hid (frombytes_no S1.out HZ0.out)
    go_wp2_with fail
    refine C2.out.mono ?_
    rintro e w2 ⟨a2r, n2r, c2r, rfl, o2, x2, l2⟩
    have S2 := Lib.hid o2.sl
    clear o2
    have D4 := Lib.hid x2
    have EX4 := Lib.hid (EX3.out.trans x2)
    clear x2
    clear C2
    have C3 := Lib.hid (rfrombytes_no (HBB.out.old EX4.out) HZ0.out)
    go_wp2_with fail
    refine C3.out.mono ?_
    rintro e w3 ⟨a3r, n3r, c3r, rfl, o3, x3, l3⟩
    have S3 := Lib.hid o3.sl
    clear o3
    have D5 := Lib.hid x3
    have EX5 := Lib.hid (EX4.out.trans x3)
    clear x3
    clear C3
    have C4 := Lib.hid (bytes_at A (bytesOf A) (HA1.out.old EX5.out) HV1.out rfl (by omega))
    go_wp2_with fail
    refine C4.out.mono ?_
    rintro e w4 ⟨a4r, n4r, c4r, rfl, o4, x4, l4⟩
    have S4 := Lib.hid o4.sl
    clear o4
    have D6 := Lib.hid x4
    have EX6 := Lib.hid (EX5.out.trans x4)
    clear x4
    clear C4
    have C5 := Lib.hid (rbytes_at A (bytesOf A) (HA1.out.old EX6.out) HV1.out rfl (by omega))
    go_wp2_with fail
    refine C5.out.mono ?_
    rintro e w5 ⟨a5r, n5r, c5r, rfl, o5, x5, l5⟩
    have S5 := Lib.hid o5.sl
    clear o5
    have D7 := Lib.hid x5
    have EX7 := Lib.hid (EX6.out.trans x5)
    clear x5
    clear C5
    have C6 := Lib.hid (hbytes_yes (S4.out.old D7.out) S5.out rfl (by omega) (by omega))
    go_wp2_with fail
    refine C6.out.mono ?_
    rintro e w6 ⟨rfl, x6⟩
    have D8 := Lib.hid x6
    have EX8 := Lib.hid (EX7.out.trans x6)
    clear x6
    clear C6
    have C7 := Lib.hid (hnat_yes (S2.out.old (Ext.trans D5.out (Ext.trans D6.out (Ext.trans D7.out D8.out)))) (S3.out.old (Ext.trans D6.out (Ext.trans D7.out D8.out))) rfl (by omega) (by omega))
    go_wp2_with fail
    refine C7.out.mono ?_
    rintro e w7 ⟨rfl, x7⟩
    have D9 := Lib.hid x7
    have EX9 := Lib.hid (EX8.out.trans x7)
    clear x7
    clear C7
    have C8 := Lib.hid (hbytes_yes (S1.out.old (Ext.trans D4.out (Ext.trans D5.out (Ext.trans D6.out (Ext.trans D7.out (Ext.trans D8.out D9.out)))))) (HBB.out.old EX9.out) rfl (by omega) (by omega))
    go_wp2_with fail
    refine C8.out.mono ?_
    rintro e w8 ⟨rfl, x8⟩
    have D10 := Lib.hid x8
    have EX10 := Lib.hid (EX9.out.trans x8)
    clear x8
    clear C8
    go_wp2_with fail
    go_ret
    exact ⟨rfl, EX10.out⟩
  · skip
    have HZ0 := Lib.hid hz; clear hz
    have C2 := Lib.hid (fb_at X S1.out (by omega) HZ0.out HX.out)
    go_wp2_with fail
    refine C2.out.mono ?_
    rintro e w2 ⟨a2r, n2r, c2r, rfl, o2, x2, l2⟩
    have S2 := Lib.hid o2.sl
    clear o2
    have D4 := Lib.hid x2
    have EX4 := Lib.hid (EX3.out.trans x2)
    clear x2
    clear C2
    have C3 := Lib.hid (rfb_at X (HBB.out.old EX4.out) h480 HZ0.out HX.out)
    go_wp2_with fail
    refine C3.out.mono ?_
    rintro e w3 ⟨a3r, n3r, c3r, rfl, o3, x3, l3⟩
    have S3 := Lib.hid o3.sl
    clear o3
    have D5 := Lib.hid x3
    have EX5 := Lib.hid (EX4.out.trans x3)
    clear x3
    clear C3
    have C4 := Lib.hid (bytes_at A (bytesOf A) (HA1.out.old EX5.out) HV1.out rfl (by omega))
    go_wp2_with fail
    refine C4.out.mono ?_
    rintro e w4 ⟨a4r, n4r, c4r, rfl, o4, x4, l4⟩
    have S4 := Lib.hid o4.sl
    clear o4
    have D6 := Lib.hid x4
    have EX6 := Lib.hid (EX5.out.trans x4)
    clear x4
    clear C4
    have C5 := Lib.hid (rbytes_at A (bytesOf A) (HA1.out.old EX6.out) HV1.out rfl (by omega))
    go_wp2_with fail
    refine C5.out.mono ?_
    rintro e w5 ⟨a5r, n5r, c5r, rfl, o5, x5, l5⟩
    have S5 := Lib.hid o5.sl
    clear o5
    have D7 := Lib.hid x5
    have EX7 := Lib.hid (EX6.out.trans x5)
    clear x5
    clear C5
    have C6 := Lib.hid (hbytes_yes (S4.out.old D7.out) S5.out rfl (by omega) (by omega))
    go_wp2_with fail
    refine C6.out.mono ?_
    rintro e w6 ⟨rfl, x6⟩
    have D8 := Lib.hid x6
    have EX8 := Lib.hid (EX7.out.trans x6)
    clear x6
    clear C6
    have C7 := Lib.hid (hnat_yes (S2.out.old (Ext.trans D5.out (Ext.trans D6.out (Ext.trans D7.out D8.out)))) (S3.out.old (Ext.trans D6.out (Ext.trans D7.out D8.out))) rfl (by omega) (by omega))
    go_wp2_with fail
    refine C7.out.mono ?_
    rintro e w7 ⟨rfl, x7⟩
    have D9 := Lib.hid x7
    have EX9 := Lib.hid (EX8.out.trans x7)
    clear x7
    clear C7
    have C8 := Lib.hid (hbytes_yes (S1.out.old (Ext.trans D4.out (Ext.trans D5.out (Ext.trans D6.out (Ext.trans D7.out (Ext.trans D8.out D9.out)))))) (HBB.out.old EX9.out) rfl (by omega) (by omega))
    go_wp2_with fail
    refine C8.out.mono ?_
    rintro e w8 ⟨rfl, x8⟩
    have D10 := Lib.hid x8
    have EX10 := Lib.hid (EX9.out.trans x8)
    clear x8
    clear C8
    go_wp2_with fail
    go_ret
    exact ⟨rfl, EX10.out⟩

end Go.Proofs.YtkdkgmnjhimdeaaGreatDoor
