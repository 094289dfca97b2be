/- gleanlaw1.NatText: the walk. -/
import Derived.Test.YtkdkgmnjhimdeaaGreatDoorKnown1
import Derived.Test.YtkdkgmnjhimdeaaGreatDoorRefX
namespace Go.Proofs.YtkdkgmnjhimdeaaGreatDoor
open Go.RowKit

theorem text_any {a : Option Addr} {n c : Nat} {xs : List Nat} {w : World} (X : Nat) (T : ByteArray) (ha : Sl w a n c xs) (hx : val xs = X) (hT : (⟨(Lib.decDigits X).toArray⟩ : ByteArray) = T) (hn : n ≤ 60) (ht : Tab w) :
    Calls Tryz.prog 50 #[.slice a n c] w (RetE (.string T) w) := by
  subst hx hT; exact text_calls ha (by omega) ht
theorem rtext_any {a : Option Addr} {n c : Nat} {xs : List Nat} {w : World} (X : Nat) (T : ByteArray) (ha : Sl w a n c xs) (hx : val xs = X) (hT : (⟨(Lib.decDigits X).toArray⟩ : ByteArray) = T) (hn : n ≤ 60) :
    Calls Tryz.prog 51 #[.slice a n c] w (RetE (.string T) w) := by
  subst hx hT; exact rtext_calls ha (by omega)
theorem parse_str (S : ByteArray) (P : List Nat) (E : Int) (hP : prL S.data.toList = P) (hE : prE S.data.toList = E) (hl : S.size ≤ 1200) (w : World) : Calls Tryz.prog 48 #[.string S] w (New2 w 1200 P E) := by
  have hs : S.data.toList.length = S.size := by rw [Array.length_toList]; rfl
  have := parse_any S.data.toList (by omega) w
  rw [hP, hE] at this
  exact Calls.mono this fun e w' ⟨a, n, c, h1, h2, h3, h4⟩ => ⟨a, n, c, h1, h2, h3, by omega⟩
theorem rparse_str (S : ByteArray) (P : List Nat) (E : Int) (hP : prL S.data.toList = P) (hE : prE S.data.toList = E) (hl : S.size ≤ 1200) (w : World) : Calls Tryz.prog 49 #[.string S] w (New2 w 1200 P E) := by
  have hs : S.data.toList.length = S.size := by rw [Array.length_toList]; rfl
  have := rparse_calls S.data.toList (by omega) w
  rw [hP, hE] at this
  exact Calls.mono this fun e w' ⟨a, n, c, h1, h2, h3, h4⟩ => ⟨a, n, c, h1, h2, h3, by omega⟩

set_option maxHeartbeats 16000000 in
set_option maxRecDepth 100000 in
theorem ntxt_law {a1 : Option Addr} {m1 c1 : Nat} {xs1 : List Nat} {w : World} (S : ByteArray) (ha1 : Sl w a1 m1 c1 xs1) (htab : Tab w) (htz : TzTab w) :
    Calls Tryz.prog 7 #[.slice a1 m1 c1, .string S] w (RetE (.bool true) w) := by
  obtain ⟨A, hv1⟩ : ∃ X, val xs1 = X := ⟨_, rfl⟩
  have HV1 := Lib.hid hv1; have HA1 := Lib.hid ha1
  have HTZ := Lib.hid htz; have HT := Lib.hid htab
  have CK := Lib.hid (known1_calls w htab htz)
  clear hv1 ha1 htab htz
  go_enter Tryz.func7, Tryz.ntmps7
  go_wp2_with fail
  refine CK.out.mono ?_
  rintro e w0 ⟨rfl, hx0⟩
  have D1 := Lib.hid hx0
  have EX1 := Lib.hid hx0
  clear hx0
  clear CK
  obtain ⟨P, hP⟩ : ∃ X, prL S.data.toList = X := ⟨_, rfl⟩
  obtain ⟨E, hE⟩ : ∃ X : Int, prE S.data.toList = X := ⟨_, rfl⟩
  obtain ⟨T, hT⟩ : ∃ X : ByteArray, (⟨(Lib.decDigits A).toArray⟩ : ByteArray) = X := ⟨_, rfl⟩
  have HP := Lib.hid hP; have HE_ := Lib.hid hE; have HTX := Lib.hid hT
  clear hP hE hT
  obtain ⟨Z, hZ⟩ : ∃ Z, w0.alloc (.cells #[.slice a1 m1 c1] 23) = Z := ⟨_, rfl⟩
  have hxz : Ext w0 Z := by rw [← hZ]; exact (Ext.refl _).alloc _
  by_cases h60 : m1 ≤ 60
  rotate_left
  · have HSM := Lib.hid (sm_no1 w0 a1 m1 c1 h60)
    rw [hZ] at HSM
    have HZ := Lib.hid hZ; have HEZ := Lib.hid (EX1.out.trans hxz)
    clear hZ hxz
    go_wp2_with (rw [HZ.out])
    refine HSM.out.mono ?_
    rintro e w' ⟨rfl, rfl⟩
    go_wp2_with fail
    go_ret
    exact ⟨rfl, HEZ.out⟩
  have HSM := Lib.hid (sm_yes1 w0 a1 m1 c1 h60)
  rw [hZ] at HSM
  have HZ := Lib.hid hZ
  clear hZ
  have D2 := Lib.hid hxz
  have EX2 := Lib.hid (EX1.out.trans hxz)
  clear hxz
  go_wp2_with (rw [HZ.out])
  refine HSM.out.mono ?_
  rintro e w' ⟨rfl, rfl⟩
  clear HSM
  by_cases hS : S.size ≤ 1200
  rotate_left
  · have g1 : (1200 : Int) < (S.size : Int) := by omega
    go_wp2_with fail
    go_ret
    exact ⟨rfl, EX2.out⟩
  have g1 : ¬ (1200 : Int) < (S.size : Int) := by omega
  have C1 := Lib.hid (parse_str S P E HP.out HE_.out hS Z)
  go_wp2_with fail
  refine C1.out.mono ?_
  rintro e w1 ⟨a1r, n1r, c1r, rfl, o1, x1, l1⟩
  have S1 := Lib.hid o1.sl
  clear o1
  have D3 := Lib.hid x1
  have EX3 := Lib.hid (EX2.out.trans x1)
  clear x1
  clear C1
  have C2 := Lib.hid (rparse_str S P E HP.out HE_.out hS w1)
  go_wp2_with fail
  refine C2.out.mono ?_
  rintro e w2 ⟨a2r, n2r, c2r, rfl, o2, x2, l2⟩
  have S2 := Lib.hid o2.sl
  clear o2
  have D4 := Lib.hid x2
  have EX4 := Lib.hid (EX3.out.trans x2)
  clear x2
  clear C2
  have C3 := Lib.hid (text_any A T (HA1.out.old EX4.out) HV1.out HTX.out (by omega) (HT.out.old EX4.out))
  go_wp2_with fail
  refine C3.out.mono ?_
  rintro e w3 ⟨rfl, x3⟩
  have D5 := Lib.hid x3
  have EX5 := Lib.hid (EX4.out.trans x3)
  clear x3
  clear C3
  have C4 := Lib.hid (rtext_any A T (HA1.out.old EX5.out) HV1.out HTX.out (by omega))
  go_wp2_with fail
  refine C4.out.mono ?_
  rintro e w4 ⟨rfl, x4⟩
  have D6 := Lib.hid x4
  have EX6 := Lib.hid (EX5.out.trans x4)
  clear x4
  clear C4
  have C5 := Lib.hid (hnat_yes (S1.out.old (Ext.trans D4.out (Ext.trans D5.out D6.out))) (S2.out.old (Ext.trans D5.out D6.out)) rfl (by omega) (by omega))
  go_wp2_with fail
  refine C5.out.mono ?_
  rintro e w5 ⟨rfl, x5⟩
  have D7 := Lib.hid x5
  have EX7 := Lib.hid (EX6.out.trans x5)
  clear x5
  clear C5
  go_wp2_with fail
  go_ret
  exact ⟨rfl, EX7.out⟩

end Go.Proofs.YtkdkgmnjhimdeaaGreatDoor
