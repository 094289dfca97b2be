/- gleanlaw1.NatSums: the walk. -/
import Derived.Test.YtkdkgmnjhimdeaaGreatDoorKnown1
import Derived.Test.YtkdkgmnjhimdeaaGreatDoorFree
import Derived.Test.YtkdkgmnjhimdeaaGreatDoorRefM
namespace Go.Proofs.YtkdkgmnjhimdeaaGreatDoor
open Go.RowKit

theorem small_at (X V : Nat) (q : Bool) {a : Option Addr} {m c : Nat} {xs : List Nat} {w : World} (ha : Sl w a m c xs) (hx : val xs = X) (hv : smallV X = V) (hq : decide (X < B64) = q) :
    Calls Tryz.prog 23 #[.slice a m c] w (Ret (.tuple #[.int .u64 (V : Int), .bool q]) w) := by
  subst hx hv hq; exact small_calls ha
theorem rsmall_at (X V : Nat) (q : Bool) {a : Option Addr} {m c : Nat} {xs : List Nat} {w : World} (ha : Sl w a m c xs) (hx : val xs = X) (hv : smallV X = V) (hq : decide (X < B64) = q) (hm : m ≤ 60) :
    Calls Tryz.prog 24 #[.slice a m c] w (RetE (.tuple #[.int .u64 (V : Int), .bool q]) w) := by
  subst hx hv hq; exact rsmallA_calls ha (by omega)
theorem rbits_at (X L : Nat) {a : Option Addr} {m c : Nat} {xs : List Nat} {w : World} (ha : Sl w a m c xs) (hx : val xs = X) (h : bitLen X = L) (hm : m ≤ 60) :
    Calls Tryz.prog 32 #[.slice a m c] w (RetE (.int .i64 (L : Int)) w) := by
  subst hx h; exact rbits_calls ha (by omega)
def subL (X Y : Nat) : List Nat := if X < Y then [] else lim (X - Y)
def subE (X Y : Nat) : Int := if X < Y then 10 else 0
theorem subq_at (X Y : Nat) (E : Int) (P : List Nat) {a b : Option Addr} {m n c d : Nat} {xs ys : List Nat} {w : World} (ha : Sl w a m c xs) (hb : Sl w b n d ys) (hx : val xs = X) (hy : val ys = Y) (hE : subE X Y = E) (hP : subL X Y = P) (hm : m ≤ 60) (hn : n ≤ 60) :
    Calls Tryz.prog 21 #[.slice a m c, .slice b n d] w (New2 w 60 P E) := by
  subst hE hP
  unfold subL subE
  by_cases h : X < Y
  · rw [if_pos h, if_pos h]
    exact (sub_calls_lt ha hb (by omega) (by omega) (by rw [hx, hy]; exact h)).mono fun e w' ⟨a, n, c, h1, h2, h3, h4⟩ => ⟨a, n, c, h1, h2, h3, by omega⟩
  · rw [if_neg h, if_neg h]
    have := sub_calls_ge ha hb (by omega) (by omega) (by rw [hx, hy]; exact Nat.le_of_not_lt h)
    rw [hx, hy] at this
    exact this.mono fun e w' ⟨a, n, c, h1, h2, h3, h4⟩ => ⟨a, n, c, h1, h2, h3, by omega⟩
theorem rsubq_at (X Y : Nat) (E : Int) (P : List Nat) {a b : Option Addr} {m n c d : Nat} {xs ys : List Nat} {w : World} (ha : Sl w a m c xs) (hb : Sl w b n d ys) (hx : val xs = X) (hy : val ys = Y) (hE : subE X Y = E) (hP : subL X Y = P) (hm : m ≤ 60) (hn : n ≤ 60) :
    Calls Tryz.prog 22 #[.slice a m c, .slice b n d] w (New2 w 120 P E) := by
  subst hE hP
  unfold subL subE
  by_cases h : X < Y
  · rw [if_pos h, if_pos h]
    exact (fsub_below X Y ha hb hx hy (by omega) (by omega) h).mono fun e w' ⟨a, n, c, h1, h2, h3, h4⟩ => ⟨a, n, c, h1, h2, h3, by omega⟩
  · rw [if_neg h, if_neg h]
    exact (fsub_ok X Y ha hb hx hy (by omega) (by omega) (Nat.le_of_not_lt h)).mono fun e w' ⟨a, n, c, h1, h2, h3, h4⟩ => ⟨a, n, c, h1, h2, h3, by omega⟩
theorem fadd_at (X Y : Nat) {a b : Option Addr} {m n c d : Nat} {xs ys : List Nat} {w : World} (ha : Sl w a m c xs) (hb : Sl w b n d ys) (hx : val xs = X) (hy : val ys = Y) (hm : m ≤ 60) (hn : n ≤ 60) :
    Calls Tryz.prog 26 #[.slice a m c, .slice b n d] w (New w (2 * m + 2 * n + 1) (lim (X + Y))) := by
  subst hx hy; exact fadd_calls ha hb (by omega) (by omega)
theorem fmul_at (X Y : Nat) {a b : Option Addr} {m n c d : Nat} {xs ys : List Nat} {w : World} (ha : Sl w a m c xs) (hb : Sl w b n d ys) (hx : val xs = X) (hy : val ys = Y) (hm : m ≤ 60) (hn : n ≤ 60) :
    Calls Tryz.prog 27 #[.slice a m c, .slice b n d] w (New w (2 * m + 2 * n) (lim (X * Y))) := by
  subst hx hy; exact fmul_calls ha hb (by omega) (by omega)
theorem rnorm_at (X : Nat) {a : Option Addr} {m c : Nat} {xs : List Nat} {w : World} (ha : Sl w a m c xs) (hx : val xs = X) (hm : m ≤ 60) :
    Calls Tryz.prog 28 #[.slice a m c] w (New w (2 * m) (lim X)) := by
  subst hx; exact rnorm_calls ha (by omega)
theorem rCmp_at (X Y : Nat) (q : Int) {a b : Option Addr} {m n c d : Nat} {xs ys : List Nat} {w : World} (ha : Sl w a m c xs) (hb : Sl w b n d ys) (hx : val xs = X) (hy : val ys = Y) (h : cmpN X Y = q) (hm : m ≤ 60) (hn : n ≤ 60) :
    Calls Tryz.prog 30 #[.slice a m c, .slice b n d] w (RetE (.int .i64 q) w) := by
  subst hx hy h; exact rCmp_calls ha hb (by omega) (by omega)

set_option maxHeartbeats 16000000 in
set_option maxRecDepth 100000 in
theorem nsums_law {a1 : Option Addr} {m1 c1 : Nat} {xs1 : List Nat} {a2 : Option Addr} {m2 c2 : Nat} {xs2 : List Nat} {w : World} (ha1 : Sl w a1 m1 c1 xs1) (ha2 : Sl w a2 m2 c2 xs2) (htab : Tab w) (htz : TzTab w) :
    Calls Tryz.prog 3 #[.slice a1 m1 c1, .slice a2 m2 c2] w (RetE (.bool true) w) := by
  obtain ⟨A, hv1⟩ : ∃ X, val xs1 = X := ⟨_, rfl⟩
  have HV1 := Lib.hid hv1; have HA1 := Lib.hid ha1
  obtain ⟨B, hv2⟩ : ∃ X, val xs2 = X := ⟨_, rfl⟩
  have HV2 := Lib.hid hv2; have HA2 := Lib.hid ha2
  have HTZ := Lib.hid htz; have HT := Lib.hid htab
  have CK := Lib.hid (known1_calls w htab htz)
  clear hv1 ha1 hv2 ha2 htab htz
  go_enter Tryz.func3, Tryz.ntmps3
  go_wp2_with fail
  refine CK.out.mono ?_
  rintro e w0 ⟨rfl, hx0⟩
  have D1 := Lib.hid hx0
  have EX1 := Lib.hid hx0
  clear hx0
  clear CK
  obtain ⟨Z, hZ⟩ : ∃ Z, w0.alloc (.cells #[.slice a1 m1 c1, .slice a2 m2 c2] 23) = Z := ⟨_, rfl⟩
  have hxz : Ext w0 Z := by rw [← hZ]; exact (Ext.refl _).alloc _
  by_cases h60 : m1 ≤ 60 ∧ m2 ≤ 60
  rotate_left
  · have HSM := Lib.hid (sm_no2 w0 a1 m1 c1 a2 m2 c2 h60)
    rw [hZ] at HSM
    have HZ := Lib.hid hZ; have HEZ := Lib.hid (EX1.out.trans hxz)
    clear hZ hxz
    go_wp2_with (rw [HZ.out])
    refine HSM.out.mono ?_
    rintro e w' ⟨rfl, rfl⟩
    go_wp2_with fail
    go_ret
    exact ⟨rfl, HEZ.out⟩
  have HSM := Lib.hid (sm_yes2 w0 a1 m1 c1 a2 m2 c2 h60)
  rw [hZ] at HSM
  have HZ := Lib.hid hZ
  obtain ⟨q1, q2⟩ := h60
  clear hZ
  have D2 := Lib.hid hxz
  have EX2 := Lib.hid (EX1.out.trans hxz)
  clear hxz
  go_wp2_with (rw [HZ.out])
  refine HSM.out.mono ?_
  rintro e w' ⟨rfl, rfl⟩
  clear HSM
  obtain ⟨E1, hE1⟩ : ∃ X : Int, subE A B = X := ⟨_, rfl⟩
  obtain ⟨P1, hP1⟩ : ∃ X, subL A B = X := ⟨_, rfl⟩
  obtain ⟨V1, hV1⟩ : ∃ X, smallV A = X := ⟨_, rfl⟩
  obtain ⟨b1, hb1⟩ : ∃ X : Bool, decide (A < B64) = X := ⟨_, rfl⟩
  obtain ⟨u, hu⟩ : ∃ X : Int, cmpN A B = X := ⟨_, rfl⟩
  obtain ⟨LA, hLA⟩ : ∃ X, bitLen A = X := ⟨_, rfl⟩
  have HE1_ := Lib.hid hE1; clear hE1
  have HP1_ := Lib.hid hP1; clear hP1
  have HV1_ := Lib.hid hV1; clear hV1
  have Hb1_ := Lib.hid hb1; clear hb1
  have Hu_ := Lib.hid hu; clear hu
  have HLA_ := Lib.hid hLA; clear hLA
  have C1 := Lib.hid (copy_at (HA1.out.old EX2.out) (by omega))
  go_wp2_with fail
  refine C1.out.mono ?_
  rintro e w1 ⟨a1r, n1r, c1r, rfl, o1, x1, l1⟩
  have S1 := Lib.hid o1.sl
  clear o1
  have D3 := Lib.hid x1
  have EX3 := Lib.hid (EX2.out.trans x1)
  clear x1
  clear C1
  have C2 := Lib.hid (copy_at (HA2.out.old EX3.out) (by omega))
  go_wp2_with fail
  refine C2.out.mono ?_
  rintro e w2 ⟨a2r, n2r, c2r, rfl, o2, x2, l2⟩
  have S2 := Lib.hid o2.sl
  clear o2
  have D4 := Lib.hid x2
  have EX4 := Lib.hid (EX3.out.trans x2)
  clear x2
  clear C2
  go_wp2_with fail
  go_loopw [7] (fun iv wr => LoopRel w2 iv wr) (fun iv _ => 2 - (intOf iv).toNat)
  case atStart => exact ⟨0, by omega, rfl, Ext.refl _⟩
  case round =>
    obtain ⟨k, hk, rfl, hex⟩ := hrel
    have D5 := Lib.hid hex
    have EX5 := Lib.hid (EX4.out.trans hex)
    clear hex
    by_cases hk2 : k = 2
    · skip
      subst hk2
      have C3 := Lib.hid (hnat_yes (S1.out.old (Ext.trans D4.out D5.out)) (HA1.out.old EX5.out) rfl (by omega) (by omega))
      go_wp2_with fail
      refine C3.out.mono ?_
      rintro e w3 ⟨rfl, x3⟩
      have D6 := Lib.hid x3
      have EX6 := Lib.hid (EX5.out.trans x3)
      clear x3
      clear C3
      have C4 := Lib.hid (hnat_yes (S2.out.old (Ext.trans D5.out D6.out)) (HA2.out.old EX6.out) rfl (by omega) (by omega))
      go_wp2_with fail
      refine C4.out.mono ?_
      rintro e w4 ⟨rfl, x4⟩
      have D7 := Lib.hid x4
      have EX7 := Lib.hid (EX6.out.trans x4)
      clear x4
      clear C4
      go_wp2_with fail
      go_ret
      exact ⟨rfl, EX7.out⟩
    · skip
      have hlt : (k : Int) < 2 := by omega
      have C3 := Lib.hid (add_at A B (A + B) (S1.out.old (Ext.trans D4.out D5.out)) (S2.out.old D5.out) HV1.out HV2.out rfl (by omega) (by omega))
      go_wp2_with fail
      refine C3.out.mono ?_
      rintro e w3 ⟨a3r, n3r, c3r, rfl, o3, x3, l3⟩
      have S3 := Lib.hid o3.sl; have O3r := Lib.hid o3
      clear o3
      clear C3
      have D6 := Lib.hid x3
      have EX6 := Lib.hid (EX5.out.trans x3)
      clear x3
      have C4 := Lib.hid (mul_at A B (A * B) (S1.out.old (Ext.trans D4.out (Ext.trans D5.out D6.out))) (S2.out.old (Ext.trans D5.out D6.out)) HV1.out HV2.out rfl (by omega) (by omega))
      go_wp2_with fail
      refine C4.out.mono ?_
      rintro e w4 ⟨a4r, n4r, c4r, rfl, o4, x4, l4⟩
      have S4 := Lib.hid o4.sl; have O4r := Lib.hid o4
      clear o4
      clear C4
      have D7 := Lib.hid x4
      have EX7 := Lib.hid (EX6.out.trans x4)
      clear x4
      have C5 := Lib.hid (norm_at A (S1.out.old (Ext.trans D4.out (Ext.trans D5.out (Ext.trans D6.out D7.out)))) HV1.out (by omega))
      go_wp2_with fail
      refine C5.out.mono ?_
      rintro e w5 ⟨a5r, n5r, c5r, rfl, o5, x5, l5⟩
      have S5 := Lib.hid o5.sl; have O5r := Lib.hid o5
      clear o5
      clear C5
      have D8 := Lib.hid x5
      have EX8 := Lib.hid (EX7.out.trans x5)
      clear x5
      have C6 := Lib.hid (subq_at A B E1 P1 (S1.out.old (Ext.trans D4.out (Ext.trans D5.out (Ext.trans D6.out (Ext.trans D7.out D8.out))))) (S2.out.old (Ext.trans D5.out (Ext.trans D6.out (Ext.trans D7.out D8.out)))) HV1.out HV2.out HE1_.out HP1_.out (by omega) (by omega))
      go_wp2_with fail
      refine C6.out.mono ?_
      rintro e w6 ⟨a6r, n6r, c6r, rfl, o6, x6, l6⟩
      have S6 := Lib.hid o6.sl; have O6r := Lib.hid o6
      clear o6
      clear C6
      have D9 := Lib.hid x6
      have EX9 := Lib.hid (EX8.out.trans x6)
      clear x6
      have C7 := Lib.hid (rsubq_at A B E1 P1 (HA1.out.old EX9.out) (HA2.out.old EX9.out) HV1.out HV2.out HE1_.out HP1_.out (by omega) (by omega))
      go_wp2_with fail
      refine C7.out.mono ?_
      rintro e w7 ⟨a7r, n7r, c7r, rfl, o7, x7, l7⟩
      have S7 := Lib.hid o7.sl
      clear o7
      have D10 := Lib.hid x7
      have EX10 := Lib.hid (EX9.out.trans x7)
      clear x7
      clear C7
      have C8 := Lib.hid (small_at A V1 b1 (S1.out.old (Ext.trans D4.out (Ext.trans D5.out (Ext.trans D6.out (Ext.trans D7.out (Ext.trans D8.out (Ext.trans D9.out D10.out))))))) HV1.out HV1_.out Hb1_.out)
      go_wp2_with fail
      refine C8.out.mono ?_
      rintro e w' ⟨rfl, rfl⟩
      clear C8
      have C9 := Lib.hid (rsmall_at A V1 b1 (HA1.out.old EX10.out) HV1.out HV1_.out Hb1_.out (by omega))
      go_wp2_with fail
      refine C9.out.mono ?_
      rintro e w9 ⟨rfl, x9⟩
      have D11 := Lib.hid x9
      have EX11 := Lib.hid (EX10.out.trans x9)
      clear x9
      clear C9
      have C10 := Lib.hid (fadd_at A B (HA1.out.old EX11.out) (HA2.out.old EX11.out) HV1.out HV2.out (by omega) (by omega))
      go_wp2_with fail
      refine C10.out.mono ?_
      rintro e w10 ⟨a10r, n10r, c10r, rfl, o10, x10, l10⟩
      have S10 := Lib.hid o10.sl
      clear o10
      have D12 := Lib.hid x10
      have EX12 := Lib.hid (EX11.out.trans x10)
      clear x10
      clear C10
      have C11 := Lib.hid (hnat_yes (S3.out.old (Ext.trans D7.out (Ext.trans D8.out (Ext.trans D9.out (Ext.trans D10.out (Ext.trans D11.out D12.out)))))) S10.out rfl (by omega) (by omega))
      go_wp2_with fail
      refine C11.out.mono ?_
      rintro e w11 ⟨rfl, x11⟩
      have D13 := Lib.hid x11
      have EX13 := Lib.hid (EX12.out.trans x11)
      clear x11
      clear C11
      have C12 := Lib.hid (fmul_at A B (HA1.out.old EX13.out) (HA2.out.old EX13.out) HV1.out HV2.out (by omega) (by omega))
      go_wp2_with fail
      refine C12.out.mono ?_
      rintro e w12 ⟨a12r, n12r, c12r, rfl, o12, x12, l12⟩
      have S12 := Lib.hid o12.sl
      clear o12
      have D14 := Lib.hid x12
      have EX14 := Lib.hid (EX13.out.trans x12)
      clear x12
      clear C12
      have C13 := Lib.hid (hnat_yes (S4.out.old (Ext.trans D8.out (Ext.trans D9.out (Ext.trans D10.out (Ext.trans D11.out (Ext.trans D12.out (Ext.trans D13.out D14.out))))))) S12.out rfl (by omega) (by omega))
      go_wp2_with fail
      refine C13.out.mono ?_
      rintro e w13 ⟨rfl, x13⟩
      have D15 := Lib.hid x13
      have EX15 := Lib.hid (EX14.out.trans x13)
      clear x13
      clear C13
      have C14 := Lib.hid (rnorm_at A (HA1.out.old EX15.out) HV1.out (by omega))
      go_wp2_with fail
      refine C14.out.mono ?_
      rintro e w14 ⟨a14r, n14r, c14r, rfl, o14, x14, l14⟩
      have S14 := Lib.hid o14.sl
      clear o14
      have D16 := Lib.hid x14
      have EX16 := Lib.hid (EX15.out.trans x14)
      clear x14
      clear C14
      have C15 := Lib.hid (hnat_yes (S5.out.old (Ext.trans D9.out (Ext.trans D10.out (Ext.trans D11.out (Ext.trans D12.out (Ext.trans D13.out (Ext.trans D14.out (Ext.trans D15.out D16.out)))))))) S14.out rfl (by omega) (by omega))
      go_wp2_with fail
      refine C15.out.mono ?_
      rintro e w15 ⟨rfl, x15⟩
      have D17 := Lib.hid x15
      have EX17 := Lib.hid (EX16.out.trans x15)
      clear x15
      clear C15
      have C16 := Lib.hid (hnat_yes (S6.out.old (Ext.trans D10.out (Ext.trans D11.out (Ext.trans D12.out (Ext.trans D13.out (Ext.trans D14.out (Ext.trans D15.out (Ext.trans D16.out D17.out)))))))) (S7.out.old (Ext.trans D11.out (Ext.trans D12.out (Ext.trans D13.out (Ext.trans D14.out (Ext.trans D15.out (Ext.trans D16.out D17.out))))))) rfl (by omega) (by omega))
      go_wp2_with fail
      refine C16.out.mono ?_
      rintro e w16 ⟨rfl, x16⟩
      have D18 := Lib.hid x16
      have EX18 := Lib.hid (EX17.out.trans x16)
      clear x16
      clear C16
      have C17 := Lib.hid (cmp_at A B u (S1.out.old (Ext.trans D4.out (Ext.trans D5.out (Ext.trans D6.out (Ext.trans D7.out (Ext.trans D8.out (Ext.trans D9.out (Ext.trans D10.out (Ext.trans D11.out (Ext.trans D12.out (Ext.trans D13.out (Ext.trans D14.out (Ext.trans D15.out (Ext.trans D16.out (Ext.trans D17.out D18.out))))))))))))))) (S2.out.old (Ext.trans D5.out (Ext.trans D6.out (Ext.trans D7.out (Ext.trans D8.out (Ext.trans D9.out (Ext.trans D10.out (Ext.trans D11.out (Ext.trans D12.out (Ext.trans D13.out (Ext.trans D14.out (Ext.trans D15.out (Ext.trans D16.out (Ext.trans D17.out D18.out)))))))))))))) HV1.out HV2.out Hu_.out (by omega) (by omega))
      go_wp2_with fail
      refine C17.out.mono ?_
      rintro e w17 ⟨rfl, x17⟩
      have D19 := Lib.hid x17
      have EX19 := Lib.hid (EX18.out.trans x17)
      clear x17
      clear C17
      have C18 := Lib.hid (rCmp_at A B u (HA1.out.old EX19.out) (HA2.out.old EX19.out) HV1.out HV2.out Hu_.out (by omega) (by omega))
      go_wp2_with fail
      refine C18.out.mono ?_
      rintro e w18 ⟨rfl, x18⟩
      have D20 := Lib.hid x18
      have EX20 := Lib.hid (EX19.out.trans x18)
      clear x18
      clear C18
      have C19 := Lib.hid (bits_at A LA (S1.out.old (Ext.trans D4.out (Ext.trans D5.out (Ext.trans D6.out (Ext.trans D7.out (Ext.trans D8.out (Ext.trans D9.out (Ext.trans D10.out (Ext.trans D11.out (Ext.trans D12.out (Ext.trans D13.out (Ext.trans D14.out (Ext.trans D15.out (Ext.trans D16.out (Ext.trans D17.out (Ext.trans D18.out (Ext.trans D19.out D20.out))))))))))))))))) HV1.out HLA_.out (by omega))
      go_wp2_with fail
      refine C19.out.mono ?_
      rintro e w' ⟨rfl, rfl⟩
      clear C19
      have C20 := Lib.hid (rbits_at A LA (HA1.out.old EX20.out) HV1.out HLA_.out (by omega))
      go_wp2_with fail
      refine C20.out.mono ?_
      rintro e w20 ⟨rfl, x20⟩
      have D21 := Lib.hid x20
      have EX21 := Lib.hid (EX20.out.trans x20)
      clear x20
      clear C20
      have C21 := Lib.hid (hnat_yes (S1.out.old (Ext.trans D4.out (Ext.trans D5.out (Ext.trans D6.out (Ext.trans D7.out (Ext.trans D8.out (Ext.trans D9.out (Ext.trans D10.out (Ext.trans D11.out (Ext.trans D12.out (Ext.trans D13.out (Ext.trans D14.out (Ext.trans D15.out (Ext.trans D16.out (Ext.trans D17.out (Ext.trans D18.out (Ext.trans D19.out (Ext.trans D20.out D21.out)))))))))))))))))) (HA1.out.old EX21.out) rfl (by omega) (by omega))
      go_wp2_with fail
      refine C21.out.mono ?_
      rintro e w21 ⟨rfl, x21⟩
      have D22 := Lib.hid x21
      have EX22 := Lib.hid (EX21.out.trans x21)
      clear x21
      clear C21
      have C22 := Lib.hid (hnat_yes (S2.out.old (Ext.trans D5.out (Ext.trans D6.out (Ext.trans D7.out (Ext.trans D8.out (Ext.trans D9.out (Ext.trans D10.out (Ext.trans D11.out (Ext.trans D12.out (Ext.trans D13.out (Ext.trans D14.out (Ext.trans D15.out (Ext.trans D16.out (Ext.trans D17.out (Ext.trans D18.out (Ext.trans D19.out (Ext.trans D20.out (Ext.trans D21.out D22.out)))))))))))))))))) (HA2.out.old EX22.out) rfl (by omega) (by omega))
      go_wp2_with fail
      refine C22.out.mono ?_
      rintro e w22 ⟨rfl, x22⟩
      have D23 := Lib.hid x22
      have EX23 := Lib.hid (EX22.out.trans x22)
      clear x22
      clear C22
      have XX0 := Lib.hid (Ext.trans D6.out (Ext.trans D7.out (Ext.trans D8.out (Ext.trans D9.out (Ext.trans D10.out (Ext.trans D11.out (Ext.trans D12.out (Ext.trans D13.out (Ext.trans D14.out (Ext.trans D15.out (Ext.trans D16.out (Ext.trans D17.out (Ext.trans D18.out (Ext.trans D19.out (Ext.trans D20.out (Ext.trans D21.out (Ext.trans D22.out D23.out)))))))))))))))))
      have F0_0 := Lib.hid (show Free wr.heap.size w22 a3r n3r c3r from (Free.of O3r.out).old (Ext.trans D7.out (Ext.trans D8.out (Ext.trans D9.out (Ext.trans D10.out (Ext.trans D11.out (Ext.trans D12.out (Ext.trans D13.out (Ext.trans D14.out (Ext.trans D15.out (Ext.trans D16.out (Ext.trans D17.out (Ext.trans D18.out (Ext.trans D19.out (Ext.trans D20.out (Ext.trans D21.out (Ext.trans D22.out D23.out)))))))))))))))))
      have F1_0 := Lib.hid (show Free w3.heap.size w22 a4r n4r c4r from (Free.of O4r.out).old (Ext.trans D8.out (Ext.trans D9.out (Ext.trans D10.out (Ext.trans D11.out (Ext.trans D12.out (Ext.trans D13.out (Ext.trans D14.out (Ext.trans D15.out (Ext.trans D16.out (Ext.trans D17.out (Ext.trans D18.out (Ext.trans D19.out (Ext.trans D20.out (Ext.trans D21.out (Ext.trans D22.out D23.out))))))))))))))))
      have F2_0 := Lib.hid (show Free w4.heap.size w22 a5r n5r c5r from (Free.of O5r.out).old (Ext.trans D9.out (Ext.trans D10.out (Ext.trans D11.out (Ext.trans D12.out (Ext.trans D13.out (Ext.trans D14.out (Ext.trans D15.out (Ext.trans D16.out (Ext.trans D17.out (Ext.trans D18.out (Ext.trans D19.out (Ext.trans D20.out (Ext.trans D21.out (Ext.trans D22.out D23.out)))))))))))))))
      have F3_0 := Lib.hid (show Free w5.heap.size w22 a6r n6r c6r from (Free.of O6r.out).old (Ext.trans D10.out (Ext.trans D11.out (Ext.trans D12.out (Ext.trans D13.out (Ext.trans D14.out (Ext.trans D15.out (Ext.trans D16.out (Ext.trans D17.out (Ext.trans D18.out (Ext.trans D19.out (Ext.trans D20.out (Ext.trans D21.out (Ext.trans D22.out D23.out))))))))))))))
      have CS0 := Lib.hid (spoilF_calls F0_0.out (by omega))
      go_wp2_with fail
      refine CS0.out.mono ?_
      rintro e ws0 ⟨rfl, tt0⟩
      have T0 := Lib.hid tt0; clear tt0 CS0
      have XX1 := Lib.hid (Free.ext F0_0.out XX0.out (Nat.le_refl _) T0.out)
      have F1_1 := Lib.hid (Free.next F1_0.out T0.out (Own.later O3r.out O4r.out (Nat.le_refl _)))
      have F2_1 := Lib.hid (Free.next F2_0.out T0.out (Own.later O3r.out O5r.out D7.out.size))
      have F3_1 := Lib.hid (Free.next F3_0.out T0.out (Own.later O3r.out O6r.out (Ext.trans D7.out D8.out).size))
      have CS1 := Lib.hid (spoilF_calls F1_1.out (by omega))
      go_wp2_with fail
      refine CS1.out.mono ?_
      rintro e ws1 ⟨rfl, tt1⟩
      have T1 := Lib.hid tt1; clear tt1 CS1
      have XX2 := Lib.hid (Free.ext F1_1.out XX1.out D6.out.size T1.out)
      have F2_2 := Lib.hid (Free.next F2_1.out T1.out (Own.later O4r.out O5r.out (Nat.le_refl _)))
      have F3_2 := Lib.hid (Free.next F3_1.out T1.out (Own.later O4r.out O6r.out D8.out.size))
      have CS2 := Lib.hid (spoilF_calls F2_2.out (by omega))
      go_wp2_with fail
      refine CS2.out.mono ?_
      rintro e ws2 ⟨rfl, tt2⟩
      have T2 := Lib.hid tt2; clear tt2 CS2
      have XX3 := Lib.hid (Free.ext F2_2.out XX2.out (Ext.trans D6.out D7.out).size T2.out)
      have F3_3 := Lib.hid (Free.next F3_2.out T2.out (Own.later O5r.out O6r.out (Nat.le_refl _)))
      have CS3 := Lib.hid (spoilF_calls F3_3.out (by omega))
      go_wp2_with fail
      refine CS3.out.mono ?_
      rintro e ws3 ⟨rfl, tt3⟩
      have T3 := Lib.hid tt3; clear tt3 CS3
      have XX4 := Lib.hid (Free.ext F3_3.out XX3.out (Ext.trans D6.out (Ext.trans D7.out D8.out)).size T3.out)
      go_wp2_with fail
      go_roundw
      case rel => exact ⟨k + 1, by omega, by go_num, Ext.trans D5.out XX4.out⟩
      case measure => simp only [intOf]; omega

end Go.Proofs.YtkdkgmnjhimdeaaGreatDoor
