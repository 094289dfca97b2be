/- gleanlaw1.NatQuotients: the walk. -/
import Derived.Test.YtkdkgmnjhimdeaaGreatDoorKnown1
import Derived.Test.YtkdkgmnjhimdeaaGreatDoorFree
namespace Go.Proofs.YtkdkgmnjhimdeaaGreatDoor
open Go.RowKit

set_option maxHeartbeats 16000000 in
set_option maxRecDepth 100000 in
theorem nquo_law {a1 : Option Addr} {m1 c1 : Nat} {xs1 : List Nat} {a2 : Option Addr} {m2 c2 : Nat} {xs2 : List Nat} {a3 : Option Addr} {m3 c3 : Nat} {xs3 : List Nat} {w : World} (ha1 : Sl w a1 m1 c1 xs1) (ha2 : Sl w a2 m2 c2 xs2) (ha3 : Sl w a3 m3 c3 xs3) (htab : Tab w) (htz : TzTab w) :
    Calls Tryz.prog 4 #[.slice a1 m1 c1, .slice a2 m2 c2, .slice a3 m3 c3] w (RetE (.bool true) w) := by
  obtain ⟨A, hv1⟩ : ∃ X, val xs1 = X := ⟨_, rfl⟩
  have HV1 := Lib.hid hv1; have HA1 := Lib.hid ha1
  obtain ⟨B, hv2⟩ : ∃ X, val xs2 = X := ⟨_, rfl⟩
  have HV2 := Lib.hid hv2; have HA2 := Lib.hid ha2
  obtain ⟨C, hv3⟩ : ∃ X, val xs3 = X := ⟨_, rfl⟩
  have HV3 := Lib.hid hv3; have HA3 := Lib.hid ha3
  have HTZ := Lib.hid htz; have HT := Lib.hid htab
  have CK := Lib.hid (known1_calls w htab htz)
  clear hv1 ha1 hv2 ha2 hv3 ha3 htab htz
  go_enter Tryz.func4, Tryz.ntmps4
  go_wp2_with fail
  refine CK.out.mono ?_
  rintro e w0 ⟨rfl, hx0⟩
  have D1 := Lib.hid hx0
  have EX1 := Lib.hid hx0
  clear hx0
  clear CK
  obtain ⟨Z, hZ⟩ : ∃ Z, w0.alloc (.cells #[.slice a1 m1 c1, .slice a2 m2 c2, .slice a3 m3 c3] 23) = Z := ⟨_, rfl⟩
  have hxz : Ext w0 Z := by rw [← hZ]; exact (Ext.refl _).alloc _
  by_cases h60 : m1 ≤ 60 ∧ m2 ≤ 60 ∧ m3 ≤ 60
  rotate_left
  · have HSM := Lib.hid (sm_no3 w0 a1 m1 c1 a2 m2 c2 a3 m3 c3 h60)
    rw [hZ] at HSM
    have HZ := Lib.hid hZ; have HEZ := Lib.hid (EX1.out.trans hxz)
    clear hZ hxz
    go_wp2_with (rw [HZ.out])
    refine HSM.out.mono ?_
    rintro e w' ⟨rfl, rfl⟩
    go_wp2_with fail
    go_ret
    exact ⟨rfl, HEZ.out⟩
  have HSM := Lib.hid (sm_yes3 w0 a1 m1 c1 a2 m2 c2 a3 m3 c3 h60)
  rw [hZ] at HSM
  have HZ := Lib.hid hZ
  obtain ⟨q1, q2, q3⟩ := h60
  clear hZ
  have D2 := Lib.hid hxz
  have EX2 := Lib.hid (EX1.out.trans hxz)
  clear hxz
  go_wp2_with (rw [HZ.out])
  refine HSM.out.mono ?_
  rintro e w' ⟨rfl, rfl⟩
  clear HSM
  obtain ⟨E1, hE1⟩ : ∃ X : Int, divE B = X := ⟨_, rfl⟩
  obtain ⟨E2, hE2⟩ : ∃ X : Int, divE C = X := ⟨_, rfl⟩
  obtain ⟨Q1, hQ1⟩ : ∃ X, quoL A B = X := ⟨_, rfl⟩
  obtain ⟨R1, hR1⟩ : ∃ X, remL A B = X := ⟨_, rfl⟩
  obtain ⟨Q2, hQ2⟩ : ∃ X, quoL (A * B) C = X := ⟨_, rfl⟩
  obtain ⟨R2, hR2⟩ : ∃ X, remL (A * B) C = X := ⟨_, rfl⟩
  have HE1 := Lib.hid hE1; clear hE1
  have HE2 := Lib.hid hE2; clear hE2
  have HQ1 := Lib.hid hQ1; clear hQ1
  have HR1 := Lib.hid hR1; clear hR1
  have HQ2 := Lib.hid hQ2; clear hQ2
  have HR2 := Lib.hid hR2; clear hR2
  have C1 := Lib.hid (copy_at (HA1.out.old EX2.out) (by omega))
  go_wp2_with fail
  refine C1.out.mono ?_
  rintro e w1 ⟨a1r, n1r, c1r, rfl, o1, x1, l1⟩
  have S1 := Lib.hid o1.sl
  clear o1
  have D3 := Lib.hid x1
  have EX3 := Lib.hid (EX2.out.trans x1)
  clear x1
  clear C1
  have C2 := Lib.hid (copy_at (HA2.out.old EX3.out) (by omega))
  go_wp2_with fail
  refine C2.out.mono ?_
  rintro e w2 ⟨a2r, n2r, c2r, rfl, o2, x2, l2⟩
  have S2 := Lib.hid o2.sl
  clear o2
  have D4 := Lib.hid x2
  have EX4 := Lib.hid (EX3.out.trans x2)
  clear x2
  clear C2
  have C3 := Lib.hid (copy_at (HA3.out.old EX4.out) (by omega))
  go_wp2_with fail
  refine C3.out.mono ?_
  rintro e w3 ⟨a3r, n3r, c3r, rfl, o3, x3, l3⟩
  have S3 := Lib.hid o3.sl
  clear o3
  have D5 := Lib.hid x3
  have EX5 := Lib.hid (EX4.out.trans x3)
  clear x3
  clear C3
  go_wp2_with fail
  go_loopw [10] (fun iv wr => LoopRel w3 iv wr) (fun iv _ => 2 - (intOf iv).toNat)
  case atStart => exact ⟨0, by omega, rfl, Ext.refl _⟩
  case round =>
    obtain ⟨k, hk, rfl, hex⟩ := hrel
    have D6 := Lib.hid hex
    have EX6 := Lib.hid (EX5.out.trans hex)
    clear hex
    by_cases hk2 : k = 2
    · skip
      subst hk2
      go_wp2_with fail
      go_ret
      exact ⟨rfl, EX6.out⟩
    · skip
      have hlt : (k : Int) < 2 := by omega
      have C4 := Lib.hid (divq_at A B E1 Q1 R1 (S1.out.old (Ext.trans D4.out (Ext.trans D5.out D6.out))) (S2.out.old (Ext.trans D5.out D6.out)) HV1.out HV2.out HE1.out HQ1.out HR1.out (by omega) (by omega))
      go_wp2_with fail
      refine C4.out.mono ?_
      rintro e w4 ⟨a4q, c4q, n4q, a4r, c4r, n4r, rfl, o4q, o4r, x4, l4q, l4r, h4p⟩
      have O4q := Lib.hid o4q; have O4r := Lib.hid o4r; have S4q := Lib.hid o4q.sl; have S4r := Lib.hid o4r.sl; have AP4 := Lib.hid h4p
      clear o4q o4r h4p
      clear C4
      have D7 := Lib.hid x4
      have EX7 := Lib.hid (EX6.out.trans x4)
      clear x4
      have C5 := Lib.hid (rdivq_at A B E1 Q1 R1 (HA1.out.old EX7.out) (HA2.out.old EX7.out) HV1.out HV2.out HE1.out HQ1.out HR1.out (by omega) (by omega))
      go_wp2_with fail
      refine C5.out.mono ?_
      rintro e w5 ⟨a5q, c5q, n5q, a5r, c5r, n5r, rfl, o5q, o5r, x5, l5q, l5r, -⟩
      have S5q := Lib.hid o5q.sl; have S5r := Lib.hid o5r.sl
      clear o5q o5r
      have D8 := Lib.hid x5
      have EX8 := Lib.hid (EX7.out.trans x5)
      clear x5
      clear C5
      have C6 := Lib.hid (hnat_yes (S4q.out.old D8.out) S5q.out rfl (by omega) (by omega))
      go_wp2_with fail
      refine C6.out.mono ?_
      rintro e w6 ⟨rfl, x6⟩
      have D9 := Lib.hid x6
      have EX9 := Lib.hid (EX8.out.trans x6)
      clear x6
      clear C6
      have C7 := Lib.hid (hnat_yes (S4r.out.old (Ext.trans D8.out D9.out)) (S5r.out.old D9.out) rfl (by omega) (by omega))
      go_wp2_with fail
      refine C7.out.mono ?_
      rintro e w7 ⟨rfl, x7⟩
      have D10 := Lib.hid x7
      have EX10 := Lib.hid (EX9.out.trans x7)
      clear x7
      clear C7
      have C8 := Lib.hid (muldivq_at A B C E2 Q2 R2 (S1.out.old (Ext.trans D4.out (Ext.trans D5.out (Ext.trans D6.out (Ext.trans D7.out (Ext.trans D8.out (Ext.trans D9.out D10.out))))))) (S2.out.old (Ext.trans D5.out (Ext.trans D6.out (Ext.trans D7.out (Ext.trans D8.out (Ext.trans D9.out D10.out)))))) (S3.out.old (Ext.trans D6.out (Ext.trans D7.out (Ext.trans D8.out (Ext.trans D9.out D10.out))))) HV1.out HV2.out HV3.out HE2.out HQ2.out HR2.out (by omega) (by omega) (by omega))
      go_wp2_with fail
      refine C8.out.mono ?_
      rintro e w8 ⟨a8q, c8q, n8q, a8r, c8r, n8r, rfl, o8q, o8r, x8, l8q, l8r, h8p⟩
      have O8q := Lib.hid o8q; have O8r := Lib.hid o8r; have S8q := Lib.hid o8q.sl; have S8r := Lib.hid o8r.sl; have AP8 := Lib.hid h8p
      clear o8q o8r h8p
      clear C8
      have D11 := Lib.hid x8
      have EX11 := Lib.hid (EX10.out.trans x8)
      clear x8
      have C9 := Lib.hid (rmuldivq_at A B C E2 Q2 R2 (HA1.out.old EX11.out) (HA2.out.old EX11.out) (HA3.out.old EX11.out) HV1.out HV2.out HV3.out HE2.out HQ2.out HR2.out (by omega) (by omega) (by omega))
      go_wp2_with fail
      refine C9.out.mono ?_
      rintro e w9 ⟨a9q, c9q, n9q, a9r, c9r, n9r, rfl, o9q, o9r, x9, l9q, l9r, -⟩
      have S9q := Lib.hid o9q.sl; have S9r := Lib.hid o9r.sl
      clear o9q o9r
      have D12 := Lib.hid x9
      have EX12 := Lib.hid (EX11.out.trans x9)
      clear x9
      clear C9
      have C10 := Lib.hid (hnat_yes (S8q.out.old D12.out) S9q.out rfl (by omega) (by omega))
      go_wp2_with fail
      refine C10.out.mono ?_
      rintro e w10 ⟨rfl, x10⟩
      have D13 := Lib.hid x10
      have EX13 := Lib.hid (EX12.out.trans x10)
      clear x10
      clear C10
      have C11 := Lib.hid (hnat_yes (S8r.out.old (Ext.trans D12.out D13.out)) (S9r.out.old D13.out) rfl (by omega) (by omega))
      go_wp2_with fail
      refine C11.out.mono ?_
      rintro e w11 ⟨rfl, x11⟩
      have D14 := Lib.hid x11
      have EX14 := Lib.hid (EX13.out.trans x11)
      clear x11
      clear C11
      have C12 := Lib.hid (hnat_yes (S1.out.old (Ext.trans D4.out (Ext.trans D5.out (Ext.trans D6.out (Ext.trans D7.out (Ext.trans D8.out (Ext.trans D9.out (Ext.trans D10.out (Ext.trans D11.out (Ext.trans D12.out (Ext.trans D13.out D14.out))))))))))) (HA1.out.old EX14.out) rfl (by omega) (by omega))
      go_wp2_with fail
      refine C12.out.mono ?_
      rintro e w12 ⟨rfl, x12⟩
      have D15 := Lib.hid x12
      have EX15 := Lib.hid (EX14.out.trans x12)
      clear x12
      clear C12
      have C13 := Lib.hid (hnat_yes (S2.out.old (Ext.trans D5.out (Ext.trans D6.out (Ext.trans D7.out (Ext.trans D8.out (Ext.trans D9.out (Ext.trans D10.out (Ext.trans D11.out (Ext.trans D12.out (Ext.trans D13.out (Ext.trans D14.out D15.out))))))))))) (HA2.out.old EX15.out) rfl (by omega) (by omega))
      go_wp2_with fail
      refine C13.out.mono ?_
      rintro e w13 ⟨rfl, x13⟩
      have D16 := Lib.hid x13
      have EX16 := Lib.hid (EX15.out.trans x13)
      clear x13
      clear C13
      have C14 := Lib.hid (hnat_yes (S3.out.old (Ext.trans D6.out (Ext.trans D7.out (Ext.trans D8.out (Ext.trans D9.out (Ext.trans D10.out (Ext.trans D11.out (Ext.trans D12.out (Ext.trans D13.out (Ext.trans D14.out (Ext.trans D15.out D16.out))))))))))) (HA3.out.old EX16.out) rfl (by omega) (by omega))
      go_wp2_with fail
      refine C14.out.mono ?_
      rintro e w14 ⟨rfl, x14⟩
      have D17 := Lib.hid x14
      have EX17 := Lib.hid (EX16.out.trans x14)
      clear x14
      clear C14
      have XX0 := Lib.hid (Ext.trans D7.out (Ext.trans D8.out (Ext.trans D9.out (Ext.trans D10.out (Ext.trans D11.out (Ext.trans D12.out (Ext.trans D13.out (Ext.trans D14.out (Ext.trans D15.out (Ext.trans D16.out D17.out))))))))))
      have F0_0 := Lib.hid (show Free wr.heap.size w14 a4q n4q c4q from (Free.of O4q.out).old (Ext.trans D8.out (Ext.trans D9.out (Ext.trans D10.out (Ext.trans D11.out (Ext.trans D12.out (Ext.trans D13.out (Ext.trans D14.out (Ext.trans D15.out (Ext.trans D16.out D17.out))))))))))
      have F1_0 := Lib.hid (show Free wr.heap.size w14 a4r n4r c4r from (Free.of O4r.out).old (Ext.trans D8.out (Ext.trans D9.out (Ext.trans D10.out (Ext.trans D11.out (Ext.trans D12.out (Ext.trans D13.out (Ext.trans D14.out (Ext.trans D15.out (Ext.trans D16.out D17.out))))))))))
      have F2_0 := Lib.hid (show Free w7.heap.size w14 a8q n8q c8q from (Free.of O8q.out).old (Ext.trans D12.out (Ext.trans D13.out (Ext.trans D14.out (Ext.trans D15.out (Ext.trans D16.out D17.out))))))
      have F3_0 := Lib.hid (show Free w7.heap.size w14 a8r n8r c8r from (Free.of O8r.out).old (Ext.trans D12.out (Ext.trans D13.out (Ext.trans D14.out (Ext.trans D15.out (Ext.trans D16.out D17.out))))))
      have CS0 := Lib.hid (spoilF_calls F0_0.out (by omega))
      go_wp2_with fail
      refine CS0.out.mono ?_
      rintro e ws0 ⟨rfl, tt0⟩
      have T0 := Lib.hid tt0; clear tt0 CS0
      have XX1 := Lib.hid (Free.ext F0_0.out XX0.out (Nat.le_refl _) T0.out)
      have F1_1 := Lib.hid (Free.next F1_0.out T0.out AP4.out)
      have F2_1 := Lib.hid (Free.next F2_0.out T0.out (Own.later O4q.out O8q.out (Ext.trans D8.out (Ext.trans D9.out D10.out)).size))
      have F3_1 := Lib.hid (Free.next F3_0.out T0.out (Own.later O4q.out O8r.out (Ext.trans D8.out (Ext.trans D9.out D10.out)).size))
      have CS1 := Lib.hid (spoilF_calls F1_1.out (by omega))
      go_wp2_with fail
      refine CS1.out.mono ?_
      rintro e ws1 ⟨rfl, tt1⟩
      have T1 := Lib.hid tt1; clear tt1 CS1
      have XX2 := Lib.hid (Free.ext F1_1.out XX1.out (Nat.le_refl _) T1.out)
      have F2_2 := Lib.hid (Free.next F2_1.out T1.out (Own.later O4r.out O8q.out (Ext.trans D8.out (Ext.trans D9.out D10.out)).size))
      have F3_2 := Lib.hid (Free.next F3_1.out T1.out (Own.later O4r.out O8r.out (Ext.trans D8.out (Ext.trans D9.out D10.out)).size))
      have CS2 := Lib.hid (spoilF_calls F2_2.out (by omega))
      go_wp2_with fail
      refine CS2.out.mono ?_
      rintro e ws2 ⟨rfl, tt2⟩
      have T2 := Lib.hid tt2; clear tt2 CS2
      have XX3 := Lib.hid (Free.ext F2_2.out XX2.out (Ext.trans D7.out (Ext.trans D8.out (Ext.trans D9.out D10.out))).size T2.out)
      have F3_3 := Lib.hid (Free.next F3_2.out T2.out AP8.out)
      have CS3 := Lib.hid (spoilF_calls F3_3.out (by omega))
      go_wp2_with fail
      refine CS3.out.mono ?_
      rintro e ws3 ⟨rfl, tt3⟩
      have T3 := Lib.hid tt3; clear tt3 CS3
      have XX4 := Lib.hid (Free.ext F3_3.out XX3.out (Ext.trans D7.out (Ext.trans D8.out (Ext.trans D9.out D10.out))).size T3.out)
      go_wp2_with fail
      go_roundw
      case rel => exact ⟨k + 1, by omega, by go_num, Ext.trans D6.out XX4.out⟩
      case measure => simp only [intOf]; omega

end Go.Proofs.YtkdkgmnjhimdeaaGreatDoor
