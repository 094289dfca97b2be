/- gleanlaw1.NatBack: the walk. -/
import Derived.Test.YtkdkgmnjhimdeaaGreatDoorKnown1
import Derived.Test.YtkdkgmnjhimdeaaGreatDoorLess
namespace Go.Proofs.YtkdkgmnjhimdeaaGreatDoor
open Go.RowKit Go.Lib

theorem bytesOf_ok (V : Nat) : bytesOf V = [] ∨ (bytesOf V).getD 0 0 ≠ 0 := by
  by_cases h : V = 0
  · exact .inl (by rw [h]; rfl)
  · exact .inr (bytesOf_head h)
theorem bytesOf_lt {X Y : Nat} (h : (bytesOf X).length < (bytesOf Y).length) : X < Y := by
  unfold bytesOf at h
  rw [List.length_reverse, List.length_reverse] at h
  exact digs_len_lt (by decide) h
theorem parse_dec {a : Option Addr} {n c : Nat} {xs : List Nat} {w0 : World} (X : Nat) (ha : Sl w0 a n c xs) (hx : val xs = X) (hn : n ≤ 60) (w : World) : Calls Tryz.prog 48 #[.string ⟨(decDigits X).toArray⟩] w (New2 w 1201 (lim X) 0) := by
  have h1 := nDigits_limbs (V := X) (k := n) (by rw [← hx]; exact ha.trimmed_len)
  have h2 := decDigits_length X
  have h3 := (decDigits_spec X).1
  have := parse_form (decDigits X) (by omega) (decDigits_form X) w
  rw [h3] at this
  exact this.mono fun e w' ⟨a, n, c, h1, h2, h3, h4⟩ => ⟨a, n, c, h1, h2, h3, by omega⟩
theorem hless_at {a b : Option Addr} {n c d : Nat} {xs ys : List Nat} {w : World} (X Y : Nat) (q : Bool) (ha : SlB w a n c xs) (hb : SlB w b n d ys) (hx : nv 256 xs.reverse = X) (hy : nv 256 ys.reverse = Y) (h : decide (X < Y) = q) (hn : n ≤ 1000000) :
    Calls Tryz.prog 54 #[.slice a n c, .slice b n d] w (RetE (.bool q) w) := by
  subst hx hy h; exact hless_calls ha hb (by omega)

set_option maxHeartbeats 16000000 in
set_option maxRecDepth 100000 in
theorem nback_law {a1 : Option Addr} {m1 c1 : Nat} {xs1 : List Nat} {a2 : Option Addr} {m2 c2 : Nat} {xs2 : List Nat} {w : World} (ha1 : Sl w a1 m1 c1 xs1) (ha2 : Sl w a2 m2 c2 xs2) (htab : Tab w) (htz : TzTab w) :
    Calls Tryz.prog 10 #[.slice a1 m1 c1, .slice a2 m2 c2] w (RetE (.bool true) w) := by
  obtain ⟨A, hv1⟩ : ∃ X, val xs1 = X := ⟨_, rfl⟩
  have HV1 := Lib.hid hv1; have HA1 := Lib.hid ha1
  obtain ⟨B, hv2⟩ : ∃ X, val xs2 = X := ⟨_, rfl⟩
  have HV2 := Lib.hid hv2; have HA2 := Lib.hid ha2
  have HTZ := Lib.hid htz; have HT := Lib.hid htab
  have CK := Lib.hid (known1_calls w htab htz)
  clear hv1 ha1 hv2 ha2 htab htz
  go_enter Tryz.func10, Tryz.ntmps10
  go_wp2_with fail
  refine CK.out.mono ?_
  rintro e w0 ⟨rfl, hx0⟩
  have D1 := Lib.hid hx0
  have EX1 := Lib.hid hx0
  clear hx0
  clear CK
  obtain ⟨Z, hZ⟩ : ∃ Z, w0.alloc (.cells #[.slice a1 m1 c1, .slice a2 m2 c2] 23) = Z := ⟨_, rfl⟩
  have hxz : Ext w0 Z := by rw [← hZ]; exact (Ext.refl _).alloc _
  by_cases h60 : m1 ≤ 60 ∧ m2 ≤ 60
  rotate_left
  · have HSM := Lib.hid (sm_no2 w0 a1 m1 c1 a2 m2 c2 h60)
    rw [hZ] at HSM
    have HZ := Lib.hid hZ; have HEZ := Lib.hid (EX1.out.trans hxz)
    clear hZ hxz
    go_wp2_with (rw [HZ.out])
    refine HSM.out.mono ?_
    rintro e w' ⟨rfl, rfl⟩
    go_wp2_with fail
    go_ret
    exact ⟨rfl, HEZ.out⟩
  have HSM := Lib.hid (sm_yes2 w0 a1 m1 c1 a2 m2 c2 h60)
  rw [hZ] at HSM
  have HZ := Lib.hid hZ
  obtain ⟨q1, q2⟩ := h60
  clear hZ
  have D2 := Lib.hid hxz
  have EX2 := Lib.hid (EX1.out.trans hxz)
  clear hxz
  go_wp2_with (rw [HZ.out])
  refine HSM.out.mono ?_
  rintro e w' ⟨rfl, rfl⟩
  clear HSM
  obtain ⟨LA, hLA⟩ : ∃ X, bitLen A = X := ⟨_, rfl⟩
  have HLA := Lib.hid hLA
  have C1 := Lib.hid (bytes_at A (bytesOf A) (HA1.out.old EX2.out) HV1.out rfl (by omega))
  go_wp2_with fail
  refine C1.out.mono ?_
  rintro e w1 ⟨a1r, n1r, c1r, rfl, o1, x1, l1⟩
  have S1 := Lib.hid o1.sl
  clear o1
  have D3 := Lib.hid x1
  have EX3 := Lib.hid (EX2.out.trans x1)
  clear x1
  clear C1
  have C2 := Lib.hid (bytes_at B (bytesOf B) (HA2.out.old EX3.out) HV2.out rfl (by omega))
  go_wp2_with fail
  refine C2.out.mono ?_
  rintro e w2 ⟨a2r, n2r, c2r, rfl, o2, x2, l2⟩
  have S2 := Lib.hid o2.sl
  clear o2
  have D4 := Lib.hid x2
  have EX4 := Lib.hid (EX3.out.trans x2)
  clear x2
  clear C2
  have C3 := Lib.hid (frombytes_at A (S1.out.old D4.out) (by omega) (bytesOf_ok A) (bytesOf_val A))
  go_wp2_with fail
  refine C3.out.mono ?_
  rintro e w3 ⟨a3r, n3r, c3r, rfl, o3, x3, l3⟩
  have S3 := Lib.hid o3.sl
  clear o3
  have D5 := Lib.hid x3
  have EX5 := Lib.hid (EX4.out.trans x3)
  clear x3
  clear C3
  have C4 := Lib.hid (text_at A (decDigits A) (HA1.out.old EX5.out) HV1.out rfl (by omega) (HT.out.old EX5.out))
  go_wp2_with fail
  refine C4.out.mono ?_
  rintro e w4 ⟨rfl, x4⟩
  have D6 := Lib.hid x4
  have EX6 := Lib.hid (EX5.out.trans x4)
  clear x4
  clear C4
  have C5 := Lib.hid (parse_dec A HA1.out HV1.out q1 w4)
  go_wp2_with fail
  refine C5.out.mono ?_
  rintro e w5 ⟨a5r, n5r, c5r, rfl, o5, x5, l5⟩
  have S5 := Lib.hid o5.sl
  clear o5
  have D7 := Lib.hid x5
  have EX7 := Lib.hid (EX6.out.trans x5)
  clear x5
  clear C5
  have C6 := Lib.hid (norm_at A (HA1.out.old EX7.out) HV1.out (by omega))
  go_wp2_with fail
  refine C6.out.mono ?_
  rintro e w6 ⟨a6r, n6r, c6r, rfl, o6, x6, l6⟩
  have S6 := Lib.hid o6.sl
  clear o6
  have D8 := Lib.hid x6
  have EX8 := Lib.hid (EX7.out.trans x6)
  clear x6
  clear C6
  have C7 := Lib.hid (hnat_yes (S3.out.old (Ext.trans D6.out (Ext.trans D7.out D8.out))) S6.out rfl (by omega) (by omega))
  go_wp2_with fail
  refine C7.out.mono ?_
  rintro e w7 ⟨rfl, x7⟩
  have D9 := Lib.hid x7
  have EX9 := Lib.hid (EX8.out.trans x7)
  clear x7
  clear C7
  have C8 := Lib.hid (norm_at A (HA1.out.old EX9.out) HV1.out (by omega))
  go_wp2_with fail
  refine C8.out.mono ?_
  rintro e w8 ⟨a8r, n8r, c8r, rfl, o8, x8, l8⟩
  have S8 := Lib.hid o8.sl
  clear o8
  have D10 := Lib.hid x8
  have EX10 := Lib.hid (EX9.out.trans x8)
  clear x8
  clear C8
  have C9 := Lib.hid (hnat_yes (S5.out.old (Ext.trans D8.out (Ext.trans D9.out D10.out))) S8.out rfl (by omega) (by omega))
  go_wp2_with fail
  refine C9.out.mono ?_
  rintro e w9 ⟨rfl, x9⟩
  have D11 := Lib.hid x9
  have EX11 := Lib.hid (EX10.out.trans x9)
  clear x9
  clear C9
  have hnx : n1r = (LA + 7) / 8 := by rw [← S1.out.len, bytesOf_len, hLA]
  have hm2 : ((LA : Int) + 7).tdiv 8 = (n1r : Int) := by rw [Int.tdiv_eq_ediv_of_nonneg (by omega)]; omega
  have hLAb : LA ≤ 4000 := by omega
  clear hLA hnx
  have C10 := Lib.hid (bits_at A LA (HA1.out.old EX11.out) HV1.out HLA.out (by omega))
  go_wp2_with fail
  refine C10.out.mono ?_
  rintro e w' ⟨rfl, rfl⟩
  clear C10
  have HLX := Lib.hid (S1.out.len); have HLY := Lib.hid (S2.out.len)
  rcases Nat.lt_trichotomy n1r n2r with hxy | hxy | hxy
  · skip
    have HC := Lib.hid (cmpN_lt (bytesOf_lt (show (bytesOf A).length < (bytesOf B).length by rw [HLX.out, HLY.out]; exact hxy)))
    have g1 : (n1r : Int) < (n2r : Int) := by omega
    have C11 := Lib.hid (cmp_at A B (-1) (HA1.out.old EX11.out) (HA2.out.old EX11.out) HV1.out HV2.out HC.out (by omega) (by omega))
    go_wp2_with fail
    refine C11.out.mono ?_
    rintro e w11 ⟨rfl, x11⟩
    have D12 := Lib.hid x11
    have EX12 := Lib.hid (EX11.out.trans x11)
    clear x11
    clear C11
    go_wp2_with fail
    go_ret
    exact ⟨rfl, EX12.out⟩
  · skip
    subst hxy
    by_cases hAB : A < B
    · skip
      have HC := Lib.hid (cmpN_lt hAB); have HD := Lib.hid (decide_eq_true hAB)
      clear hAB
      have C11 := Lib.hid (hless_at A B true (S1.out.old (Ext.trans D4.out (Ext.trans D5.out (Ext.trans D6.out (Ext.trans D7.out (Ext.trans D8.out (Ext.trans D9.out (Ext.trans D10.out D11.out)))))))) (S2.out.old (Ext.trans D5.out (Ext.trans D6.out (Ext.trans D7.out (Ext.trans D8.out (Ext.trans D9.out (Ext.trans D10.out D11.out))))))) (bytesOf_val A) (bytesOf_val B) HD.out (by omega))
      go_wp2_with fail
      refine C11.out.mono ?_
      rintro e w11 ⟨rfl, x11⟩
      have D12 := Lib.hid x11
      have EX12 := Lib.hid (EX11.out.trans x11)
      clear x11
      clear C11
      have C12 := Lib.hid (cmp_at A B (-1) (HA1.out.old EX12.out) (HA2.out.old EX12.out) HV1.out HV2.out HC.out (by omega) (by omega))
      go_wp2_with fail
      refine C12.out.mono ?_
      rintro e w12 ⟨rfl, x12⟩
      have D13 := Lib.hid x12
      have EX13 := Lib.hid (EX12.out.trans x12)
      clear x12
      clear C12
      go_wp2_with fail
      go_ret
      exact ⟨rfl, EX13.out⟩
    · skip
      obtain ⟨u, hu⟩ : ∃ u, cmpN A B = u := ⟨_, rfl⟩
      have hu0 : ¬ (u < 0) := by rw [← hu]; unfold cmpN; rw [if_neg hAB]; split <;> decide
      have HC := Lib.hid hu; have HD := Lib.hid (decide_eq_false hAB)
      clear hAB hu
      have C11 := Lib.hid (hless_at A B false (S1.out.old (Ext.trans D4.out (Ext.trans D5.out (Ext.trans D6.out (Ext.trans D7.out (Ext.trans D8.out (Ext.trans D9.out (Ext.trans D10.out D11.out)))))))) (S2.out.old (Ext.trans D5.out (Ext.trans D6.out (Ext.trans D7.out (Ext.trans D8.out (Ext.trans D9.out (Ext.trans D10.out D11.out))))))) (bytesOf_val A) (bytesOf_val B) HD.out (by omega))
      go_wp2_with fail
      refine C11.out.mono ?_
      rintro e w11 ⟨rfl, x11⟩
      have D12 := Lib.hid x11
      have EX12 := Lib.hid (EX11.out.trans x11)
      clear x11
      clear C11
      have C12 := Lib.hid (cmp_at A B u (HA1.out.old EX12.out) (HA2.out.old EX12.out) HV1.out HV2.out HC.out (by omega) (by omega))
      go_wp2_with fail
      refine C12.out.mono ?_
      rintro e w12 ⟨rfl, x12⟩
      have D13 := Lib.hid x12
      have EX13 := Lib.hid (EX12.out.trans x12)
      clear x12
      clear C12
      go_wp2_with fail
      go_ret
      refine ⟨?_, EX13.out⟩
      show Ending.returned (.bool (!decide (u < 0))) = _
      rw [decide_eq_false (by omega)]; rfl
  · skip
    have HC := Lib.hid (cmpN_gt (bytesOf_lt (show (bytesOf B).length < (bytesOf A).length by rw [HLX.out, HLY.out]; exact hxy)))
    have g1 : ¬ ((n1r : Int) < (n2r : Int)) := by omega
    have g2 : ((n1r : Int) == (n2r : Int)) = false := by rw [beq_eq_false_iff_ne]; omega
    have C11 := Lib.hid (cmp_at A B 1 (HA1.out.old EX11.out) (HA2.out.old EX11.out) HV1.out HV2.out HC.out (by omega) (by omega))
    go_wp2_with fail
    refine C11.out.mono ?_
    rintro e w11 ⟨rfl, x11⟩
    have D12 := Lib.hid x11
    have EX12 := Lib.hid (EX11.out.trans x11)
    clear x11
    clear C11
    go_wp2_with fail
    go_ret
    refine ⟨?_, EX12.out⟩
    show Ending.returned (.bool (!decide (n1r < n2r))) = _
    rw [decide_eq_false (by omega)]; rfl

end Go.Proofs.YtkdkgmnjhimdeaaGreatDoor
