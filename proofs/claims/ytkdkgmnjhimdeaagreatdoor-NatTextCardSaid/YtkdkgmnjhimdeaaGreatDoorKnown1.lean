/- gleanlaw1.known() is true. -/
import Derived.Test.YtkdkgmnjhimdeaaGreatDoorAt1
import Derived.Test.YtkdkgmnjhimdeaaGreatDoorFromB
import Derived.Test.YtkdkgmnjhimdeaaGreatDoorToB
import Derived.Test.YtkdkgmnjhimdeaaGreatDoorParse
import Derived.Test.YtkdkgmnjhimdeaaGreatDoorPow10
import Derived.Test.YtkdkgmnjhimdeaaGreatDoorHByte
namespace Go.Proofs.YtkdkgmnjhimdeaaGreatDoor
open Go.RowKit Go.Lib

theorem litB_at (w : World) (x y : Nat) (hx : x < 256) (hy : y < 256) : SlB (w.alloc (.cells #[.int .u8 (x : Int), .int .u8 (y : Int)] 5)) (some ⟨w.heap.size, 0, none⟩) 2 2 [x, y] := by
  have hc : (w.alloc (.cells #[.int .u8 (x : Int), .int .u8 (y : Int)] 5 (0, 0))).heap[w.heap.size]? = some (.cells #[.int .u8 (x : Int), .int .u8 (y : Int)] 5 (0, 0)) := heap_alloc_new w _
  refine ⟨rfl, Nat.le_refl _, by decide, Bd.cons hx (Bd.cons hy (Bd.nil _)), .inr ⟨_, _, rfl, ?_⟩⟩
  intro i hi
  rw [cell_of_row _ _ _ _ _ _ hc]
  match i, hi with
  | 0, _ => rfl
  | 1, _ => rfl
theorem parse_at (l : List UInt8) (V : Nat) (hl : l.length ≤ 1000) (hf : decForm l = true) (hv : dnum l = V) (w : World) : Calls Tryz.prog 48 #[.string ⟨l.toArray⟩] w (New2 w 1000 (lim V) 0) := by
  subst hv; exact (parse_form l (by omega) hf w).mono fun e w' ⟨a, n, c, h1, h2, h3, h4⟩ => ⟨a, n, c, h1, h2, h3, by omega⟩
theorem pow10_at (n V : Nat) (hn : n ≤ 4096) (hv : 10 ^ n = V) (w : World) : Calls Tryz.prog 38 #[.int .i64 (n : Int)] w (New2 w 1000 (lim V) 0) := by
  have := pow10_calls (n : Int) w
  unfold pow10L pow10E at this
  rwa [if_pos ⟨by omega, by omega⟩, if_pos ⟨by omega, by omega⟩, Int.toNat_natCast, hv] at this
theorem frombytes_at {a : Option Addr} {n c : Nat} {bs : List Nat} {w : World} (X : Nat) (ha : SlB w a n c bs) (hn : n ≤ 1000000) (hz : bs = [] ∨ bs.getD 0 0 ≠ 0) (hv : nv 256 bs.reverse = X) :
    Calls Tryz.prog 43 #[.slice a n c] w (New2 w n (lim X) 0) := by
  have := frombytes_ok ha (by omega) (by rintro ⟨h1, h2⟩; rcases hz with h | h; exact h1 h; exact h h2)
  rwa [hv] at this
theorem text_at {a : Option Addr} {n c : Nat} {xs : List Nat} {w : World} (X : Nat) (l : List UInt8) (ha : Sl w a n c xs) (hx : val xs = X) (hl : decDigits X = l) (hn : n ≤ 100000) (ht : Tab w) :
    Calls Tryz.prog 50 #[.slice a n c] w (StrE l w) := by
  subst hx hl; exact text_calls ha (by omega) ht
theorem bytes_at {a : Option Addr} {n c : Nat} {xs : List Nat} {w : World} (X : Nat) (l : List Nat) (ha : Sl w a n c xs) (hx : val xs = X) (hl : bytesOf X = l) (hn : n ≤ 100000) :
    Calls Tryz.prog 46 #[.slice a n c] w (NewB w (8 * n) l) := by
  subst hx hl; exact bytes_calls ha (by omega)
theorem hbytes_yes {a b : Option Addr} {m n c d : Nat} {xs ys : List Nat} {w : World} (ha : SlB w a m c xs) (hb : SlB w b n d ys) (h : xs = ys) (hm : m ≤ 1000000) (hn : n ≤ 1000000) : Calls Tryz.prog 45 #[.slice a m c, .slice b n d] w (RetE (.bool true) w) := by
  have := hbytes_calls ha hb (by omega) (by omega)
  rw [decide_eq_true h] at this
  exact this.mono fun e w' ⟨h1, k, h2⟩ => ⟨h1, h2 ▸ (Ext.refl w).drewN k⟩
theorem b64_digits : decDigits (0 + B64 * 1) = [49, 56, 52, 52, 54, 55, 52, 52, 48, 55, 51, 55, 48, 57, 53, 53, 49, 54, 49, 54] := by
  rw [decDigits_split 19 (0 + B64 * 1) (by decide), show (0 + B64 * 1) / 10 ^ 19 = 1 by decide, decDigits_small (by decide)]
  decide +kernel

set_option maxHeartbeats 16000000 in
set_option maxRecDepth 100000 in
theorem known1_calls (w : World) (htab : Tab w) (htz : TzTab w) : Calls Tryz.prog 15 #[] w (RetE (.bool true) w) := by
  have HTZ := Lib.hid htz; have HT := Lib.hid htab
  clear htz htab
  go_enter Tryz.func15, Tryz.ntmps15
  obtain ⟨V1, hV⟩ : ∃ V, w.alloc (.cells #[.int .u64 18446744073709551615] 33) = V := ⟨_, rfl⟩
  have S1 := Lib.hid (show Sl V1 (some ⟨w.heap.size, 0, none⟩) 1 1 (lim 18446744073709551615) by rw [← hV]; exact lit_at w 18446744073709551615 (by decide) (by decide))
  have x1 : Ext w V1 := by rw [← hV]; exact (Ext.refl _).alloc _
  have HV1 := Lib.hid hV
  clear hV
  have D1 := Lib.hid x1
  have EX1 := Lib.hid x1
  clear x1
  obtain ⟨V2, hV⟩ : ∃ V, V1.alloc (.cells #[.int .u64 1] 33) = V := ⟨_, rfl⟩
  have S2 := Lib.hid (show Sl V2 (some ⟨V1.heap.size, 0, none⟩) 1 1 (lim 1) by rw [← hV]; exact lit_at V1 1 (by decide) (by decide))
  have x2 : Ext V1 V2 := by rw [← hV]; exact (Ext.refl _).alloc _
  have HV2 := Lib.hid hV
  clear hV
  have D2 := Lib.hid x2
  have EX2 := Lib.hid (EX1.out.trans x2)
  clear x2
  have C3 := Lib.hid (add_at 18446744073709551615 1 (0 + B64 * 1) (S1.out.old D2.out) S2.out (val_lim _) (val_lim _) (by decide +kernel) (by omega) (by omega))
  go_wp2_with (first | rw [HV1.out] | rw [HV2.out])
  refine C3.out.mono ?_
  rintro e w3 ⟨a3r, n3r, c3r, rfl, o3, x3, l3⟩
  have S3 := Lib.hid o3.sl
  clear o3
  have D3 := Lib.hid x3
  have EX3 := Lib.hid (EX2.out.trans x3)
  clear x3
  clear C3
  obtain ⟨V4, hV⟩ : ∃ V, w3.alloc (.cells #[.int .u64 0, .int .u64 1] 33) = V := ⟨_, rfl⟩
  have S4 := Lib.hid (show Sl V4 (some ⟨w3.heap.size, 0, none⟩) 2 2 (lim (0 + B64 * 1)) by rw [← hV]; exact lit2_at w3 0 1 (by decide) (by decide) (by decide))
  have x4 : Ext w3 V4 := by rw [← hV]; exact (Ext.refl _).alloc _
  have HV4 := Lib.hid hV
  clear hV
  have D4 := Lib.hid x4
  have EX4 := Lib.hid (EX3.out.trans x4)
  clear x4
  obtain ⟨V5, hV⟩ : ∃ V, V4.alloc (.cells #[.int .u64 1] 33) = V := ⟨_, rfl⟩
  have S5 := Lib.hid (show Sl V5 (some ⟨V4.heap.size, 0, none⟩) 1 1 (lim 1) by rw [← hV]; exact lit_at V4 1 (by decide) (by decide))
  have x5 : Ext V4 V5 := by rw [← hV]; exact (Ext.refl _).alloc _
  have HV5 := Lib.hid hV
  clear hV
  have D5 := Lib.hid x5
  have EX5 := Lib.hid (EX4.out.trans x5)
  clear x5
  have C6 := Lib.hid (sub_at (0 + B64 * 1) 1 18446744073709551615 (S4.out.old D5.out) S5.out (val_lim _) (val_lim _) (by decide +kernel) (by omega) (by omega))
  go_wp2_with (first | rw [HV4.out] | rw [HV5.out])
  refine C6.out.mono ?_
  rintro e w6 ⟨a6r, n6r, c6r, rfl, o6, x6, l6⟩
  have S6 := Lib.hid o6.sl
  clear o6
  have D6 := Lib.hid x6
  have EX6 := Lib.hid (EX5.out.trans x6)
  clear x6
  clear C6
  obtain ⟨V7, hV⟩ : ∃ V, w6.alloc (.cells #[.int .u64 18446744073709551615, .int .u64 18446744073709551615] 33) = V := ⟨_, rfl⟩
  have S7 := Lib.hid (show Sl V7 (some ⟨w6.heap.size, 0, none⟩) 2 2 (lim (18446744073709551615 + B64 * 18446744073709551615)) by rw [← hV]; exact lit2_at w6 18446744073709551615 18446744073709551615 (by decide) (by decide) (by decide))
  have x7 : Ext w6 V7 := by rw [← hV]; exact (Ext.refl _).alloc _
  have HV7 := Lib.hid hV
  clear hV
  have D7 := Lib.hid x7
  have EX7 := Lib.hid (EX6.out.trans x7)
  clear x7
  obtain ⟨V8, hV⟩ : ∃ V, V7.alloc (.cells #[.int .u64 18446744073709551615] 33) = V := ⟨_, rfl⟩
  have S8 := Lib.hid (show Sl V8 (some ⟨V7.heap.size, 0, none⟩) 1 1 (lim 18446744073709551615) by rw [← hV]; exact lit_at V7 18446744073709551615 (by decide) (by decide))
  have x8 : Ext V7 V8 := by rw [← hV]; exact (Ext.refl _).alloc _
  have HV8 := Lib.hid hV
  clear hV
  have D8 := Lib.hid x8
  have EX8 := Lib.hid (EX7.out.trans x8)
  clear x8
  have C9 := Lib.hid (divmod_at (18446744073709551615 + B64 * 18446744073709551615) 18446744073709551615 (1 + B64 * 1) 0 (S7.out.old D8.out) S8.out (val_lim _) (val_lim _) (by decide) (by decide +kernel) (by decide +kernel) (by omega) (by omega))
  go_wp2_with (first | rw [HV7.out] | rw [HV8.out])
  refine C9.out.mono ?_
  rintro e w9 ⟨a9q, c9q, n9q, a9r, c9r, n9r, rfl, o9q, o9r, x9, l9q, l9r, -⟩
  have S9q := Lib.hid o9q.sl; have S9r := Lib.hid o9r.sl
  clear o9q o9r
  have D9 := Lib.hid x9
  have EX9 := Lib.hid (EX8.out.trans x9)
  clear x9
  clear C9
  obtain ⟨V10, hV⟩ : ∃ V, w9.alloc (.cells #[.int .u64 1] 33) = V := ⟨_, rfl⟩
  have S10 := Lib.hid (show Sl V10 (some ⟨w9.heap.size, 0, none⟩) 1 1 (lim 1) by rw [← hV]; exact lit_at w9 1 (by decide) (by decide))
  have x10 : Ext w9 V10 := by rw [← hV]; exact (Ext.refl _).alloc _
  have HV10 := Lib.hid hV
  clear hV
  have D10 := Lib.hid x10
  have EX10 := Lib.hid (EX9.out.trans x10)
  clear x10
  have C11 := Lib.hid (divmod_no 1 S10.out (Sl.nil _) rfl (by omega) (by omega))
  go_wp2_with (rw [HV10.out])
  refine C11.out.mono ?_
  rintro e w11 ⟨a11q, c11q, n11q, a11r, c11r, n11r, rfl, o11q, o11r, x11, l11q, l11r, -⟩
  have S11q := Lib.hid o11q.sl; have S11r := Lib.hid o11r.sl
  clear o11q o11r
  have D11 := Lib.hid x11
  have EX11 := Lib.hid (EX10.out.trans x11)
  clear x11
  clear C11
  have C12 := Lib.hid (parse_at [49, 56, 52, 52, 54, 55, 52, 52, 48, 55, 51, 55, 48, 57, 53, 53, 49, 54, 49, 54] (0 + B64 * 1) (by decide) (by decide +kernel) (by decide +kernel) w11)
  go_wp2_with fail
  refine C12.out.mono ?_
  rintro e w12 ⟨a12r, n12r, c12r, rfl, o12, x12, l12⟩
  have S12 := Lib.hid o12.sl
  clear o12
  have D12 := Lib.hid x12
  have EX12 := Lib.hid (EX11.out.trans x12)
  clear x12
  clear C12
  have C13 := Lib.hid (parse_bad [48, 48, 55] (by decide) (by decide +kernel) w12)
  go_wp2_with fail
  refine C13.out.mono ?_
  rintro e w13 ⟨a13r, n13r, c13r, rfl, o13, x13, l13⟩
  have S13 := Lib.hid o13.sl
  clear o13
  have D13 := Lib.hid x13
  have EX13 := Lib.hid (EX12.out.trans x13)
  clear x13
  clear C13
  obtain ⟨V14, hV⟩ : ∃ V, w13.alloc (.cells #[.int .u8 1, .int .u8 0] 5) = V := ⟨_, rfl⟩
  have S14 := Lib.hid (show SlB V14 (some ⟨w13.heap.size, 0, none⟩) 2 2 [1, 0] by rw [← hV]; exact litB_at w13 1 0 (by decide) (by decide))
  have x14 : Ext w13 V14 := by rw [← hV]; exact (Ext.refl _).alloc _
  have HV14 := Lib.hid hV
  clear hV
  have D14 := Lib.hid x14
  have EX14 := Lib.hid (EX13.out.trans x14)
  clear x14
  have C15 := Lib.hid (frombytes_at 256 S14.out (by decide) (.inr (by decide)) (by decide))
  go_wp2_with (rw [HV14.out])
  refine C15.out.mono ?_
  rintro e w15 ⟨a15r, n15r, c15r, rfl, o15, x15, l15⟩
  have S15 := Lib.hid o15.sl
  clear o15
  have D15 := Lib.hid x15
  have EX15 := Lib.hid (EX14.out.trans x15)
  clear x15
  clear C15
  have zr : n9r = 0 := S9r.out.len_zero.2 rfl
  subst zr
  obtain ⟨V16, hV⟩ : ∃ V, w15.alloc (.cells #[.int .u64 256] 33) = V := ⟨_, rfl⟩
  have S16 := Lib.hid (show Sl V16 (some ⟨w15.heap.size, 0, none⟩) 1 1 (lim 256) by rw [← hV]; exact lit_at w15 256 (by decide) (by decide))
  have x16 : Ext w15 V16 := by rw [← hV]; exact (Ext.refl _).alloc _
  have HV16 := Lib.hid hV
  clear hV
  have D16 := Lib.hid x16
  have EX16 := Lib.hid (EX15.out.trans x16)
  clear x16
  have C17 := Lib.hid (hnat_yes (S15.out.old D16.out) S16.out rfl (by omega) (by omega))
  go_wp2_with (rw [HV16.out])
  refine C17.out.mono ?_
  rintro e w17 ⟨rfl, x17⟩
  have D17 := Lib.hid x17
  have EX17 := Lib.hid (EX16.out.trans x17)
  clear x17
  clear C17
  have C18 := Lib.hid (pow10_at 20 (7766279631452241920 + B64 * 5) (by decide) (by decide +kernel) w17)
  go_wp2_with fail
  refine C18.out.mono ?_
  rintro e w18 ⟨a18r, n18r, c18r, rfl, o18, x18, l18⟩
  have S18 := Lib.hid o18.sl
  clear o18
  have D18 := Lib.hid x18
  have EX18 := Lib.hid (EX17.out.trans x18)
  clear x18
  clear C18
  obtain ⟨V19, hV⟩ : ∃ V, w18.alloc (.cells #[.int .u64 18446744073709551615] 33) = V := ⟨_, rfl⟩
  have S19 := Lib.hid (show Sl V19 (some ⟨w18.heap.size, 0, none⟩) 1 1 (lim 18446744073709551615) by rw [← hV]; exact lit_at w18 18446744073709551615 (by decide) (by decide))
  have x19 : Ext w18 V19 := by rw [← hV]; exact (Ext.refl _).alloc _
  have HV19 := Lib.hid hV
  clear hV
  have D19 := Lib.hid x19
  have EX19 := Lib.hid (EX18.out.trans x19)
  clear x19
  obtain ⟨V20, hV⟩ : ∃ V, V19.alloc (.cells #[.int .u64 6] 33) = V := ⟨_, rfl⟩
  have S20 := Lib.hid (show Sl V20 (some ⟨V19.heap.size, 0, none⟩) 1 1 (lim 6) by rw [← hV]; exact lit_at V19 6 (by decide) (by decide))
  have x20 : Ext V19 V20 := by rw [← hV]; exact (Ext.refl _).alloc _
  have HV20 := Lib.hid hV
  clear hV
  have D20 := Lib.hid x20
  have EX20 := Lib.hid (EX19.out.trans x20)
  clear x20
  obtain ⟨V21, hV⟩ : ∃ V, V20.alloc (.cells #[.int .u64 3] 33) = V := ⟨_, rfl⟩
  have S21 := Lib.hid (show Sl V21 (some ⟨V20.heap.size, 0, none⟩) 1 1 (lim 3) by rw [← hV]; exact lit_at V20 3 (by decide) (by decide))
  have x21 : Ext V20 V21 := by rw [← hV]; exact (Ext.refl _).alloc _
  have HV21 := Lib.hid hV
  clear hV
  have D21 := Lib.hid x21
  have EX21 := Lib.hid (EX20.out.trans x21)
  clear x21
  have C22 := Lib.hid (muldiv_at 18446744073709551615 6 3 (18446744073709551614 + B64 * 1) 0 (S19.out.old (Ext.trans D20.out D21.out)) (S20.out.old D21.out) (val_lim _) (val_lim _) S21.out (val_lim _) (by decide) (by decide +kernel) (by decide +kernel) (by omega) (by omega) (by omega))
  go_wp2_with (first | rw [HV19.out] | rw [HV20.out] | rw [HV21.out])
  refine C22.out.mono ?_
  rintro e w22 ⟨a22q, c22q, n22q, a22r, c22r, n22r, rfl, o22q, o22r, x22, l22q, l22r, -⟩
  have S22q := Lib.hid o22q.sl; have S22r := Lib.hid o22r.sl
  clear o22q o22r
  have D22 := Lib.hid x22
  have EX22 := Lib.hid (EX21.out.trans x22)
  clear x22
  clear C22
  obtain ⟨V23, hV⟩ : ∃ V, w22.alloc (.cells #[.int .u64 0, .int .u64 1] 33) = V := ⟨_, rfl⟩
  have S23 := Lib.hid (show Sl V23 (some ⟨w22.heap.size, 0, none⟩) 2 2 (lim (0 + B64 * 1)) by rw [← hV]; exact lit2_at w22 0 1 (by decide) (by decide) (by decide))
  have x23 : Ext w22 V23 := by rw [← hV]; exact (Ext.refl _).alloc _
  have HV23 := Lib.hid hV
  clear hV
  have D23 := Lib.hid x23
  have EX23 := Lib.hid (EX22.out.trans x23)
  clear x23
  have C24 := Lib.hid (hnat_yes (S3.out.old (Ext.trans D4.out (Ext.trans D5.out (Ext.trans D6.out (Ext.trans D7.out (Ext.trans D8.out (Ext.trans D9.out (Ext.trans D10.out (Ext.trans D11.out (Ext.trans D12.out (Ext.trans D13.out (Ext.trans D14.out (Ext.trans D15.out (Ext.trans D16.out (Ext.trans D17.out (Ext.trans D18.out (Ext.trans D19.out (Ext.trans D20.out (Ext.trans D21.out (Ext.trans D22.out D23.out)))))))))))))))))))) S23.out rfl (by omega) (by omega))
  go_wp2_with (rw [HV23.out])
  refine C24.out.mono ?_
  rintro e w24 ⟨rfl, x24⟩
  have D24 := Lib.hid x24
  have EX24 := Lib.hid (EX23.out.trans x24)
  clear x24
  clear C24
  obtain ⟨V25, hV⟩ : ∃ V, w24.alloc (.cells #[.int .u64 18446744073709551615] 33) = V := ⟨_, rfl⟩
  have S25 := Lib.hid (show Sl V25 (some ⟨w24.heap.size, 0, none⟩) 1 1 (lim 18446744073709551615) by rw [← hV]; exact lit_at w24 18446744073709551615 (by decide) (by decide))
  have x25 : Ext w24 V25 := by rw [← hV]; exact (Ext.refl _).alloc _
  have HV25 := Lib.hid hV
  clear hV
  have D25 := Lib.hid x25
  have EX25 := Lib.hid (EX24.out.trans x25)
  clear x25
  have C26 := Lib.hid (hnat_yes (S6.out.old (Ext.trans D7.out (Ext.trans D8.out (Ext.trans D9.out (Ext.trans D10.out (Ext.trans D11.out (Ext.trans D12.out (Ext.trans D13.out (Ext.trans D14.out (Ext.trans D15.out (Ext.trans D16.out (Ext.trans D17.out (Ext.trans D18.out (Ext.trans D19.out (Ext.trans D20.out (Ext.trans D21.out (Ext.trans D22.out (Ext.trans D23.out (Ext.trans D24.out D25.out))))))))))))))))))) S25.out rfl (by omega) (by omega))
  go_wp2_with (rw [HV25.out])
  refine C26.out.mono ?_
  rintro e w26 ⟨rfl, x26⟩
  have D26 := Lib.hid x26
  have EX26 := Lib.hid (EX25.out.trans x26)
  clear x26
  clear C26
  obtain ⟨V27, hV⟩ : ∃ V, w26.alloc (.cells #[.int .u64 1, .int .u64 1] 33) = V := ⟨_, rfl⟩
  have S27 := Lib.hid (show Sl V27 (some ⟨w26.heap.size, 0, none⟩) 2 2 (lim (1 + B64 * 1)) by rw [← hV]; exact lit2_at w26 1 1 (by decide) (by decide) (by decide))
  have x27 : Ext w26 V27 := by rw [← hV]; exact (Ext.refl _).alloc _
  have HV27 := Lib.hid hV
  clear hV
  have D27 := Lib.hid x27
  have EX27 := Lib.hid (EX26.out.trans x27)
  clear x27
  have C28 := Lib.hid (hnat_yes (S9q.out.old (Ext.trans D10.out (Ext.trans D11.out (Ext.trans D12.out (Ext.trans D13.out (Ext.trans D14.out (Ext.trans D15.out (Ext.trans D16.out (Ext.trans D17.out (Ext.trans D18.out (Ext.trans D19.out (Ext.trans D20.out (Ext.trans D21.out (Ext.trans D22.out (Ext.trans D23.out (Ext.trans D24.out (Ext.trans D25.out (Ext.trans D26.out D27.out)))))))))))))))))) S27.out rfl (by omega) (by omega))
  go_wp2_with (rw [HV27.out])
  refine C28.out.mono ?_
  rintro e w28 ⟨rfl, x28⟩
  have D28 := Lib.hid x28
  have EX28 := Lib.hid (EX27.out.trans x28)
  clear x28
  clear C28
  obtain ⟨V29, hV⟩ : ∃ V, w28.alloc (.cells #[.int .u64 0, .int .u64 1] 33) = V := ⟨_, rfl⟩
  have S29 := Lib.hid (show Sl V29 (some ⟨w28.heap.size, 0, none⟩) 2 2 (lim (0 + B64 * 1)) by rw [← hV]; exact lit2_at w28 0 1 (by decide) (by decide) (by decide))
  have x29 : Ext w28 V29 := by rw [← hV]; exact (Ext.refl _).alloc _
  have HV29 := Lib.hid hV
  clear hV
  have D29 := Lib.hid x29
  have EX29 := Lib.hid (EX28.out.trans x29)
  clear x29
  have C30 := Lib.hid (hnat_yes (S12.out.old (Ext.trans D13.out (Ext.trans D14.out (Ext.trans D15.out (Ext.trans D16.out (Ext.trans D17.out (Ext.trans D18.out (Ext.trans D19.out (Ext.trans D20.out (Ext.trans D21.out (Ext.trans D22.out (Ext.trans D23.out (Ext.trans D24.out (Ext.trans D25.out (Ext.trans D26.out (Ext.trans D27.out (Ext.trans D28.out D29.out))))))))))))))))) S29.out rfl (by omega) (by omega))
  go_wp2_with (rw [HV29.out])
  refine C30.out.mono ?_
  rintro e w30 ⟨rfl, x30⟩
  have D30 := Lib.hid x30
  have EX30 := Lib.hid (EX29.out.trans x30)
  clear x30
  clear C30
  obtain ⟨V31, hV⟩ : ∃ V, w30.alloc (.cells #[.int .u64 0, .int .u64 1] 33) = V := ⟨_, rfl⟩
  have S31 := Lib.hid (show Sl V31 (some ⟨w30.heap.size, 0, none⟩) 2 2 (lim (0 + B64 * 1)) by rw [← hV]; exact lit2_at w30 0 1 (by decide) (by decide) (by decide))
  have x31 : Ext w30 V31 := by rw [← hV]; exact (Ext.refl _).alloc _
  have HV31 := Lib.hid hV
  clear hV
  have D31 := Lib.hid x31
  have EX31 := Lib.hid (EX30.out.trans x31)
  clear x31
  have C32 := Lib.hid (text_at (0 + B64 * 1) [49, 56, 52, 52, 54, 55, 52, 52, 48, 55, 51, 55, 48, 57, 53, 53, 49, 54, 49, 54] S31.out (val_lim _) b64_digits (by omega) (HT.out.old EX31.out))
  go_wp2_with (rw [HV31.out])
  refine C32.out.mono ?_
  rintro e w32 ⟨rfl, x32⟩
  have D32 := Lib.hid x32
  have EX32 := Lib.hid (EX31.out.trans x32)
  clear x32
  clear C32
  obtain ⟨V33, hV⟩ : ∃ V, w32.alloc (.cells #[.int .u64 256] 33) = V := ⟨_, rfl⟩
  have S33 := Lib.hid (show Sl V33 (some ⟨w32.heap.size, 0, none⟩) 1 1 (lim 256) by rw [← hV]; exact lit_at w32 256 (by decide) (by decide))
  have x33 : Ext w32 V33 := by rw [← hV]; exact (Ext.refl _).alloc _
  have HV33 := Lib.hid hV
  clear hV
  have D33 := Lib.hid x33
  have EX33 := Lib.hid (EX32.out.trans x33)
  clear x33
  have C34 := Lib.hid (bytes_at 256 [1, 0] S33.out (val_lim _) (by decide +kernel) (by omega))
  go_wp2_with (rw [HV33.out])
  refine C34.out.mono ?_
  rintro e w34 ⟨a34r, n34r, c34r, rfl, o34, x34, l34⟩
  have S34 := Lib.hid o34.sl
  clear o34
  have D34 := Lib.hid x34
  have EX34 := Lib.hid (EX33.out.trans x34)
  clear x34
  clear C34
  obtain ⟨V35, hV⟩ : ∃ V, w34.alloc (.cells #[.int .u8 1, .int .u8 0] 5) = V := ⟨_, rfl⟩
  have S35 := Lib.hid (show SlB V35 (some ⟨w34.heap.size, 0, none⟩) 2 2 [1, 0] by rw [← hV]; exact litB_at w34 1 0 (by decide) (by decide))
  have x35 : Ext w34 V35 := by rw [← hV]; exact (Ext.refl _).alloc _
  have HV35 := Lib.hid hV
  clear hV
  have D35 := Lib.hid x35
  have EX35 := Lib.hid (EX34.out.trans x35)
  clear x35
  have C36 := Lib.hid (hbytes_yes (S34.out.old D35.out) S35.out rfl (by omega) (by omega))
  go_wp2_with (rw [HV35.out])
  refine C36.out.mono ?_
  rintro e w36 ⟨rfl, x36⟩
  have D36 := Lib.hid x36
  have EX36 := Lib.hid (EX35.out.trans x36)
  clear x36
  clear C36
  obtain ⟨V37, hV⟩ : ∃ V, w36.alloc (.cells #[.int .u64 12] 33) = V := ⟨_, rfl⟩
  have S37 := Lib.hid (show Sl V37 (some ⟨w36.heap.size, 0, none⟩) 1 1 (lim 12) by rw [← hV]; exact lit_at w36 12 (by decide) (by decide))
  have x37 : Ext w36 V37 := by rw [← hV]; exact (Ext.refl _).alloc _
  have HV37 := Lib.hid hV
  clear hV
  have D37 := Lib.hid x37
  have EX37 := Lib.hid (EX36.out.trans x37)
  clear x37
  obtain ⟨V38, hV⟩ : ∃ V, V37.alloc (.cells #[.int .u64 18] 33) = V := ⟨_, rfl⟩
  have S38 := Lib.hid (show Sl V38 (some ⟨V37.heap.size, 0, none⟩) 1 1 (lim 18) by rw [← hV]; exact lit_at V37 18 (by decide) (by decide))
  have x38 : Ext V37 V38 := by rw [← hV]; exact (Ext.refl _).alloc _
  have HV38 := Lib.hid hV
  clear hV
  have D38 := Lib.hid x38
  have EX38 := Lib.hid (EX37.out.trans x38)
  clear x38
  have C39 := Lib.hid (gcd_at 12 18 6 (S37.out.old D38.out) S38.out (val_lim _) (val_lim _) (by decide +kernel) (by omega) (by omega) (HTZ.out.old EX38.out))
  go_wp2_with (first | rw [HV37.out] | rw [HV38.out])
  refine C39.out.mono ?_
  rintro e w39 ⟨a39r, n39r, c39r, rfl, o39, x39, l39⟩
  have S39 := Lib.hid o39.sl
  clear o39
  have D39 := Lib.hid x39
  have EX39 := Lib.hid (EX38.out.trans x39)
  clear x39
  clear C39
  obtain ⟨V40, hV⟩ : ∃ V, w39.alloc (.cells #[.int .u64 6] 33) = V := ⟨_, rfl⟩
  have S40 := Lib.hid (show Sl V40 (some ⟨w39.heap.size, 0, none⟩) 1 1 (lim 6) by rw [← hV]; exact lit_at w39 6 (by decide) (by decide))
  have x40 : Ext w39 V40 := by rw [← hV]; exact (Ext.refl _).alloc _
  have HV40 := Lib.hid hV
  clear hV
  have D40 := Lib.hid x40
  have EX40 := Lib.hid (EX39.out.trans x40)
  clear x40
  have C41 := Lib.hid (hnat_yes (S39.out.old D40.out) S40.out rfl (by omega) (by omega))
  go_wp2_with (rw [HV40.out])
  refine C41.out.mono ?_
  rintro e w41 ⟨rfl, x41⟩
  have D41 := Lib.hid x41
  have EX41 := Lib.hid (EX40.out.trans x41)
  clear x41
  clear C41
  obtain ⟨V42, hV⟩ : ∃ V, w41.alloc (.cells #[.int .u64 7766279631452241920, .int .u64 5] 33) = V := ⟨_, rfl⟩
  have S42 := Lib.hid (show Sl V42 (some ⟨w41.heap.size, 0, none⟩) 2 2 (lim (7766279631452241920 + B64 * 5)) by rw [← hV]; exact lit2_at w41 7766279631452241920 5 (by decide) (by decide) (by decide))
  have x42 : Ext w41 V42 := by rw [← hV]; exact (Ext.refl _).alloc _
  have HV42 := Lib.hid hV
  clear hV
  have D42 := Lib.hid x42
  have EX42 := Lib.hid (EX41.out.trans x42)
  clear x42
  have C43 := Lib.hid (hnat_yes (S18.out.old (Ext.trans D19.out (Ext.trans D20.out (Ext.trans D21.out (Ext.trans D22.out (Ext.trans D23.out (Ext.trans D24.out (Ext.trans D25.out (Ext.trans D26.out (Ext.trans D27.out (Ext.trans D28.out (Ext.trans D29.out (Ext.trans D30.out (Ext.trans D31.out (Ext.trans D32.out (Ext.trans D33.out (Ext.trans D34.out (Ext.trans D35.out (Ext.trans D36.out (Ext.trans D37.out (Ext.trans D38.out (Ext.trans D39.out (Ext.trans D40.out (Ext.trans D41.out D42.out)))))))))))))))))))))))) S42.out rfl (by omega) (by omega))
  go_wp2_with (rw [HV42.out])
  refine C43.out.mono ?_
  rintro e w43 ⟨rfl, x43⟩
  have D43 := Lib.hid x43
  have EX43 := Lib.hid (EX42.out.trans x43)
  clear x43
  clear C43
  obtain ⟨V44, hV⟩ : ∃ V, w43.alloc (.cells #[.int .u64 18446744073709551614, .int .u64 1] 33) = V := ⟨_, rfl⟩
  have S44 := Lib.hid (show Sl V44 (some ⟨w43.heap.size, 0, none⟩) 2 2 (lim (18446744073709551614 + B64 * 1)) by rw [← hV]; exact lit2_at w43 18446744073709551614 1 (by decide) (by decide) (by decide))
  have x44 : Ext w43 V44 := by rw [← hV]; exact (Ext.refl _).alloc _
  have HV44 := Lib.hid hV
  clear hV
  have D44 := Lib.hid x44
  have EX44 := Lib.hid (EX43.out.trans x44)
  clear x44
  have C45 := Lib.hid (hnat_yes (S22q.out.old (Ext.trans D23.out (Ext.trans D24.out (Ext.trans D25.out (Ext.trans D26.out (Ext.trans D27.out (Ext.trans D28.out (Ext.trans D29.out (Ext.trans D30.out (Ext.trans D31.out (Ext.trans D32.out (Ext.trans D33.out (Ext.trans D34.out (Ext.trans D35.out (Ext.trans D36.out (Ext.trans D37.out (Ext.trans D38.out (Ext.trans D39.out (Ext.trans D40.out (Ext.trans D41.out (Ext.trans D42.out (Ext.trans D43.out D44.out)))))))))))))))))))))) S44.out rfl (by omega) (by omega))
  go_wp2_with (rw [HV44.out])
  refine C45.out.mono ?_
  rintro e w45 ⟨rfl, x45⟩
  have D45 := Lib.hid x45
  have EX45 := Lib.hid (EX44.out.trans x45)
  clear x45
  clear C45
  go_wp2_with fail
  go_ret
  exact ⟨rfl, EX45.out⟩

end Go.Proofs.YtkdkgmnjhimdeaaGreatDoor
