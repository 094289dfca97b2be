/- gleanlaw3.known() is true. -/
import Derived.Test.YtnfjfgfkeigkiaaGreatDoorHRat
import Derived.Test.YtnfjfgfkeigkiaaGreatDoorDText
namespace Go.Proofs.YtnfjfgfkeigkiaaGreatDoor
open Go.RowKit Go.Lib

theorem rof_at {a b : Option Addr} {m n c d : Nat} {xs ys : List Nat} {w : World} (p q : Nat) (ha : Sl w a m c xs) (hb : Sl w b n d ys) (hm : m ≤ 1000000) (hn : n ≤ 1000000) (htz : TzTab w) (hy : val ys ≠ 0)
    (h1 : rN (val xs) (val ys) = p) (h2 : rD (val xs) (val ys) = q) : Calls Tryz.prog 33 #[.slice a m c, .slice b n d] w (NewRE w m n (lim p) (lim q) 0) := by
  subst h1 h2; exact rof_calls ha hb hm hn htz hy
theorem frac_at (x y p q : Nat) (hx : x < B64) (hy : y < B64) (hy0 : y ≠ 0) (h1 : rN x y = p) (h2 : rD x y = q) (w : World) (htz : TzTab w) :
    Calls Tryz.prog 50 #[.int .u64 (x : Int), .int .u64 (y : Int)] w (NewR w 1 1 (lim p) (lim q)) := by
  subst h1 h2; exact frac_calls x y hx hy hy0 w htz
theorem rsub_below_at {a1 b1 a2 b2 : Option Addr} {m1 n1 c1 d1 m2 n2 c2 d2 : Nat} (x1 y1 x2 y2 : Nat) {w : World} (ha1 : Sl w a1 m1 c1 (lim x1)) (hb1 : Sl w b1 n1 d1 (lim y1)) (ha2 : Sl w a2 m2 c2 (lim x2)) (hb2 : Sl w b2 n2 d2 (lim y2))
    (hm1 : m1 ≤ 100000) (hn1 : n1 ≤ 100000) (hm2 : m2 ≤ 100000) (hn2 : n2 ≤ 100000) (h : dN x1 y1 * dD y2 < dN x2 y2 * dD y1) :
    Calls Tryz.prog 12 #[RatV a1 m1 c1 b1 n1 d1, RatV a2 m2 c2 b2 n2 d2] w (NewRE w 0 0 [] [] 31) :=
  rsub_below ha1 hb1 ha2 hb2 hm1 hn1 hm2 hn2 (by rw [val_lim, val_lim, val_lim, val_lim]; exact h)
theorem rquo_at {a1 b1 a2 b2 : Option Addr} {m1 n1 c1 d1 m2 n2 c2 d2 : Nat} (x1 y1 x2 y2 p q : Nat) {w : World} (ha1 : Sl w a1 m1 c1 (lim x1)) (hb1 : Sl w b1 n1 d1 (lim y1)) (ha2 : Sl w a2 m2 c2 (lim x2)) (hb2 : Sl w b2 n2 d2 (lim y2))
    (hm1 : m1 ≤ 100000) (hn1 : n1 ≤ 100000) (hm2 : m2 ≤ 100000) (hn2 : n2 ≤ 100000) (htz : TzTab w) (h : dN x2 y2 ≠ 0) (h1 : rN (dN x1 y1 * dD y2) (dD y1 * dN x2 y2) = p) (h2 : rD (dN x1 y1 * dD y2) (dD y1 * dN x2 y2) = q) :
    Calls Tryz.prog 14 #[RatV a1 m1 c1 b1 n1 d1, RatV a2 m2 c2 b2 n2 d2] w (NewRE w (m1 + n2 + 8) (n1 + m2 + 4) (lim p) (lim q) 0) := by
  have := rquo_ok ha1 hb1 ha2 hb2 hm1 hn1 hm2 hn2 htz (by rw [val_lim, val_lim]; exact h)
  rw [val_lim, val_lim, val_lim, val_lim, h1, h2] at this
  exact this
theorem radd_at {a1 b1 a2 b2 : Option Addr} {m1 n1 c1 d1 m2 n2 c2 d2 : Nat} (x1 y1 x2 y2 p q : Nat) {w : World} (ha1 : Sl w a1 m1 c1 (lim x1)) (hb1 : Sl w b1 n1 d1 (lim y1)) (ha2 : Sl w a2 m2 c2 (lim x2)) (hb2 : Sl w b2 n2 d2 (lim y2))
    (hm1 : m1 ≤ 100000) (hn1 : n1 ≤ 100000) (hm2 : m2 ≤ 100000) (hn2 : n2 ≤ 100000) (htz : TzTab w) (h1 : (addR (x1, y1) (x2, y2)).1 = p) (h2 : (addR (x1, y1) (x2, y2)).2 = q) :
    Calls Tryz.prog 19 #[RatV a1 m1 c1 b1 n1 d1, RatV a2 m2 c2 b2 n2 d2] w (NewR w (m1 + n2 + m2 + n1 + 8) (n1 + n2 + 4) (lim p) (lim q)) := by
  have := radd_calls ha1 hb1 ha2 hb2 hm1 hn1 hm2 hn2 htz
  rw [val_lim, val_lim, val_lim, val_lim] at this
  subst h1 h2
  exact this
theorem rmul_at {a1 b1 a2 b2 : Option Addr} {m1 n1 c1 d1 m2 n2 c2 d2 : Nat} (x1 y1 x2 y2 p q : Nat) {w : World} (ha1 : Sl w a1 m1 c1 (lim x1)) (hb1 : Sl w b1 n1 d1 (lim y1)) (ha2 : Sl w a2 m2 c2 (lim x2)) (hb2 : Sl w b2 n2 d2 (lim y2))
    (hm1 : m1 ≤ 100000) (hn1 : n1 ≤ 100000) (hm2 : m2 ≤ 100000) (hn2 : n2 ≤ 100000) (htz : TzTab w) (h1 : rN (dN x1 y1 * dN x2 y2) (dD y1 * dD y2) = p) (h2 : rD (dN x1 y1 * dN x2 y2) (dD y1 * dD y2) = q) :
    Calls Tryz.prog 21 #[RatV a1 m1 c1 b1 n1 d1, RatV a2 m2 c2 b2 n2 d2] w (NewR w (m1 + m2 + 4) (n1 + n2 + 4) (lim p) (lim q)) := by
  have := rmul_calls ha1 hb1 ha2 hb2 hm1 hn1 hm2 hn2 htz
  rw [val_lim, val_lim, val_lim, val_lim, h1, h2] at this
  exact this
theorem rcmp_at {a1 b1 a2 b2 : Option Addr} {m1 n1 c1 d1 m2 n2 c2 d2 : Nat} (x1 y1 x2 y2 : Nat) (q : Int) {w : World} (ha1 : Sl w a1 m1 c1 (lim x1)) (hb1 : Sl w b1 n1 d1 (lim y1)) (ha2 : Sl w a2 m2 c2 (lim x2)) (hb2 : Sl w b2 n2 d2 (lim y2))
    (hm1 : m1 ≤ 100000) (hn1 : n1 ≤ 100000) (hm2 : m2 ≤ 100000) (hn2 : n2 ≤ 100000) (h : cmpN (dN x1 y1 * dD y2) (dN x2 y2 * dD y1) = q) :
    Calls Tryz.prog 16 #[RatV a1 m1 c1 b1 n1 d1, RatV a2 m2 c2 b2 n2 d2] w (RetE (.int .i64 q) w) := by
  have := rcmp_calls ha1 hb1 ha2 hb2 hm1 hn1 hm2 hn2
  rw [val_lim, val_lim, val_lim, val_lim, h] at this
  exact this
theorem rfloor_at {a b : Option Addr} {m n c d : Nat} (x y p : Nat) {w : World} (ha : Sl w a m c (lim x)) (hb : Sl w b n d (lim y)) (hm : m ≤ 100000) (hn : n ≤ 100000) (h : dN x y / dD y = p) :
    Calls Tryz.prog 29 #[RatV a m c b n d] w (New w m (lim p)) := by
  have := rfloor_calls ha hb hm hn
  rw [val_lim, val_lim, h] at this
  exact this
theorem rdown_at {a b : Option Addr} {m n c d : Nat} (x y p : Nat) {w : World} (ha : Sl w a m c (lim x)) (hb : Sl w b n d (lim y)) (hm : m ≤ 100000) (hn : n ≤ 100000) (h : dN x y * U36 / dD y = p) :
    Calls Tryz.prog 41 #[RatV a m c b n d] w (NewD w (m + 3) (lim p)) := by
  have := rdown_calls ha hb hm hn
  rw [val_lim, val_lim, h] at this
  exact this
theorem hrat_at {a1 b1 a2 b2 : Option Addr} {m1 n1 c1 d1 m2 n2 c2 d2 : Nat} {xs ys : List Nat} {w : World} (ha1 : Sl w a1 m1 c1 xs) (hb1 : Sl w b1 n1 d1 ys) (ha2 : Sl w a2 m2 c2 xs) (hb2 : Sl w b2 n2 d2 ys)
    (hm1 : m1 ≤ 1000000) (hn1 : n1 ≤ 1000000) (hm2 : m2 ≤ 1000000) (hn2 : n2 ≤ 1000000) : Calls Tryz.prog 18 #[RatV a1 m1 c1 b1 n1 d1, RatV a2 m2 c2 b2 n2 d2] w (RetE (.bool true) w) := by
  have := hrat_calls ha1 hb1 ha2 hb2 hm1 hn1 hm2 hn2
  rw [decide_eq_true ⟨rfl, rfl⟩] at this
  exact this
/-- What a literal of one limb lays, as a number. -/
theorem lit_at (w : World) (x : Nat) (h0 : 0 < x) (hx : x < B64) : Sl (w.alloc (.cells #[.int .u64 (x : Int)] 48)) (some ⟨w.heap.size, 0, none⟩) 1 1 (lim x) := by
  rw [lim_small h0 hx]; exact (own_lit w.heap.size w x hx (Nat.le_refl _)).sl

theorem hnat_at {a b : Option Addr} {m n c d : Nat} {xs : List Nat} {w : World} (ha : Sl w a m c xs) (hb : Sl w b n d xs) (hm : m ≤ 1000000) (hn : n ≤ 1000000) :
    Calls Tryz.prog 38 #[.slice a m c, .slice b n d] w (RetE (.bool true) w) := by
  refine (hnat_calls ha hb (by omega) (by omega)).mono ?_
  rintro e w' ⟨rfl, q, rfl⟩
  rw [decide_eq_true rfl]
  exact ⟨rfl, (Ext.refl w).drewN q⟩
theorem rsum_nil (w : World) (htz : TzTab w) : Calls Tryz.prog 23 #[.slice none 0 0] w (NewR w 3600 193 [] (lim 1)) :=
  rsum_calls (vs := []) (ps := []) ⟨rfl, Nat.le_refl _, by decide, .inl rfl⟩ (by decide) ⟨rfl, fun k v p h => by simp at h⟩ htz
theorem rofnat_nil (w : World) : Calls Tryz.prog 27 #[.slice none 0 0] w (NewR w 0 1 (lim 0) (lim 1)) := rofnat_calls (Sl.nil w) (by decide)
theorem k_tw : decText 333333333333333333333333333333333333 = [48, 46] ++ List.replicate 36 51 := by
  unfold decText
  rw [if_neg (by decide +kernel), show 333333333333333333333333333333333333 / U36 = 0 by decide +kernel, show 333333333333333333333333333333333333 % U36 = 333333333333333333333333333333333333 by decide +kernel, decDigits_small (by decide)]
  decide +kernel
theorem dtext_at {a : Option Addr} {m c : Nat} {xs : List Nat} {w : World} (X : Nat) (l : List UInt8) (ha : Sl w a m c xs) (hm : m ≤ 1000) (ht : Tab w) (hX : val xs = X) (hl : decText X = l) :
    Calls Tryz.prog 51 #[DecV a m c] w (StrE l w) := by
  have := dtext_calls ha hm ht
  rwa [hX, hl] at this

set_option maxHeartbeats 16000000 in
set_option maxRecDepth 100000 in
theorem knownR_calls (w : World) (htab : Tab w) (htz : TzTab w) : Calls Tryz.prog 10 #[] w (RetE (.bool true) w) := by
  obtain ⟨Y1, hY1⟩ : ∃ Y, w.alloc (.cells #[.int .u64 6] 48) = Y := ⟨_, rfl⟩
  obtain ⟨Y2, hY2⟩ : ∃ Y, Y1.alloc (.cells #[.int .u64 4] 48) = Y := ⟨_, rfl⟩
  have E1 : Ext w Y1 := by rw [← hY1]; exact (Ext.refl w).alloc _
  have E2 : Ext Y1 Y2 := by rw [← hY2]; exact (Ext.refl Y1).alloc _
  have s1 : Sl Y2 (some ⟨w.heap.size, 0, none⟩) 1 1 (lim 6) := Sl.old (by rw [← hY1]; exact lit_at w 6 (by decide) (by decide)) E2
  have s2 : Sl Y2 (some ⟨Y1.heap.size, 0, none⟩) 1 1 (lim 4) := by rw [← hY2]; exact lit_at Y1 4 (by decide) (by decide)
  have C1 := Lib.hid (rof_at 3 2 s1 s2 (by decide) (by decide) (htz.old (E1.trans E2)) (by rw [val_lim]; decide) (by rw [val_lim, val_lim]; decide +kernel) (by rw [val_lim, val_lim]; decide +kernel))
  have HY1 := Lib.hid hY1; have HY2 := Lib.hid hY2; have HE := Lib.hid (E1.trans E2); have HT := Lib.hid htab; have HZ := Lib.hid htz
  clear s1 s2 E1 E2 hY1 hY2 htab htz
  go_enter Tryz.func10, Tryz.ntmps10
  go_wp2_with (first | rw [HY1.out] | rw [HY2.out])
  refine C1.out.mono ?_
  rintro e w1 ⟨a1, l1, c1, b1, m1, d1, rfl, oa, ob, hext, hl1, hm1⟩
  obtain ⟨V1, hV1⟩ : ∃ V, w1.alloc (.cells #[.slice a1 l1 c1, .slice b1 m1 d1] 25) = V := ⟨_, rfl⟩
  have E1 : Ext w V1 := by rw [← hV1]; exact (HE.out.trans hext).alloc _
  have sa := oa.sl; have sb := ob.sl
  have hr1 : V1.heap[w1.heap.size]? = some (.cells #[.slice a1 l1 c1, .slice b1 m1 d1] 25 (0, 0)) := by rw [← hV1]; exact heap_alloc_new w1 _
  have EV : Ext w1 V1 := by rw [← hV1]; exact (Ext.refl w1).alloc _
  have HA1 := Lib.hid (sa.old EV); have HB1 := Lib.hid (sb.old EV); have HR1 := Lib.hid hr1; have HE1 := Lib.hid E1; have HV1 := Lib.hid hV1
  clear sa sb oa ob hext hr1 E1 EV hV1 C1 HE HY1 HY2
  go_wp2_with (rw [HV1.out])
  refine (frac_at 1 3 1 3 (by decide) (by decide) (by decide) (by decide +kernel) (by decide +kernel) _ (HZ.out.old HE1.out)).mono ?_
  rintro e w2 ⟨a2, l2, c2, b2, m2, d2, rfl, oa, ob, hext, hl2, hm2⟩
  have HA2 := Lib.hid oa.sl; have HB2 := Lib.hid ob.sl; have HL2 := Lib.hid hext
  clear oa ob hext
  go_wp2_with fail
  refine (frac_at 1 2 1 2 (by decide) (by decide) (by decide) (by decide +kernel) (by decide +kernel) _ (HZ.out.old (HE1.out.trans HL2.out))).mono ?_
  rintro e w3 ⟨a3, l3, c3, b3, m3, d3, rfl, oa, ob, hext, hl3, hm3⟩
  have HA3 := Lib.hid oa.sl; have HB3 := Lib.hid ob.sl; have HL3 := Lib.hid hext
  clear oa ob hext
  go_wp2_with fail
  refine (rsub_below_at 1 3 1 2 (HA2.out.old HL3.out) (HB2.out.old HL3.out) (HA3.out.old (Ext.refl _)) (HB3.out.old (Ext.refl _)) (by omega) (by omega) (by omega) (by omega) (by decide)).mono ?_
  rintro e w4 ⟨a4, l4, c4, b4, m4, d4, rfl, oa, ob, hext, hl4, hm4⟩
  have HL4 := Lib.hid hext
  clear oa ob hext
  obtain ⟨V5, hV⟩ : ∃ V, w4.alloc (.cells #[.slice a4 l4 c4, .slice b4 m4 d4] 25) = V := ⟨_, rfl⟩
  have HR5 := Lib.hid (show V5.heap[w4.heap.size]? = some (.cells #[.slice a4 l4 c4, .slice b4 m4 d4] 25 (0, 0)) by rw [← hV]; exact heap_alloc_new w4 _)
  have HL5 := Lib.hid (show Ext w4 V5 by rw [← hV]; exact (Ext.refl w4).alloc _)
  have HV5 := Lib.hid hV
  clear hV
  obtain ⟨V6, hV⟩ : ∃ V, V5.alloc (.cells #[.int .u64 1] 48) = V := ⟨_, rfl⟩
  have HS6 := Lib.hid (show Sl V6 (some ⟨V5.heap.size, 0, none⟩) 1 1 (lim 1) by rw [← hV]; exact lit_at V5 1 (by decide) (by decide))
  have HL6 := Lib.hid (show Ext V5 V6 by rw [← hV]; exact (Ext.refl V5).alloc _)
  have HV6 := Lib.hid hV
  clear hV
  go_wp2_with (first | rw [HV5.out] | rw [HV6.out])
  refine (rof_zero (Sl.nil _) (by decide) (by decide)).mono ?_
  rintro e w7 ⟨a7, l7, c7, b7, m7, d7, rfl, oa, ob, hext, hl7, hm7⟩
  have HL7 := Lib.hid hext
  clear oa ob hext
  obtain ⟨V8, hV⟩ : ∃ V, w7.alloc (.cells #[.slice a7 l7 c7, .slice b7 m7 d7] 25) = V := ⟨_, rfl⟩
  have HR8 := Lib.hid (show V8.heap[w7.heap.size]? = some (.cells #[.slice a7 l7 c7, .slice b7 m7 d7] 25 (0, 0)) by rw [← hV]; exact heap_alloc_new w7 _)
  have HL8 := Lib.hid (show Ext w7 V8 by rw [← hV]; exact (Ext.refl w7).alloc _)
  have HV8 := Lib.hid hV
  clear hV
  go_wp2_with (rw [HV8.out])
  refine (frac_at 1 3 1 3 (by decide) (by decide) (by decide) (by decide +kernel) (by decide +kernel) _ (HZ.out.old (HE1.out.trans (Ext.trans (Ext.trans (Ext.trans (Ext.trans (Ext.trans (Ext.trans HL2.out HL3.out) HL4.out) HL5.out) HL6.out) HL7.out) HL8.out)))).mono ?_
  rintro e w9 ⟨a9, l9, c9, b9, m9, d9, rfl, oa, ob, hext, hl9, hm9⟩
  have HA9 := Lib.hid oa.sl; have HB9 := Lib.hid ob.sl; have HL9 := Lib.hid hext
  clear oa ob hext
  go_wp2_with fail
  refine (frac_at 1 2 1 2 (by decide) (by decide) (by decide) (by decide +kernel) (by decide +kernel) _ (HZ.out.old (HE1.out.trans (Ext.trans (Ext.trans (Ext.trans (Ext.trans (Ext.trans (Ext.trans (Ext.trans HL2.out HL3.out) HL4.out) HL5.out) HL6.out) HL7.out) HL8.out) HL9.out)))).mono ?_
  rintro e w10 ⟨a10, l10, c10, b10, m10, d10, rfl, oa, ob, hext, hl10, hm10⟩
  have HA10 := Lib.hid oa.sl; have HB10 := Lib.hid ob.sl; have HL10 := Lib.hid hext
  clear oa ob hext
  go_wp2_with fail
  refine (rquo_at 1 3 1 2 2 3 (HA9.out.old HL10.out) (HB9.out.old HL10.out) (HA10.out.old (Ext.refl _)) (HB10.out.old (Ext.refl _)) (by omega) (by omega) (by omega) (by omega) (HZ.out.old (HE1.out.trans (Ext.trans (Ext.trans (Ext.trans (Ext.trans (Ext.trans (Ext.trans (Ext.trans (Ext.trans HL2.out HL3.out) HL4.out) HL5.out) HL6.out) HL7.out) HL8.out) HL9.out) HL10.out))) (by decide) (by decide +kernel) (by decide +kernel)).mono ?_
  rintro e w11 ⟨a11, l11, c11, b11, m11, d11, rfl, oa, ob, hext, hl11, hm11⟩
  have HA11 := Lib.hid oa.sl; have HB11 := Lib.hid ob.sl; have HL11 := Lib.hid hext
  clear oa ob hext
  obtain ⟨V12, hV⟩ : ∃ V, w11.alloc (.cells #[.slice a11 l11 c11, .slice b11 m11 d11] 25) = V := ⟨_, rfl⟩
  have HR12 := Lib.hid (show V12.heap[w11.heap.size]? = some (.cells #[.slice a11 l11 c11, .slice b11 m11 d11] 25 (0, 0)) by rw [← hV]; exact heap_alloc_new w11 _)
  have HL12 := Lib.hid (show Ext w11 V12 by rw [← hV]; exact (Ext.refl w11).alloc _)
  have HV12 := Lib.hid hV
  clear hV
  obtain ⟨V13, hV⟩ : ∃ V, V12.alloc (.cells #[.int .u64 1] 48) = V := ⟨_, rfl⟩
  have HS13 := Lib.hid (show Sl V13 (some ⟨V12.heap.size, 0, none⟩) 1 1 (lim 1) by rw [← hV]; exact lit_at V12 1 (by decide) (by decide))
  have HL13 := Lib.hid (show Ext V12 V13 by rw [← hV]; exact (Ext.refl V12).alloc _)
  have HV13 := Lib.hid hV
  clear hV
  obtain ⟨V14, hV⟩ : ∃ V, V13.alloc (.cells #[.int .u64 2] 48) = V := ⟨_, rfl⟩
  have HS14 := Lib.hid (show Sl V14 (some ⟨V13.heap.size, 0, none⟩) 1 1 (lim 2) by rw [← hV]; exact lit_at V13 2 (by decide) (by decide))
  have HL14 := Lib.hid (show Ext V13 V14 by rw [← hV]; exact (Ext.refl V13).alloc _)
  have HV14 := Lib.hid hV
  clear hV
  obtain ⟨V15, hV⟩ : ∃ V, V14.alloc (.cells #[.slice (some ⟨V12.heap.size, 0, none⟩) 1 1, .slice (some ⟨V13.heap.size, 0, none⟩) 1 1] 25) = V := ⟨_, rfl⟩
  have HR15 := Lib.hid (show V15.heap[V14.heap.size]? = some (.cells #[.slice (some ⟨V12.heap.size, 0, none⟩) 1 1, .slice (some ⟨V13.heap.size, 0, none⟩) 1 1] 25 (0, 0)) by rw [← hV]; exact heap_alloc_new V14 _)
  have HL15 := Lib.hid (show Ext V14 V15 by rw [← hV]; exact (Ext.refl V14).alloc _)
  have HV15 := Lib.hid hV
  clear hV
  obtain ⟨k1, k2, k3, k4⟩ := row2_cells (rowE (Ext.trans (Ext.trans (Ext.trans (Ext.trans (Ext.trans (Ext.trans (Ext.trans (Ext.trans (Ext.trans (Ext.trans (Ext.trans (Ext.trans (Ext.trans HL2.out HL3.out) HL4.out) HL5.out) HL6.out) HL7.out) HL8.out) HL9.out) HL10.out) HL11.out) HL12.out) HL13.out) HL14.out) HL15.out) HR1.out)
  obtain ⟨V16, hV⟩ : ∃ V, V15.alloc (.cells #[.int .u64 3] 48) = V := ⟨_, rfl⟩
  have HS16 := Lib.hid (show Sl V16 (some ⟨V15.heap.size, 0, none⟩) 1 1 (lim 3) by rw [← hV]; exact lit_at V15 3 (by decide) (by decide))
  have HL16 := Lib.hid (show Ext V15 V16 by rw [← hV]; exact (Ext.refl V15).alloc _)
  have HV16 := Lib.hid hV
  clear hV
  obtain ⟨V17, hV⟩ : ∃ V, V16.alloc (.cells #[.int .u64 2] 48) = V := ⟨_, rfl⟩
  have HS17 := Lib.hid (show Sl V17 (some ⟨V16.heap.size, 0, none⟩) 1 1 (lim 2) by rw [← hV]; exact lit_at V16 2 (by decide) (by decide))
  have HL17 := Lib.hid (show Ext V16 V17 by rw [← hV]; exact (Ext.refl V16).alloc _)
  have HV17 := Lib.hid hV
  clear hV
  go_wp2_with (first | rw [HV12.out] | rw [HV13.out] | rw [HV14.out] | rw [HV15.out] | rw [HV16.out] | rw [HV17.out])
  refine (hrat_at (HA1.out.old (Ext.trans (Ext.trans (Ext.trans (Ext.trans (Ext.trans (Ext.trans (Ext.trans (Ext.trans (Ext.trans (Ext.trans (Ext.trans (Ext.trans (Ext.trans (Ext.trans (Ext.trans HL2.out HL3.out) HL4.out) HL5.out) HL6.out) HL7.out) HL8.out) HL9.out) HL10.out) HL11.out) HL12.out) HL13.out) HL14.out) HL15.out) HL16.out) HL17.out)) (HB1.out.old (Ext.trans (Ext.trans (Ext.trans (Ext.trans (Ext.trans (Ext.trans (Ext.trans (Ext.trans (Ext.trans (Ext.trans (Ext.trans (Ext.trans (Ext.trans (Ext.trans (Ext.trans HL2.out HL3.out) HL4.out) HL5.out) HL6.out) HL7.out) HL8.out) HL9.out) HL10.out) HL11.out) HL12.out) HL13.out) HL14.out) HL15.out) HL16.out) HL17.out)) (HS16.out.old HL17.out) (HS17.out.old (Ext.refl _)) (by omega) (by omega) (by omega) (by omega)).mono ?_
  rintro e w18 ⟨rfl, hext⟩
  have HL18 := Lib.hid hext
  clear hext k1 k2 k3 k4
  obtain ⟨k1, k2, k3, k4⟩ := row2_cells (rowE (Ext.trans (Ext.trans (Ext.trans (Ext.trans (Ext.trans HL13.out HL14.out) HL15.out) HL16.out) HL17.out) HL18.out) HR12.out)
  obtain ⟨V19, hV⟩ : ∃ V, w18.alloc (.cells #[.int .u64 2] 48) = V := ⟨_, rfl⟩
  have HS19 := Lib.hid (show Sl V19 (some ⟨w18.heap.size, 0, none⟩) 1 1 (lim 2) by rw [← hV]; exact lit_at w18 2 (by decide) (by decide))
  have HL19 := Lib.hid (show Ext w18 V19 by rw [← hV]; exact (Ext.refl w18).alloc _)
  have HV19 := Lib.hid hV
  clear hV
  obtain ⟨V20, hV⟩ : ∃ V, V19.alloc (.cells #[.int .u64 3] 48) = V := ⟨_, rfl⟩
  have HS20 := Lib.hid (show Sl V20 (some ⟨V19.heap.size, 0, none⟩) 1 1 (lim 3) by rw [← hV]; exact lit_at V19 3 (by decide) (by decide))
  have HL20 := Lib.hid (show Ext V19 V20 by rw [← hV]; exact (Ext.refl V19).alloc _)
  have HV20 := Lib.hid hV
  clear hV
  go_wp2_with (first | rw [HV19.out] | rw [HV20.out])
  refine (hrat_at (HA11.out.old (Ext.trans (Ext.trans (Ext.trans (Ext.trans (Ext.trans (Ext.trans (Ext.trans (Ext.trans HL12.out HL13.out) HL14.out) HL15.out) HL16.out) HL17.out) HL18.out) HL19.out) HL20.out)) (HB11.out.old (Ext.trans (Ext.trans (Ext.trans (Ext.trans (Ext.trans (Ext.trans (Ext.trans (Ext.trans HL12.out HL13.out) HL14.out) HL15.out) HL16.out) HL17.out) HL18.out) HL19.out) HL20.out)) (HS19.out.old HL20.out) (HS20.out.old (Ext.refl _)) (by omega) (by omega) (by omega) (by omega)).mono ?_
  rintro e w21 ⟨rfl, hext⟩
  have HL21 := Lib.hid hext
  clear hext k1 k2 k3 k4
  have HRH := Lib.hid (rowE (Ext.trans (Ext.trans (Ext.trans (Ext.trans (Ext.trans HL16.out HL17.out) HL18.out) HL19.out) HL20.out) HL21.out) HR15.out)
  have HH1 := Lib.hid (HS13.out.old (Ext.trans (Ext.trans (Ext.trans (Ext.trans (Ext.trans (Ext.trans (Ext.trans HL14.out HL15.out) HL16.out) HL17.out) HL18.out) HL19.out) HL20.out) HL21.out)); have HH2 := Lib.hid (HS14.out.old (Ext.trans (Ext.trans (Ext.trans (Ext.trans (Ext.trans (Ext.trans HL15.out HL16.out) HL17.out) HL18.out) HL19.out) HL20.out) HL21.out))
  have HEB := Lib.hid (HE1.out.trans (Ext.trans (Ext.trans (Ext.trans (Ext.trans (Ext.trans (Ext.trans (Ext.trans (Ext.trans (Ext.trans (Ext.trans (Ext.trans (Ext.trans (Ext.trans (Ext.trans (Ext.trans (Ext.trans (Ext.trans (Ext.trans (Ext.trans HL2.out HL3.out) HL4.out) HL5.out) HL6.out) HL7.out) HL8.out) HL9.out) HL10.out) HL11.out) HL12.out) HL13.out) HL14.out) HL15.out) HL16.out) HL17.out) HL18.out) HL19.out) HL20.out) HL21.out))
  have HS8 : Hid (∀ w', Ext w21 w' → w'.cell? ⟨V14.heap.size, 0, none⟩ = some (.slice (some ⟨V12.heap.size, 0, none⟩) 1 1) ∧ w'.cell? ⟨V14.heap.size, 1, none⟩ = some (.slice (some ⟨V13.heap.size, 0, none⟩) 1 1)) := Lib.hid (fun w' h => ⟨(row2_cells (rowE h HRH.out)).1, (row2_cells (rowE h HRH.out)).2.1⟩)
  go_wp2_with fail
  go_region_held3 (fun w' => w'.cell? ⟨V14.heap.size, 0, none⟩ = some (.slice (some ⟨V12.heap.size, 0, none⟩) 1 1) ∧ w'.cell? ⟨V14.heap.size, 1, none⟩ = some (.slice (some ⟨V13.heap.size, 0, none⟩) 1 1))
    (first | exact HS8.out _ (Ext.refl _).drew | exact HS8.out _ (by assumption) | exact HS8.out _ (Ext.alloc (by assumption) _))
    (first
      | (go_at_call_of 50 (#[Value.int IntKind.u64 1, Value.int IntKind.u64 3] : Array Value); refine (frac_at 1 3 1 3 (by decide) (by decide) (by decide) (by decide +kernel) (by decide +kernel) _ (HZ.out.old (HEB.out.trans (by first | exact (Ext.refl w21).drew | exact Ext.alloc (Ext.refl w21).drew _)))).mono ?_; rintro e wA ⟨awA, lwA, cwA, bwA, mwA, dwA, rfl, oawA, obwA, hextwA, hlwA, hmwA⟩; have EwA : Ext w21 wA := (by first | exact Ext.trans (Ext.refl w21).drew hextwA | exact Ext.trans (Ext.alloc (Ext.refl w21).drew _) hextwA))
      | (go_at_call_of 50 (#[Value.int IntKind.u64 1, Value.int IntKind.u64 6] : Array Value); refine (frac_at 1 6 1 6 (by decide) (by decide) (by decide) (by decide +kernel) (by decide +kernel) _ (HZ.out.old (HEB.out.trans (by first | exact EwA | exact Ext.alloc EwA _)))).mono ?_; rintro e wB ⟨awB, lwB, cwB, bwB, mwB, dwB, rfl, oawB, obwB, hextwB, hlwB, hmwB⟩; have EwB : Ext w21 wB := (by first | exact Ext.trans EwA hextwB | exact Ext.trans (Ext.alloc EwA _) hextwB))
      | (go_at_call 19; refine (radd_at 1 3 1 6 1 2 (oawA.sl.old hextwB) (obwA.sl.old hextwB) oawB.sl obwB.sl (by omega) (by omega) (by omega) (by omega) (HZ.out.old (HEB.out.trans EwB)) (by decide +kernel) (by decide +kernel)).mono ?_; rintro e wC ⟨awC, lwC, cwC, bwC, mwC, dwC, rfl, oawC, obwC, hextwC, hlwC, hmwC⟩; have EwC : Ext w21 wC := (by first | exact Ext.trans EwB hextwC | exact Ext.trans (Ext.alloc EwB _) hextwC))
      | (go_at_call_of 18 awC; refine (hrat_at oawC.sl obwC.sl (HH1.out.old EwC) (HH2.out.old EwC) (by omega) (by omega) (by omega) (by omega)).mono ?_; rintro e wD ⟨rfl, hextwD⟩; have EwD : Ext w21 wD := (by first | exact Ext.trans EwC hextwD | exact Ext.trans (Ext.alloc EwC _) hextwD))
      | (go_at_call_of 50 (#[Value.int IntKind.u64 7, Value.int IntKind.u64 2] : Array Value); refine (frac_at 7 2 7 2 (by decide) (by decide) (by decide) (by decide +kernel) (by decide +kernel) _ (HZ.out.old (HEB.out.trans (by first | exact EwD | exact Ext.alloc EwD _)))).mono ?_; rintro e wE ⟨awE, lwE, cwE, bwE, mwE, dwE, rfl, oawE, obwE, hextwE, hlwE, hmwE⟩; have EwE : Ext w21 wE := (by first | exact Ext.trans EwD hextwE | exact Ext.trans (Ext.alloc EwD _) hextwE))
      | (go_at_call 29; refine (rfloor_at 7 2 3 (by first | exact oawE.sl | exact Sl.old oawE.sl ((Ext.refl _).alloc _)) (by first | exact obwE.sl | exact Sl.old obwE.sl ((Ext.refl _).alloc _)) (by omega) (by omega) (by decide)).mono ?_; rintro e wF ⟨awF, lwF, cwF, rfl, oawF, hextwF, hlwF⟩; have EwF : Ext w21 wF := (by first | exact Ext.trans EwE hextwF | exact Ext.trans (Ext.alloc EwE _) hextwF))
      | (go_at_call 38; refine (hnat_at (by first | exact oawF.sl | exact Sl.old oawF.sl ((Ext.refl _).alloc _)) (by first | exact lit_at wF 3 (by decide) (by decide) | exact Sl.old (lit_at wE 3 (by decide) (by decide)) hextwF | exact Sl.old (lit_at wD 3 (by decide) (by decide)) (Ext.trans hextwE hextwF)) (by omega) (by omega)).mono ?_; rintro e wG ⟨rfl, hextwG⟩; have EwG : Ext w21 wG := (by first | exact Ext.trans EwF hextwG | exact Ext.trans (Ext.alloc EwF _) hextwG))
      | (go_at_call 23; refine (rsum_nil _ (HZ.out.old (HEB.out.trans (by first | exact EwG | exact Ext.alloc EwG _)))).mono ?_; rintro e wH ⟨awH, lwH, cwH, bwH, mwH, dwH, rfl, oawH, obwH, hextwH, hlwH, hmwH⟩; have EwH : Ext w21 wH := (by first | exact Ext.trans EwG hextwH | exact Ext.trans (Ext.alloc EwG _) hextwH))
      | (go_at_call_of 18 awH; refine (hrat_at (by first | exact oawH.sl | exact Sl.old oawH.sl ((Ext.refl _).alloc _)) (by first | exact obwH.sl | exact Sl.old obwH.sl ((Ext.refl _).alloc _)) (Sl.nil _) (by first | exact lit_at wH 1 (by decide) (by decide) | exact Sl.old (lit_at wG 1 (by decide) (by decide)) hextwH) (by omega) (by omega) (by omega) (by omega)).mono ?_; rintro e wI ⟨rfl, hextwI⟩; have EwI : Ext w21 wI := (by first | exact Ext.trans EwH hextwI | exact Ext.trans (Ext.alloc EwH _) hextwI))
      | (go_at_call 27; refine (rofnat_nil _).mono ?_; rintro e wJ ⟨awJ, lwJ, cwJ, bwJ, mwJ, dwJ, rfl, oawJ, obwJ, hextwJ, hlwJ, hmwJ⟩; have EwJ : Ext w21 wJ := (by first | exact Ext.trans EwI hextwJ | exact Ext.trans (Ext.alloc EwI _) hextwJ))
      | (go_at_call_of 16 awJ; refine (rcmp_at 0 0 0 1 0 (Sl.nil _) (Sl.nil _) oawJ.sl obwJ.sl (by omega) (by omega) (by omega) (by omega) (by decide)).mono ?_; rintro e wK ⟨rfl, hextwK⟩; have EwK : Ext w21 wK := (by first | exact Ext.trans EwJ hextwK | exact Ext.trans (Ext.alloc EwJ _) hextwK))
      | (go_at_call_of 50 (#[Value.int IntKind.u64 1, Value.int IntKind.u64 3] : Array Value); refine (frac_at 1 3 1 3 (by decide) (by decide) (by decide) (by decide +kernel) (by decide +kernel) _ (HZ.out.old (HEB.out.trans (by first | exact EwK | exact Ext.alloc EwK _)))).mono ?_; rintro e wL ⟨awL, lwL, cwL, bwL, mwL, dwL, rfl, oawL, obwL, hextwL, hlwL, hmwL⟩; have EwL : Ext w21 wL := (by first | exact Ext.trans EwK hextwL | exact Ext.trans (Ext.alloc EwK _) hextwL))
      | (go_at_call 41; refine (rdown_at 1 3 333333333333333333333333333333333333 oawL.sl obwL.sl (by omega) (by omega) (by decide +kernel)).mono ?_; rintro e wM ⟨awM, lwM, cwM, rfl, oawM, hextwM, hlwM⟩; have EwM : Ext w21 wM := (by first | exact Ext.trans EwL hextwM | exact Ext.trans (Ext.alloc EwL _) hextwM))
      | (go_at_call 51; refine (dtext_at 333333333333333333333333333333333333 ([48, 46] ++ List.replicate 36 51) oawM.sl (by omega) (HT.out.old (HEB.out.trans EwM)) (val_lim _) k_tw).mono ?_; rintro e wN ⟨rfl, hextwN⟩; have EwN : Ext w21 wN := (by first | exact Ext.trans EwM hextwN | exact Ext.trans (Ext.alloc EwM _) hextwN))
      | (go_at_call_of 50 (#[Value.int IntKind.u64 1, Value.int IntKind.u64 3] : Array Value); refine (frac_at 1 3 1 3 (by decide) (by decide) (by decide) (by decide +kernel) (by decide +kernel) _ (HZ.out.old (HEB.out.trans (by first | exact EwN | exact Ext.alloc EwN _)))).mono ?_; rintro e wO ⟨awO, lwO, cwO, bwO, mwO, dwO, rfl, oawO, obwO, hextwO, hlwO, hmwO⟩; have EwO : Ext w21 wO := (by first | exact Ext.trans EwN hextwO | exact Ext.trans (Ext.alloc EwN _) hextwO))
      | (go_at_call_of 50 (#[Value.int IntKind.u64 1, Value.int IntKind.u64 2] : Array Value); refine (frac_at 1 2 1 2 (by decide) (by decide) (by decide) (by decide +kernel) (by decide +kernel) _ (HZ.out.old (HEB.out.trans (by first | exact EwO | exact Ext.alloc EwO _)))).mono ?_; rintro e wP ⟨awP, lwP, cwP, bwP, mwP, dwP, rfl, oawP, obwP, hextwP, hlwP, hmwP⟩; have EwP : Ext w21 wP := (by first | exact Ext.trans EwO hextwP | exact Ext.trans (Ext.alloc EwO _) hextwP))
      | (go_at_call_of 16 awO; refine (rcmp_at 1 3 1 2 (-1) (oawO.sl.old hextwP) (obwO.sl.old hextwP) oawP.sl obwP.sl (by omega) (by omega) (by omega) (by omega) (by decide)).mono ?_; rintro e wQ ⟨rfl, hextwQ⟩; have EwQ : Ext w21 wQ := (by first | exact Ext.trans EwP hextwQ | exact Ext.trans (Ext.alloc EwP _) hextwQ))
      | (go_at_call_of 50 (#[Value.int IntKind.u64 2, Value.int IntKind.u64 3] : Array Value); refine (frac_at 2 3 2 3 (by decide) (by decide) (by decide) (by decide +kernel) (by decide +kernel) _ (HZ.out.old (HEB.out.trans (by first | exact EwQ | exact Ext.alloc EwQ _)))).mono ?_; rintro e wR ⟨awR, lwR, cwR, bwR, mwR, dwR, rfl, oawR, obwR, hextwR, hlwR, hmwR⟩; have EwR : Ext w21 wR := (by first | exact Ext.trans EwQ hextwR | exact Ext.trans (Ext.alloc EwQ _) hextwR))
      | (go_at_call_of 50 (#[Value.int IntKind.u64 3, Value.int IntKind.u64 4] : Array Value); refine (frac_at 3 4 3 4 (by decide) (by decide) (by decide) (by decide +kernel) (by decide +kernel) _ (HZ.out.old (HEB.out.trans (by first | exact EwR | exact Ext.alloc EwR _)))).mono ?_; rintro e wS ⟨awS, lwS, cwS, bwS, mwS, dwS, rfl, oawS, obwS, hextwS, hlwS, hmwS⟩; have EwS : Ext w21 wS := (by first | exact Ext.trans EwR hextwS | exact Ext.trans (Ext.alloc EwR _) hextwS))
      | (go_at_call 21; refine (rmul_at 2 3 3 4 1 2 (oawR.sl.old hextwS) (obwR.sl.old hextwS) oawS.sl obwS.sl (by omega) (by omega) (by omega) (by omega) (HZ.out.old (HEB.out.trans EwS)) (by decide +kernel) (by decide +kernel)).mono ?_; rintro e wT ⟨awT, lwT, cwT, bwT, mwT, dwT, rfl, oawT, obwT, hextwT, hlwT, hmwT⟩; have EwT : Ext w21 wT := (by first | exact Ext.trans EwS hextwT | exact Ext.trans (Ext.alloc EwS _) hextwT))
      | (go_at_call_of 18 awT; refine (hrat_at oawT.sl obwT.sl (HH1.out.old EwT) (HH2.out.old EwT) (by omega) (by omega) (by omega) (by omega)).mono ?_; rintro e wU ⟨rfl, hextwU⟩; have EwU : Ext w21 wU := (by first | exact Ext.trans EwT hextwU | exact Ext.trans (Ext.alloc EwT _) hextwU)))
  all_goals (
    have HEND := Lib.hid EwU
    go_wp2_with fail
    go_ret
    exact ⟨rfl, HEB.out.trans HEND.out⟩)

end Go.Proofs.YtnfjfgfkeigkiaaGreatDoor
