/- gleanlaw10.ShareTwo: the walk. -/
import Derived.Test.YtpfhifjkecoahaaDoorBack
namespace Go.Proofs.YtpfhifjkecoahaaDoor
open Go.RowKit Go.Lib

/-- What the third statement says of the numbers. -/
theorem two_values {T S t u : Nat} (hT : T ≠ 0) (hS : S ≠ 0) (h1 : issE T S t = 0) (h2 : issE (T + t) (S + issV T S t) u = 0) (h3 : issE T S (t + u) = 0) :
    issV T S t + issV (T + t) (S + issV T S t) u ≤ issV T S (t + u) := by
  rw [issV_ok h3 hS]
  rw [issV_ok h2 (by omega)]
  rw [issV_ok h1 hS]
  exact two_steps hT

set_option maxHeartbeats 8000000 in
set_option maxRecDepth 100000 in
theorem two_law {a : Option Addr} {m c : Nat} {xs : List Nat} {w : World} (T0 t0 u0 : Nat) (hT : T0 < B64) (ht0 : t0 < B64) (hu0 : u0 < B64) (ha : Sl w a m c xs) (htab : Tab w) :
    Calls Tryd.prog 5 #[.int .u64 (T0 : Int), DecV a m c, .int .u64 (t0 : Int), .int .u64 (u0 : Int)] w (RetE (.bool true) w) := by
  obtain ⟨W, hW⟩ : ∃ X, w.alloc (.cells #[.slice a m c] 26) = X := ⟨_, rfl⟩
  have EW : Ext w W := by rw [← hW]; exact (Ext.refl _).alloc _
  have HK := Lib.hid (fun w' (h : Ext W w') => (box_cell (by rw [hW]; exact h) : w'.cell? ⟨w.heap.size, 0, none⟩ = some (.slice a m c)))
  have HA := Lib.hid (fun w' (h : Ext W w') => (ha.old (EW.trans h)))
  have HEW := Lib.hid EW
  have HW := Lib.hid hW
  have HTAB := Lib.hid (htab.old EW)
  obtain ⟨T, hTv⟩ : ∃ T, T0 % 1000000000000000000 = T := ⟨_, rfl⟩
  obtain ⟨t, htv⟩ : ∃ t, t0 % 1000000000000000000 = t := ⟨_, rfl⟩
  obtain ⟨u, huv⟩ : ∃ u, u0 % 1000000000000000000 = u := ⟨_, rfl⟩
  have hT18 : T < 1000000000000000000 := by rw [← hTv]; exact Nat.mod_lt _ (by decide)
  have ht18 : t < 1000000000000000000 := by rw [← htv]; exact Nat.mod_lt _ (by decide)
  have hu18 : u < 1000000000000000000 := by rw [← huv]; exact Nat.mod_lt _ (by decide)
  have m1 : (T0 : Int) % 1000000000000000000 = (T : Int) := by omega
  have m2 : (t0 : Int) % 1000000000000000000 = (t : Int) := by omega
  have m3 : (u0 : Int) % 1000000000000000000 = (u : Int) := by omega
  have HTB := Lib.hid (show T < B64 by rw [B64_eq]; omega)
  have htB := Lib.hid (show t < B64 by rw [B64_eq]; omega)
  have huB := Lib.hid (show u < B64 by rw [B64_eq]; omega)
  obtain ⟨S, hSv⟩ : ∃ S, val xs = S := ⟨_, rfl⟩
  have HSV := Lib.hid hSv
  obtain ⟨Tt, hTt⟩ : ∃ n, T + t = n := ⟨_, rfl⟩
  obtain ⟨tu, htu⟩ : ∃ n, t + u = n := ⟨_, rfl⟩
  obtain ⟨Ttu, hTtu⟩ : ∃ n, Tt + u = n := ⟨_, rfl⟩
  have s1 : IntKind.u64.wrap ((T : Int) + (t : Int)) = (Tt : Int) := by
    rw [show ((T : Int) + (t : Int)) = (Tt : Int) by omega]; exact IntWalk.u64_in _ (by omega)
  have s2 : IntKind.u64.wrap ((t : Int) + (u : Int)) = (tu : Int) := by
    rw [show ((t : Int) + (u : Int)) = (tu : Int) by omega]; exact IntWalk.u64_in _ (by omega)
  have s3 : IntKind.u64.wrap ((Tt : Int) + (u : Int)) = (Ttu : Int) := by
    rw [show ((Tt : Int) + (u : Int)) = (Ttu : Int) by omega]; exact IntWalk.u64_in _ (by omega)
  have HTtB := Lib.hid (show Tt < B64 by rw [B64_eq]; omega)
  have HtuB := Lib.hid (show tu < B64 by rw [B64_eq]; omega)
  have HTtuB := Lib.hid (show Ttu < B64 by rw [B64_eq]; omega)
  have HTT := Lib.hid hTt; have HTU := Lib.hid htu
  clear EW ha hW htab hTv htv huv hSv hT18 ht18 hu18 hT ht0 hu0 hTt htu hTtu
  go_enter Tryd.func5, Tryd.ntmps5
  go_wp2_with fail
  rw [HW.out]
  refine (known_calls _ HTAB.out).mono ?_
  rintro e w1 ⟨rfl, hext1⟩
  have k1 := HK.out _ hext1
  have E1 := Lib.hid hext1
  clear hext1
  go_wp2_with fail
  rw [m1, m2, m3]
  clear m1 m2 m3
  have HSM := Lib.hid (smallL_calls (dsl_one w1 a m c))
  have E2 := Lib.hid (E1.out.alloc (.cells #[.slice a m c] 26))
  have k2 := HK.out _ E2.out
  clear k1
  by_cases h12 : m ≤ 12
  rotate_left
  · rw [show [(a, m, c)].all twelve = false by simp [twelve, h12]] at HSM
    go_wp2_with fail
    refine HSM.out.mono ?_
    rintro e w2 ⟨rfl, rfl⟩
    go_wp2_with fail
    go_ret
    exact ⟨rfl, HEW.out.trans E2.out⟩
  rw [show [(a, m, c)].all twelve = true by simp [twelve, h12]] at HSM
  have HDZ := Lib.hid (dzero_calls (HA.out _ E2.out) (by omega))
  rw [HSV.out] at HDZ
  by_cases hS0 : S = 0
  · rw [decide_eq_true hS0] at HDZ
    go_wp2_with fail
    refine HSM.out.mono ?_
    rintro e w2 ⟨rfl, rfl⟩
    go_wp2_with fail
    refine HDZ.out.mono ?_
    rintro e w3 ⟨rfl, hext3⟩
    go_wp2_with fail
    go_ret
    exact ⟨rfl, (HEW.out.trans E2.out).trans hext3⟩
  rw [decide_eq_false hS0] at HDZ
  by_cases hT0 : T = 0
  · have g1 : (T : Int) = 0 := by omega
    go_wp2_with fail
    refine HSM.out.mono ?_
    rintro e w2 ⟨rfl, rfl⟩
    go_wp2_with fail
    refine HDZ.out.mono ?_
    rintro e w3 ⟨rfl, hext3⟩
    go_wp2_with fail
    go_ret
    exact ⟨rfl, (HEW.out.trans E2.out).trans hext3⟩
  have g1 : ((T : Int) == 0) = false := by rw [beq_eq_false_iff_ne]; omega
  have HVAL := Lib.hid (two_values (t := t) (u := u) hT0 hS0)
  clear hT0 hS0
  obtain ⟨e1, he1⟩ : ∃ e, issE T S t = e := ⟨_, rfl⟩
  obtain ⟨x, hx⟩ : ∃ x', issV T S t = x' := ⟨_, rfl⟩
  obtain ⟨e2, he2⟩ : ∃ e, issE Tt (S + x) u = e := ⟨_, rfl⟩
  obtain ⟨y, hy⟩ : ∃ y, issV Tt (S + x) u = y := ⟨_, rfl⟩
  obtain ⟨e3, he3⟩ : ∃ e, issE T S tu = e := ⟨_, rfl⟩
  obtain ⟨z, hz⟩ : ∃ z, issV T S tu = z := ⟨_, rfl⟩
  rw [HTT.out, HTU.out, hx, he1, he2, he3, hy, hz] at HVAL
  have HE1 := Lib.hid he1; have HE2 := Lib.hid he2; have HE3 := Lib.hid he3
  have HX := Lib.hid hx; have HY := Lib.hid hy; have HZ := Lib.hid hz
  clear he1 he2 he3 hx hy hz
  go_wp2_with fail
  refine HSM.out.mono ?_
  rintro e w2 ⟨rfl, rfl⟩
  go_wp2_with fail
  refine HDZ.out.mono ?_
  rintro e w3 ⟨rfl, hext3⟩
  have E3 := Lib.hid (E2.out.trans hext3)
  have k3 := HK.out _ E3.out
  clear k2 hext3
  go_wp2_with fail
  refine (issue_at T t S x e1 (HA.out _ E3.out) (by omega) HSV.out HX.out HE1.out HTB.out htB.out).mono ?_
  rintro e w4 ⟨ox, nx, cx, rfl, hownx, hext4, hnox⟩
  obtain ⟨W4, hW4⟩ : ∃ W4, w4.alloc (.cells #[.slice ox nx cx] 26) = W4 := ⟨_, rfl⟩
  have E4 := Lib.hid (show Ext W W4 by rw [← hW4]; exact (E3.out.trans hext4).alloc _)
  have S4 := Lib.hid (show Sl W4 ox nx cx (lim x) by rw [← hW4]; exact hownx.sl.old ((Ext.refl _).alloc _))
  have R4 := Lib.hid (show W4.heap[w4.heap.size]? = some (.cells #[.slice ox nx cx] 26 (0, 0)) by rw [← hW4]; exact heap_alloc_new _ _)
  have HW4 := Lib.hid hW4
  have k4 := HK.out _ E4.out
  have k5 := row_cell R4.out
  clear hW4 k3 hownx hext4
  go_wp2_with (rw [HW4.out])
  refine (dadd_calls (HA.out _ E4.out) S4.out (by omega) (by omega)).mono ?_
  rintro e w5 ⟨o5, n5, c5, rfl, hown5, hext5, hno5⟩
  rw [HSV.out, val_lim] at hown5
  have E5 := Lib.hid (E4.out.trans hext5)
  have S5 := Lib.hid (S4.out.old hext5)
  have R5 := Lib.hid (row_ext hext5 R4.out)
  have P5 := Lib.hid hown5.sl
  clear k4 k5 hown5 hext5
  go_wp2_with fail
  refine (issue_at Tt u (S + x) y e2 P5.out (by omega) (val_lim _) HY.out HE2.out HTtB.out huB.out).mono ?_
  rintro e w6 ⟨oy, ny, cy, rfl, howny, hext6, hnoy⟩
  obtain ⟨W6, hW6⟩ : ∃ W6, w6.alloc (.cells #[.slice oy ny cy] 26) = W6 := ⟨_, rfl⟩
  have X6 := Lib.hid (show Ext w5 W6 by rw [← hW6]; exact hext6.alloc _)
  have E6 := Lib.hid (E5.out.trans X6.out)
  have S6 := Lib.hid (S5.out.old X6.out)
  have R6 := Lib.hid (row_ext X6.out R5.out)
  have Y6 := Lib.hid (show Sl W6 oy ny cy (lim y) by rw [← hW6]; exact howny.sl.old ((Ext.refl _).alloc _))
  have Q6 := Lib.hid (show W6.heap[w6.heap.size]? = some (.cells #[.slice oy ny cy] 26 (0, 0)) by rw [← hW6]; exact heap_alloc_new _ _)
  have HW6 := Lib.hid hW6
  have k6 := HK.out _ E6.out
  clear hW6 howny hext6
  go_wp2_with (rw [HW6.out])
  refine (issue_at T tu S z e3 (HA.out _ E6.out) (by omega) HSV.out HZ.out HE3.out HTB.out HtuB.out).mono ?_
  rintro e w7 ⟨oz, nz, cz, rfl, hownz, hext7, hnoz⟩
  obtain ⟨W7, hW7⟩ : ∃ W7, w7.alloc (.cells #[.slice oz nz cz] 26) = W7 := ⟨_, rfl⟩
  have X7 := Lib.hid (show Ext W6 W7 by rw [← hW7]; exact hext7.alloc _)
  have E7 := Lib.hid (E6.out.trans X7.out)
  have S7 := Lib.hid (S6.out.old X7.out)
  have R7 := Lib.hid (row_ext X7.out R6.out)
  have Y7 := Lib.hid (Y6.out.old X7.out)
  have Q7 := Lib.hid (row_ext X7.out Q6.out)
  have Z7 := Lib.hid (show Sl W7 oz nz cz (lim z) by rw [← hW7]; exact hownz.sl.old ((Ext.refl _).alloc _))
  have T7 := Lib.hid (show W7.heap[w7.heap.size]? = some (.cells #[.slice oz nz cz] 26 (0, 0)) by rw [← hW7]; exact heap_alloc_new _ _)
  have HW7 := Lib.hid hW7
  clear hW7 k6 hownz hext7
  by_cases h1 : e1 = 0
  rotate_left
  · have g2 : (e1 == 0) = false := by rw [beq_eq_false_iff_ne]; exact h1
    go_wp2_with (rw [HW7.out])
    go_ret
    exact ⟨rfl, HEW.out.trans E7.out⟩
  subst h1
  by_cases h2 : e2 = 0
  rotate_left
  · have g2 : (e2 == 0) = false := by rw [beq_eq_false_iff_ne]; exact h2
    go_wp2_with (rw [HW7.out])
    go_ret
    exact ⟨rfl, HEW.out.trans E7.out⟩
  subst h2
  by_cases h3 : e3 = 0
  rotate_left
  · have g2 : (e3 == 0) = false := by rw [beq_eq_false_iff_ne]; exact h3
    go_wp2_with (rw [HW7.out])
    go_ret
    exact ⟨rfl, HEW.out.trans E7.out⟩
  subst h3
  have hle := HVAL.out rfl rfl rfl
  obtain ⟨q, hq, hq0⟩ : ∃ q : Int, cmpN (x + y) z = q ∧ q ≤ 0 := by
    rcases Nat.lt_or_eq_of_le hle with h | h
    · exact ⟨_, cmpN_lt h, by decide⟩
    · exact ⟨_, cmpN_eq h, by decide⟩
  have HQ := Lib.hid hq
  have HD := Lib.hid (show decide (Ttu * (S + (x + y)) ≤ Ttu * (S + z)) = true from decide_eq_true (Nat.mul_le_mul_left _ (by omega)))
  clear hle hq
  have k7 := row_cell R7.out
  have k8 := row_cell Q7.out
  go_wp2_with (rw [HW7.out])
  refine (dadd_calls S7.out Y7.out (by omega) (by omega)).mono ?_
  rintro e w8 ⟨o8, n8, c8, rfl, hown8, hext8, hno8⟩
  rw [val_lim, val_lim] at hown8
  obtain ⟨W8, hW8⟩ : ∃ W8, w8.alloc (.cells #[.slice o8 n8 c8] 26) = W8 := ⟨_, rfl⟩
  have X8 := Lib.hid (show Ext W7 W8 by rw [← hW8]; exact hext8.alloc _)
  have E8 := Lib.hid (E7.out.trans X8.out)
  have Z8 := Lib.hid (Z7.out.old X8.out)
  have T8 := Lib.hid (row_ext X8.out T7.out)
  have B8 := Lib.hid (show Sl W8 o8 n8 c8 (lim (x + y)) by rw [← hW8]; exact hown8.sl.old ((Ext.refl _).alloc _))
  have U8 := Lib.hid (show W8.heap[w8.heap.size]? = some (.cells #[.slice o8 n8 c8] 26 (0, 0)) by rw [← hW8]; exact heap_alloc_new _ _)
  have HW8 := Lib.hid hW8
  have HS8 := Lib.hid (fun w' (h : Ext W8 w') => (⟨HK.out _ (E8.out.trans h), row_cell (row_ext h T8.out), row_cell (row_ext h U8.out)⟩ :
    w'.cell? ⟨w.heap.size, 0, none⟩ = some (.slice a m c) ∧ w'.cell? ⟨w7.heap.size, 0, none⟩ = some (.slice oz nz cz) ∧ w'.cell? ⟨w8.heap.size, 0, none⟩ = some (.slice o8 n8 c8)))
  clear hW8 k7 k8 hown8 hext8
  go_wp2_with (rw [HW8.out])
  go_region_held3 (fun w' => w'.cell? ⟨w.heap.size, 0, none⟩ = some (.slice a m c) ∧ w'.cell? ⟨w7.heap.size, 0, none⟩ = some (.slice oz nz cz) ∧ w'.cell? ⟨w8.heap.size, 0, none⟩ = some (.slice o8 n8 c8))
    (first | exact HS8.out _ (Ext.refl _) | exact HS8.out _ ((Ext.refl _).drew) | exact HS8.out _ (by assumption))
    (first | (go_at_call 10; refine (dcmp_calls (B8.out.old (Ext.refl _).drew) (Z8.out.old (Ext.refl _).drew) (by omega) (by omega)).mono ?_; rintro e wA ⟨rfl, hextA⟩; have EA := ((Ext.refl W8).drew).trans hextA; rw [val_lim, val_lim, HQ.out]) | (go_at_call_of 14 oz; refine (dadd_calls (HA.out _ (E8.out.trans EA)) (Z8.out.old EA) (by omega) (by omega)).mono ?_; rintro e wB ⟨oB, nB, cB, rfl, hownB, hextB, hnoB⟩; have EB := EA.trans hextB; rw [HSV.out, val_lim] at hownB) | (go_at_call_of 14 o8; refine (dadd_calls (HA.out _ (E8.out.trans EB)) (B8.out.old EB) (by omega) (by omega)).mono ?_; rintro e wC ⟨oC, nC, cC, rfl, hownC, hextC, hnoC⟩; have EC := EB.trans hextC; rw [HSV.out, val_lim] at hownC) | (go_at_call 20; refine (rate_calls Ttu Ttu HTtuB.out HTtuB.out (hownB.sl.old hextC) hownC.sl (by omega) (by omega)).mono ?_; rintro e wD ⟨rfl, hextD⟩; have ED := EC.trans hextD; rw [val_lim, val_lim, HD.out]))
  go_wp2_with fail
  go_ret
  exact ⟨rfl, (HEW.out.trans E8.out).trans ED⟩

end Go.Proofs.YtpfhifjkecoahaaDoor
