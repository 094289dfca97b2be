/- gleanlaw10.ShareRate: the walk. -/
import Derived.Test.YtpfhifjkecoahaaGreatDoorKnown
namespace Go.Proofs.YtpfhifjkecoahaaGreatDoor
open Go.RowKit Go.Lib

theorem dsl_two (w : World) (a b : Option Addr) (m n c d : Nat) : DSl (w.alloc (.cells #[.slice a m c, .slice b n d] 26)) (some ⟨w.heap.size, 0, none⟩) 2 2 [(a, m, c), (b, n, d)] := by
  refine ⟨rfl, Nat.le_refl _, by decide, .inr ⟨_, _, rfl, fun i v hv => ?_⟩⟩
  have hc := heap_alloc_new w (.cells #[.slice a m c, .slice b n d] 26)
  rw [cell_of_row _ _ _ _ _ _ hc]
  match i, hv with
  | 0, hv => simp only [List.getElem?_cons_zero, Option.some.injEq] at hv; subst hv; rfl
  | 1, hv => simp at hv; subst hv; rfl
  | i + 2, hv => simp at hv
/-- Joining: tokens by shares do not fall. -/
theorem join_rate {T S t : Nat} (he : issE T S t = 0) (hS : S ≠ 0) : T * (S + issV T S t) ≤ (T + t) * S := by
  rw [issV_ok he hS, Nat.mul_add, Nat.add_mul]
  have : T * (S * t / T) ≤ S * t := Nat.mul_div_le _ _
  rw [Nat.mul_comm t S]
  omega
/-- Leaving: neither. -/
theorem leave_rate {T S x : Nat} (h : x < S) : (0 < T → redV T S x < T) ∧ T * (S - x) ≤ (T - redV T S x) * S := by
  have hr : redV T S x = x * T / S := by unfold redV; rw [if_neg (by omega), if_neg (by omega), red_in]
  have hle := redV_le T S x
  refine ⟨fun hT => ?_, ?_⟩
  · rw [hr, Nat.div_lt_iff_lt_mul (by omega), Nat.mul_comm T S]
    exact Nat.mul_lt_mul_of_pos_right h hT
  · have hm : redV T S x * S ≤ x * T := by rw [hr]; exact Nat.div_mul_le_self _ _
    generalize redV T S x = r at *
    rw [Nat.mul_sub, Nat.sub_mul, Nat.mul_comm T x]
    omega

set_option maxHeartbeats 16000000 in
set_option maxRecDepth 100000 in
theorem rate_law {a b : Option Addr} {m k c d : Nat} {xs ys : List Nat} {w : World} (T0 t0 : Nat) (ha : Sl w a m c xs) (hb : Sl w b k d ys) (htab : Tab w) :
    Calls Tryz.prog 4 #[.int .u64 (T0 : Int), DecV a m c, DecV b k d, .int .u64 (t0 : Int)] w (RetE (.bool true) w) := by
  obtain ⟨W, hW⟩ : ∃ X, W2 w (.slice a m c) (.slice b k d) = X := ⟨_, rfl⟩
  have EW : Ext w W := by rw [← hW]; exact W2_ext _ _ _
  have HK := Lib.hid (fun w' (h : Ext W w') => W2_at w (.slice a m c) (.slice b k d) (by rw [hW]; exact h))
  have HA := Lib.hid (fun w' (h : Ext W w') => (ha.old (EW.trans h)))
  have HB := Lib.hid (fun w' (h : Ext W w') => (hb.old (EW.trans h)))
  have HEW := Lib.hid EW
  simp only [W2] at hW
  have HW := Lib.hid hW
  have HTAB := Lib.hid (htab.old EW)
  obtain ⟨T, hTv⟩ : ∃ T, T0 % 1000000000000000000 = T := ⟨_, rfl⟩
  obtain ⟨t, htv⟩ : ∃ t, t0 % 1000000000000000000 = t := ⟨_, rfl⟩
  have hT18 : T < 1000000000000000000 := by rw [← hTv]; exact Nat.mod_lt _ (by decide)
  have ht18 : t < 1000000000000000000 := by rw [← htv]; exact Nat.mod_lt _ (by decide)
  have m1 : (T0 : Int) % 1000000000000000000 = (T : Int) := by omega
  have m2 : (t0 : Int) % 1000000000000000000 = (t : Int) := by omega
  have HTB := Lib.hid (show T < B64 by rw [B64_eq]; omega)
  have htB := Lib.hid (show t < B64 by rw [B64_eq]; omega)
  obtain ⟨TT, hTT⟩ : ∃ n, T + t = n := ⟨_, rfl⟩
  have s1 : IntKind.u64.wrap ((T : Int) + (t : Int)) = (TT : Int) := by
    rw [show ((T : Int) + (t : Int)) = (TT : Int) by omega]; exact IntWalk.u64_in _ (by omega)
  have HTTB := Lib.hid (show TT < B64 by rw [B64_eq]; omega)
  have HTT := Lib.hid hTT
  obtain ⟨S, hSv⟩ : ∃ S, val xs = S := ⟨_, rfl⟩
  obtain ⟨x, hxv⟩ : ∃ S, val ys = S := ⟨_, rfl⟩
  have HSV := Lib.hid hSv; have HXV := Lib.hid hxv
  have HT18 := Lib.hid hT18
  clear EW ha hb hW htab hTv htv hSv hxv hT18 ht18 hTT
  go_enter Tryz.func4, Tryz.ntmps4
  go_wp2_with fail
  rw [HW.out]
  refine (known_calls _ HTAB.out).mono ?_
  rintro e w1 ⟨rfl, hext1⟩
  have k1 := HK.out _ hext1
  have E1 := Lib.hid hext1
  clear hext1
  go_wp2_with fail
  rw [m1, m2]
  clear m1 m2
  have HSM := Lib.hid (smallL_calls (dsl_two w1 a b m k c d))
  have E2 := Lib.hid (E1.out.alloc (.cells #[.slice a m c, .slice b k d] 26))
  clear k1
  have k1 := HK.out _ E2.out
  by_cases h12 : m ≤ 12 ∧ k ≤ 12
  rotate_left
  · have hsm : [(a, m, c), (b, k, d)].all twelve = false := by
      rw [Bool.eq_false_iff]
      intro h
      simp [twelve] at h
      exact h12 ⟨h.1, h.2⟩
    rw [hsm] at HSM
    clear h12
    go_wp2_with fail
    refine HSM.out.mono ?_
    rintro e w2 ⟨rfl, rfl⟩
    go_wp2_with fail
    go_ret
    exact ⟨rfl, HEW.out.trans E2.out⟩
  obtain ⟨hm, hk⟩ := h12
  have hsm : [(a, m, c), (b, k, d)].all twelve = true := by simp [twelve, hm, hk]
  rw [hsm] at HSM
  clear hsm
  have HDZ := Lib.hid (dzero_calls (HA.out _ E2.out) (by omega))
  rw [HSV.out] at HDZ
  by_cases hS0 : S = 0
  · rw [decide_eq_true hS0] at HDZ
    go_wp2_with fail
    refine HSM.out.mono ?_
    rintro e w2 ⟨rfl, rfl⟩
    go_wp2_with fail
    refine HDZ.out.mono ?_
    rintro e w3 ⟨rfl, hext3⟩
    go_wp2_with fail
    go_ret
    exact ⟨rfl, (HEW.out.trans E2.out).trans hext3⟩
  rw [decide_eq_false hS0] at HDZ
  obtain ⟨r, hr⟩ : ∃ r, redV T S x = r := ⟨_, rfl⟩
  obtain ⟨f, hf⟩ : ∃ e1, redE S x = e1 := ⟨_, rfl⟩
  have HR := Lib.hid hr; have HF := Lib.hid hf
  have HRT := Lib.hid (show r ≤ T by rw [← hr]; exact redV_le T S x)
  obtain ⟨ls, hls⟩ : ∃ ls, dsubL S x = ls := ⟨_, rfl⟩
  obtain ⟨e2, he2⟩ : ∃ e2, dsubE S x = e2 := ⟨_, rfl⟩
  have HLS := Lib.hid hls; have HE2 := Lib.hid he2
  obtain ⟨e1, he1⟩ : ∃ e, issE T S t = e := ⟨_, rfl⟩
  obtain ⟨z, hz⟩ : ∃ z, issV T S t = z := ⟨_, rfl⟩
  have HE1 := Lib.hid he1; have HZ := Lib.hid hz
  have HS0 := Lib.hid hS0
  clear hr hf hls he2 he1 hz hS0
  go_wp2_with fail
  refine HSM.out.mono ?_
  rintro e w2 ⟨rfl, rfl⟩
  go_wp2_with fail
  refine HDZ.out.mono ?_
  rintro e w3 ⟨rfl, hext3⟩
  have E3 := Lib.hid (E2.out.trans hext3)
  clear k1 hext3 HDZ HSM
  have k1 := HK.out _ E3.out
  go_wp2_with fail
  refine (issue_at T t S z e1 (HA.out _ E3.out) (by omega) HSV.out HZ.out HE1.out HTB.out htB.out).mono ?_
  rintro e w4 ⟨oz, nz, cz, rfl, hownz, hext4, hnoz⟩
  obtain ⟨W4, hW4⟩ : ∃ W4, w4.alloc (.cells #[.slice oz nz cz] 26) = W4 := ⟨_, rfl⟩
  have E4 := Lib.hid (show Ext W W4 by rw [← hW4]; exact (E3.out.trans hext4).alloc _)
  have S4 := Lib.hid (show Sl W4 oz nz cz (lim z) by rw [← hW4]; exact hownz.sl.old ((Ext.refl _).alloc _))
  have R4 := Lib.hid (show W4.heap[w4.heap.size]? = some (.cells #[.slice oz nz cz] 26 (0, 0)) by rw [← hW4]; exact heap_alloc_new _ _)
  have HW4 := Lib.hid hW4
  have HS4 := Lib.hid (fun w' (h : Ext W4 w') => (⟨(HK.out _ (E4.out.trans h)).1, row_cell (row_ext h R4.out)⟩ : w'.cell? ⟨w.heap.size, 0, none⟩ = some (.slice a m c) ∧ w'.cell? ⟨w4.heap.size, 0, none⟩ = some (.slice oz nz cz)))
  clear hW4 hownz hext4 k1
  by_cases he1 : e1 = 0
  · subst he1
    have HD := Lib.hid (show decide (T * (S + z) ≤ TT * S) = true by
      have := join_rate HE1.out HS0.out
      rw [HZ.out, HTT.out] at this
      exact decide_eq_true this)
    go_wp2_with (rw [HW4.out])
    go_region_held3 (fun w' => w'.cell? ⟨w.heap.size, 0, none⟩ = some (.slice a m c) ∧ w'.cell? ⟨w4.heap.size, 0, none⟩ = some (.slice oz nz cz))
      (first | exact HS4.out _ (Ext.refl _) | exact HS4.out _ ((Ext.refl _).drew) | exact HS4.out _ (by assumption))
      (first | (go_at_call 20; refine (dadd_calls (HA.out _ E4.out.drew) (S4.out.old (Ext.refl _).drew) (by omega) (by omega)).mono ?_; rintro e wA ⟨oA, nA, cA, rfl, hownA, hextA, hnoA⟩; have EA := ((Ext.refl W4).drew).trans hextA; rw [HSV.out, val_lim] at hownA) | (go_at_call 19; refine (rate_calls T TT HTB.out HTTB.out (HA.out _ (E4.out.trans EA)) hownA.sl (by omega) (by omega)).mono ?_; rintro e wB ⟨rfl, hextB⟩; have EB := EA.trans hextB; rw [HSV.out, val_lim, HD.out]))
    have EN := Lib.hid (E4.out.trans EB)
    clear EB EA hownA hextA hextB hnoA
    have k2 := HK.out _ EN.out
    go_wp2_with fail
    refine (redeem_at T S x r f (HA.out _ EN.out) (HB.out _ EN.out) (by omega) (by omega) HSV.out HXV.out HR.out HF.out HTB.out).mono ?_
    rintro e w6 ⟨rfl, hext6⟩
    have E6 := Lib.hid (EN.out.trans hext6)
    clear k2 hext6
    have k2 := HK.out _ E6.out
    go_wp2_with fail
    refine (dsub_calls (HA.out _ E6.out) (HB.out _ E6.out) (by omega) (by omega)).mono ?_
    rintro e w7 ⟨o7, n7, c7, rfl, hown7, hext7, hno7⟩
    rw [HSV.out, HXV.out] at hown7
    rw [HSV.out, HXV.out, HE2.out]
    rw [HLS.out] at hown7
    obtain ⟨W7, hW7⟩ : ∃ W7, w7.alloc (.cells #[.slice o7 n7 c7] 26) = W7 := ⟨_, rfl⟩
    have E7 := Lib.hid (show Ext W W7 by rw [← hW7]; exact (E6.out.trans hext7).alloc _)
    have S7 := Lib.hid (show Sl W7 o7 n7 c7 ls by rw [← hW7]; exact hown7.sl.old ((Ext.refl _).alloc _))
    have R7 := Lib.hid (show W7.heap[w7.heap.size]? = some (.cells #[.slice o7 n7 c7] 26 (0, 0)) by rw [← hW7]; exact heap_alloc_new _ _)
    have HW7 := Lib.hid hW7
    clear hW7 hown7 hext7 k2
    rcases Nat.lt_trichotomy S x with h3 | h3 | h3
    · have hf : f = 102 := by rw [← HF.out]; unfold redE; rw [if_pos h3]
      have he2 : e2 = 20 := by rw [← HE2.out]; unfold dsubE; rw [if_pos h3]
      subst hf he2
      clear h3
      go_wp2_with (rw [HW7.out])
      go_ret
      exact ⟨rfl, HEW.out.trans E7.out⟩
    · have hf : f = 0 := by rw [← HF.out]; unfold redE; rw [if_neg (by omega)]
      have he2 : e2 = 0 := by rw [← HE2.out]; unfold dsubE; rw [if_neg (by omega)]
      have hrT : r = T := by rw [← HR.out]; unfold redV; rw [if_neg (by omega), if_pos h3.symm]
      have hls : val ls = 0 := by rw [← HLS.out]; unfold dsubL; rw [if_neg (by omega), val_lim]; omega
      subst hf he2 hrT
      have HDZ := Lib.hid (dzero_calls S7.out (by omega))
      rw [hls] at HDZ
      rw [decide_eq_true rfl] at HDZ
      have k4 := row_cell R7.out
      clear h3 hls
      go_wp2_with (rw [HW7.out])
      refine HDZ.out.mono ?_
      rintro e w8 ⟨rfl, hext8⟩
      go_wp2_with fail
      go_ret
      exact ⟨rfl, (HEW.out.trans E7.out).trans hext8⟩
    · have hf : f = 0 := by rw [← HF.out]; unfold redE; rw [if_neg (by omega)]
      have he2 : e2 = 0 := by rw [← HE2.out]; unfold dsubE; rw [if_neg (by omega)]
      obtain ⟨L, hL⟩ : ∃ L, S - x = L := ⟨_, rfl⟩
      have hls : val ls = L := by rw [← HLS.out]; unfold dsubL; rw [if_neg (by omega), val_lim, hL]
      have hlr := leave_rate (T := T) h3
      rw [HR.out, hL] at hlr
      subst hf he2
      have HLV := Lib.hid hls
      have hL0 : ¬ L = 0 := by omega
      have HDZ := Lib.hid (dzero_calls S7.out (by omega))
      rw [hls, decide_eq_false hL0] at HDZ
      have k4 := row_cell R7.out
      obtain ⟨TR, hTR⟩ : ∃ n, T - r = n := ⟨_, rfl⟩
      have hsub : IntKind.u64.wrap ((T : Int) - (r : Int)) = (TR : Int) := by
        have := HRT.out; have := HT18.out
        rw [show ((T : Int) - (r : Int)) = (TR : Int) by omega]; exact IntWalk.u64_in _ (by omega)
      have HTRB := Lib.hid (show TR < B64 by have := HT18.out; rw [B64_eq]; omega)
      rw [hTR] at hlr
      have HD2 := Lib.hid (show decide (T * L ≤ TR * S) = true from decide_eq_true hlr.2)
      have hTz : (T = 0) ∨ (0 < T ∧ r < T) := by
        rcases Nat.eq_zero_or_pos T with h | h
        · exact .inl h
        · exact .inr ⟨h, hlr.1 h⟩
      have HTR0 := Lib.hid (show T = 0 → TR = 0 by omega)
      clear hlr h3 hL hL0 hls hTR
      rcases hTz with hTz | ⟨hTz, hTz2⟩
      · subst hTz
        obtain rfl : r = 0 := by have := HRT.out; omega
        obtain rfl : TR = 0 := HTR0.out rfl
        clear hsub
        go_wp2_with (rw [HW7.out])
        refine HDZ.out.mono ?_
        rintro e w8 ⟨rfl, hext8⟩
        have E8 := Lib.hid (E7.out.trans hext8)
        have S8 := Lib.hid (S7.out.old hext8)
        have k5 := row_cell (row_ext hext8 R7.out)
        have k6 := HK.out _ E8.out
        clear k4 hext8
        go_wp2_with fail
        refine (rate_calls 0 0 (by decide) (by decide) (HA.out _ E8.out) S8.out (by omega) (by omega)).mono ?_
        rintro e w9 ⟨rfl, hext9⟩
        rw [HSV.out, HLV.out, HD2.out]
        go_wp2_with fail
        go_ret
        exact ⟨rfl, (HEW.out.trans E8.out).trans hext9⟩
      · have g7 : ((T : Int) == 0) = false := by rw [beq_eq_false_iff_ne]; omega
        have g8 : (r : Int) < (T : Int) := by omega
        clear hTz hTz2
        go_wp2_with (rw [HW7.out])
        refine HDZ.out.mono ?_
        rintro e w8 ⟨rfl, hext8⟩
        have E8 := Lib.hid (E7.out.trans hext8)
        have S8 := Lib.hid (S7.out.old hext8)
        have k5 := row_cell (row_ext hext8 R7.out)
        have k6 := HK.out _ E8.out
        clear k4 hext8
        go_wp2_with fail
        refine (rate_calls T TR HTB.out HTRB.out (HA.out _ E8.out) S8.out (by omega) (by omega)).mono ?_
        rintro e w9 ⟨rfl, hext9⟩
        rw [HSV.out, HLV.out, HD2.out]
        go_wp2_with fail
        go_ret
        exact ⟨rfl, (HEW.out.trans E8.out).trans hext9⟩
  · have g2 : (e1 == 0) = false := by rw [beq_eq_false_iff_ne]; exact he1
    have g3 : decide (e1 = 0) = false := decide_eq_false he1
    clear he1
    go_wp2_with (rw [HW4.out])
    go_quiet (fail)
    have EN := Lib.hid (E4.out.drewN nq)
    have k2 := HK.out _ EN.out
    go_wp2_with fail
    refine (redeem_at T S x r f (HA.out _ EN.out) (HB.out _ EN.out) (by omega) (by omega) HSV.out HXV.out HR.out HF.out HTB.out).mono ?_
    rintro e w6 ⟨rfl, hext6⟩
    have E6 := Lib.hid (EN.out.trans hext6)
    clear k2 hext6
    have k2 := HK.out _ E6.out
    go_wp2_with fail
    refine (dsub_calls (HA.out _ E6.out) (HB.out _ E6.out) (by omega) (by omega)).mono ?_
    rintro e w7 ⟨o7, n7, c7, rfl, hown7, hext7, hno7⟩
    rw [HSV.out, HXV.out] at hown7
    rw [HSV.out, HXV.out, HE2.out]
    rw [HLS.out] at hown7
    obtain ⟨W7, hW7⟩ : ∃ W7, w7.alloc (.cells #[.slice o7 n7 c7] 26) = W7 := ⟨_, rfl⟩
    have E7 := Lib.hid (show Ext W W7 by rw [← hW7]; exact (E6.out.trans hext7).alloc _)
    have S7 := Lib.hid (show Sl W7 o7 n7 c7 ls by rw [← hW7]; exact hown7.sl.old ((Ext.refl _).alloc _))
    have R7 := Lib.hid (show W7.heap[w7.heap.size]? = some (.cells #[.slice o7 n7 c7] 26 (0, 0)) by rw [← hW7]; exact heap_alloc_new _ _)
    have HW7 := Lib.hid hW7
    clear hW7 hown7 hext7 k2
    rcases Nat.lt_trichotomy S x with h3 | h3 | h3
    · have hf : f = 102 := by rw [← HF.out]; unfold redE; rw [if_pos h3]
      have he2 : e2 = 20 := by rw [← HE2.out]; unfold dsubE; rw [if_pos h3]
      subst hf he2
      clear h3
      go_wp2_with (rw [HW7.out])
      go_ret
      exact ⟨rfl, HEW.out.trans E7.out⟩
    · have hf : f = 0 := by rw [← HF.out]; unfold redE; rw [if_neg (by omega)]
      have he2 : e2 = 0 := by rw [← HE2.out]; unfold dsubE; rw [if_neg (by omega)]
      have hrT : r = T := by rw [← HR.out]; unfold redV; rw [if_neg (by omega), if_pos h3.symm]
      have hls : val ls = 0 := by rw [← HLS.out]; unfold dsubL; rw [if_neg (by omega), val_lim]; omega
      subst hf he2 hrT
      have HDZ := Lib.hid (dzero_calls S7.out (by omega))
      rw [hls] at HDZ
      rw [decide_eq_true rfl] at HDZ
      have k4 := row_cell R7.out
      clear h3 hls
      go_wp2_with (rw [HW7.out])
      refine HDZ.out.mono ?_
      rintro e w8 ⟨rfl, hext8⟩
      go_wp2_with fail
      go_ret
      exact ⟨rfl, (HEW.out.trans E7.out).trans hext8⟩
    · have hf : f = 0 := by rw [← HF.out]; unfold redE; rw [if_neg (by omega)]
      have he2 : e2 = 0 := by rw [← HE2.out]; unfold dsubE; rw [if_neg (by omega)]
      obtain ⟨L, hL⟩ : ∃ L, S - x = L := ⟨_, rfl⟩
      have hls : val ls = L := by rw [← HLS.out]; unfold dsubL; rw [if_neg (by omega), val_lim, hL]
      have hlr := leave_rate (T := T) h3
      rw [HR.out, hL] at hlr
      subst hf he2
      have HLV := Lib.hid hls
      have hL0 : ¬ L = 0 := by omega
      have HDZ := Lib.hid (dzero_calls S7.out (by omega))
      rw [hls, decide_eq_false hL0] at HDZ
      have k4 := row_cell R7.out
      obtain ⟨TR, hTR⟩ : ∃ n, T - r = n := ⟨_, rfl⟩
      have hsub : IntKind.u64.wrap ((T : Int) - (r : Int)) = (TR : Int) := by
        have := HRT.out; have := HT18.out
        rw [show ((T : Int) - (r : Int)) = (TR : Int) by omega]; exact IntWalk.u64_in _ (by omega)
      have HTRB := Lib.hid (show TR < B64 by have := HT18.out; rw [B64_eq]; omega)
      rw [hTR] at hlr
      have HD2 := Lib.hid (show decide (T * L ≤ TR * S) = true from decide_eq_true hlr.2)
      have hTz : (T = 0) ∨ (0 < T ∧ r < T) := by
        rcases Nat.eq_zero_or_pos T with h | h
        · exact .inl h
        · exact .inr ⟨h, hlr.1 h⟩
      have HTR0 := Lib.hid (show T = 0 → TR = 0 by omega)
      clear hlr h3 hL hL0 hls hTR
      rcases hTz with hTz | ⟨hTz, hTz2⟩
      · subst hTz
        obtain rfl : r = 0 := by have := HRT.out; omega
        obtain rfl : TR = 0 := HTR0.out rfl
        clear hsub
        go_wp2_with (rw [HW7.out])
        refine HDZ.out.mono ?_
        rintro e w8 ⟨rfl, hext8⟩
        have E8 := Lib.hid (E7.out.trans hext8)
        have S8 := Lib.hid (S7.out.old hext8)
        have k5 := row_cell (row_ext hext8 R7.out)
        have k6 := HK.out _ E8.out
        clear k4 hext8
        go_wp2_with fail
        refine (rate_calls 0 0 (by decide) (by decide) (HA.out _ E8.out) S8.out (by omega) (by omega)).mono ?_
        rintro e w9 ⟨rfl, hext9⟩
        rw [HSV.out, HLV.out, HD2.out]
        go_wp2_with fail
        go_ret
        exact ⟨rfl, (HEW.out.trans E8.out).trans hext9⟩
      · have g7 : ((T : Int) == 0) = false := by rw [beq_eq_false_iff_ne]; omega
        have g8 : (r : Int) < (T : Int) := by omega
        clear hTz hTz2
        go_wp2_with (rw [HW7.out])
        refine HDZ.out.mono ?_
        rintro e w8 ⟨rfl, hext8⟩
        have E8 := Lib.hid (E7.out.trans hext8)
        have S8 := Lib.hid (S7.out.old hext8)
        have k5 := row_cell (row_ext hext8 R7.out)
        have k6 := HK.out _ E8.out
        clear k4 hext8
        go_wp2_with fail
        refine (rate_calls T TR HTB.out HTRB.out (HA.out _ E8.out) S8.out (by omega) (by omega)).mono ?_
        rintro e w9 ⟨rfl, hext9⟩
        rw [HSV.out, HLV.out, HD2.out]
        go_wp2_with fail
        go_ret
        exact ⟨rfl, (HEW.out.trans E8.out).trans hext9⟩
end Go.Proofs.YtpfhifjkecoahaaGreatDoor
