/- gleanlaw10.ShareLeave: the walk. -/
import Derived.Test.YtpfhifjkecoahaaDoorBack
namespace Go.Proofs.YtpfhifjkecoahaaDoor
open Go.RowKit Go.Lib

theorem dsl_three (w : World) (a b e : Option Addr) (m n l c d f : Nat) : DSl (w.alloc (.cells #[.slice a m c, .slice b n d, .slice e l f] 26)) (some ⟨w.heap.size, 0, none⟩) 3 3 [(a, m, c), (b, n, d), (e, l, f)] := by
  refine ⟨rfl, Nat.le_refl _, by decide, .inr ⟨_, _, rfl, fun i v hv => ?_⟩⟩
  have hc := heap_alloc_new w (.cells #[.slice a m c, .slice b n d, .slice e l f] 26)
  rw [cell_of_row _ _ _ _ _ _ hc]
  match i, hv with
  | 0, hv => simp only [List.getElem?_cons_zero, Option.some.injEq] at hv; subst hv; rfl
  | 1, hv => simp at hv; subst hv; rfl
  | 2, hv => simp at hv; subst hv; rfl
  | i + 3, hv => simp at hv

theorem cutv_at {w : World} (n p V : Nat) (hn : n < B64) (hp : p < B64) (hV : cutV n p = V) :
    Calls Tryd.prog 22 #[.int .u64 (n : Int), .int .u64 (p : Int)] w (RetE (.int .u64 (V : Int)) w) :=
  cut_at n p V hn hp (by unfold cutV at hV; exact hV)

set_option maxHeartbeats 16000000 in
set_option maxRecDepth 100000 in
theorem leave_law {a b g : Option Addr} {m k l c d f : Nat} {xs ys zs : List Nat} {w : World} (T0 n p q : Nat) (hT : T0 < B64) (hn : n < B64) (hp : p < B64) (hq : q < B64) (ha : Sl w a m c xs) (hb : Sl w b k d ys) (he : Sl w g l f zs) (htab : Tab w) :
    Calls Tryd.prog 6 #[.int .u64 (T0 : Int), DecV a m c, DecV b k d, DecV g l f, .int .u64 (n : Int), .int .u64 (p : Int), .int .u64 (q : Int)] w (RetE (.bool true) w) := by
  obtain ⟨W, hW⟩ : ∃ X, W3 w (.slice a m c) (.slice b k d) (.slice g l f) = X := ⟨_, rfl⟩
  have EW : Ext w W := by rw [← hW]; exact W3_ext _ _ _ _
  have HK := Lib.hid (fun w' (h : Ext W w') => W3_at w (.slice a m c) (.slice b k d) (.slice g l f) (by rw [hW]; exact h))
  have HA := Lib.hid (fun w' (h : Ext W w') => (ha.old (EW.trans h)))
  have HB := Lib.hid (fun w' (h : Ext W w') => (hb.old (EW.trans h)))
  have HC := Lib.hid (fun w' (h : Ext W w') => (he.old (EW.trans h)))
  have HEW := Lib.hid EW
  simp only [W3, W2] at hW
  have HW := Lib.hid hW
  have HTAB := Lib.hid (htab.old EW)
  have HN := Lib.hid hn; have HPB := Lib.hid hp; have HQB := Lib.hid hq
  obtain ⟨T, hTv⟩ : ∃ T, T0 % 1000000000000000000 = T := ⟨_, rfl⟩
  have hT18 : T < 1000000000000000000 := by rw [← hTv]; exact Nat.mod_lt _ (by decide)
  have m1 : (T0 : Int) % 1000000000000000000 = (T : Int) := by omega
  have HTB := Lib.hid (show T < B64 by rw [B64_eq]; omega)
  obtain ⟨S, hSv⟩ : ∃ S, val xs = S := ⟨_, rfl⟩
  obtain ⟨x, hxv⟩ : ∃ S, val ys = S := ⟨_, rfl⟩
  obtain ⟨y, hyv⟩ : ∃ S, val zs = S := ⟨_, rfl⟩
  have HSV := Lib.hid hSv; have HXV := Lib.hid hxv; have HYV := Lib.hid hyv
  have HT18 := Lib.hid hT18
  clear EW ha hb he hW htab hTv hSv hxv hyv hT18 hT hn hp hq
  go_enter Tryd.func6, Tryd.ntmps6
  go_wp2_with fail
  rw [HW.out]
  refine (known_calls _ HTAB.out).mono ?_
  rintro e w1 ⟨rfl, hext1⟩
  obtain ⟨k1, k2, k3⟩ := HK.out _ hext1
  have E1 := Lib.hid hext1
  clear hext1
  go_wp2_with fail
  rw [m1]
  clear m1
  have HSM := Lib.hid (smallL_calls (dsl_three w1 a b g m k l c d f))
  have E2 := Lib.hid (E1.out.alloc (.cells #[.slice a m c, .slice b k d, .slice g l f] 26))
  clear k1 k2 k3
  obtain ⟨k1, k2, k3⟩ := HK.out _ E2.out
  by_cases h12 : m ≤ 12 ∧ k ≤ 12 ∧ l ≤ 12
  rotate_left
  · have hsm : [(a, m, c), (b, k, d), (g, l, f)].all twelve = false := by
      rw [Bool.eq_false_iff]
      intro h
      simp [twelve] at h
      exact h12 ⟨h.1, h.2.1, h.2.2⟩
    rw [hsm] at HSM
    clear h12
    go_wp2_with fail
    refine HSM.out.mono ?_
    rintro e w2 ⟨rfl, rfl⟩
    go_wp2_with fail
    go_ret
    exact ⟨rfl, HEW.out.trans E2.out⟩
  obtain ⟨hm, hk, hl⟩ := h12
  have hsm : [(a, m, c), (b, k, d), (g, l, f)].all twelve = true := by simp [twelve, hm, hk, hl]
  rw [hsm] at HSM
  clear hsm
  obtain ⟨r, hr⟩ : ∃ r, redV T S x = r := ⟨_, rfl⟩
  obtain ⟨e1, he1⟩ : ∃ e1, redE S x = e1 := ⟨_, rfl⟩
  have HR := Lib.hid hr; have HE1 := Lib.hid he1
  have HRT := Lib.hid (show r ≤ T by rw [← hr]; exact redV_le T S x)
  clear hr he1
  obtain ⟨ls, hls⟩ : ∃ ls, dsubL S x = ls := ⟨_, rfl⟩
  obtain ⟨e2, he2⟩ : ∃ e2, dsubE S x = e2 := ⟨_, rfl⟩
  have HLS := Lib.hid hls; have HE2 := Lib.hid he2
  clear hls he2
  go_wp2_with fail
  refine HSM.out.mono ?_
  rintro e w2 ⟨rfl, rfl⟩
  go_wp2_with fail
  refine (redeem_at T S x r e1 (HA.out _ E2.out) (HB.out _ E2.out) (by omega) (by omega) HSV.out HXV.out HR.out HE1.out HTB.out).mono ?_
  rintro e w3 ⟨rfl, hext3⟩
  have E3 := Lib.hid (E2.out.trans hext3)
  clear k1 k2 k3 hext3
  obtain ⟨k1, k2, k3⟩ := HK.out _ E3.out
  go_wp2_with fail
  refine (dsub_calls (HA.out _ E3.out) (HB.out _ E3.out) (by omega) (by omega)).mono ?_
  rintro e w4 ⟨o4, n4, c4, rfl, hown4, hext4, hno4⟩
  rw [HSV.out, HXV.out] at hown4
  rw [HLS.out] at hown4
  rw [HSV.out, HXV.out, HE2.out]
  obtain ⟨W4, hW4⟩ : ∃ W4, w4.alloc (.cells #[.slice o4 n4 c4] 26) = W4 := ⟨_, rfl⟩
  have E4 := Lib.hid (show Ext W W4 by rw [← hW4]; exact (E3.out.trans hext4).alloc _)
  have S4 := Lib.hid (show Sl W4 o4 n4 c4 ls by rw [← hW4]; exact hown4.sl.old ((Ext.refl _).alloc _))
  have R4 := Lib.hid (show W4.heap[w4.heap.size]? = some (.cells #[.slice o4 n4 c4] 26 (0, 0)) by rw [← hW4]; exact heap_alloc_new _ _)
  have HW4 := Lib.hid hW4
  clear hW4 hown4 hext4 k1 k2 k3
  rcases Nat.lt_trichotomy S x with h3 | h3 | h3
  · -- more than there is
    have he1 : e1 = 102 := by rw [← HE1.out]; unfold redE; rw [if_pos h3]
    subst he1
    clear h3
    have EN := E4
    by_cases hpq : q < p
    · have g9 : (q : Int) < (p : Int) := by omega
      obtain ⟨cp, hcp⟩ : ∃ v, cutV n q = v := ⟨_, rfl⟩
      obtain ⟨cq, hcq⟩ : ∃ v, cutV n p = v := ⟨_, rfl⟩
      have h1 : (cp : Int) ≤ (cq : Int) := by have := cutV_mono n (Nat.le_of_lt hpq); omega
      have h2 : (cq : Int) ≤ (n : Int) := by have := cutV_le n p; omega
      have HCP := Lib.hid hcp; have HCQ := Lib.hid hcq
      clear hpq hcp hcq
      go_wp2_with (rw [HW4.out])
      refine (cutv_at n q cp HN.out HQB.out HCP.out).mono ?_
      rintro e wc1 ⟨rfl, hx1⟩
      go_wp2_with fail
      refine (cutv_at n p cq HN.out HPB.out HCQ.out).mono ?_
      rintro e wc2 ⟨rfl, hx2⟩
      go_wp2_with fail
      refine (cutv_at n p cq HN.out HPB.out HCQ.out).mono ?_
      rintro e wc3 ⟨rfl, hx3⟩
      go_wp2_with fail
      refine (cutv_at n 10000 n HN.out (by decide) (cutV_all n)).mono ?_
      rintro e wc4 ⟨rfl, hx4⟩
      go_wp2_with fail
      refine (cutv_at n 0 0 HN.out (by decide) (cutV_zero n)).mono ?_
      rintro e wc5 ⟨rfl, hx5⟩
      go_wp2_with fail
      go_ret
      exact ⟨rfl, (((((HEW.out.trans EN.out).trans hx1).trans hx2).trans hx3).trans hx4).trans hx5⟩
    · have g9 : ¬ (q : Int) < (p : Int) := by omega
      obtain ⟨cp, hcp⟩ : ∃ v, cutV n p = v := ⟨_, rfl⟩
      obtain ⟨cq, hcq⟩ : ∃ v, cutV n q = v := ⟨_, rfl⟩
      have h1 : (cp : Int) ≤ (cq : Int) := by have := cutV_mono n (Nat.le_of_not_lt hpq); omega
      have h2 : (cq : Int) ≤ (n : Int) := by have := cutV_le n q; omega
      have HCP := Lib.hid hcp; have HCQ := Lib.hid hcq
      clear hpq hcp hcq
      go_wp2_with (rw [HW4.out])
      refine (cutv_at n p cp HN.out HPB.out HCP.out).mono ?_
      rintro e wc1 ⟨rfl, hx1⟩
      go_wp2_with fail
      refine (cutv_at n q cq HN.out HQB.out HCQ.out).mono ?_
      rintro e wc2 ⟨rfl, hx2⟩
      go_wp2_with fail
      refine (cutv_at n q cq HN.out HQB.out HCQ.out).mono ?_
      rintro e wc3 ⟨rfl, hx3⟩
      go_wp2_with fail
      refine (cutv_at n 10000 n HN.out (by decide) (cutV_all n)).mono ?_
      rintro e wc4 ⟨rfl, hx4⟩
      go_wp2_with fail
      refine (cutv_at n 0 0 HN.out (by decide) (cutV_zero n)).mono ?_
      rintro e wc5 ⟨rfl, hx5⟩
      go_wp2_with fail
      go_ret
      exact ⟨rfl, (((((HEW.out.trans EN.out).trans hx1).trans hx2).trans hx3).trans hx4).trans hx5⟩
  · -- all of it
    have he1 : e1 = 0 := by rw [← HE1.out]; unfold redE; rw [if_neg (by omega)]
    have he2 : e2 = 0 := by rw [← HE2.out]; unfold dsubE; rw [if_neg (by omega)]
    have hls : val ls = 0 := by rw [← HLS.out]; unfold dsubL; rw [if_neg (by omega), val_lim]; omega
    subst he1 he2
    have HDZ := Lib.hid (dzero_calls S4.out (by omega))
    rw [hls] at HDZ
    rw [decide_eq_true rfl] at HDZ
    have k4 := row_cell R4.out
    clear h3 hls
    go_wp2_with (rw [HW4.out])
    refine HDZ.out.mono ?_
    rintro e w5 ⟨rfl, hext5⟩
    have EN := Lib.hid (E4.out.trans hext5)
    clear k4 hext5
    by_cases hpq : q < p
    · have g9 : (q : Int) < (p : Int) := by omega
      obtain ⟨cp, hcp⟩ : ∃ v, cutV n q = v := ⟨_, rfl⟩
      obtain ⟨cq, hcq⟩ : ∃ v, cutV n p = v := ⟨_, rfl⟩
      have h1 : (cp : Int) ≤ (cq : Int) := by have := cutV_mono n (Nat.le_of_lt hpq); omega
      have h2 : (cq : Int) ≤ (n : Int) := by have := cutV_le n p; omega
      have HCP := Lib.hid hcp; have HCQ := Lib.hid hcq
      clear hpq hcp hcq
      go_wp2_with fail
      refine (cutv_at n q cp HN.out HQB.out HCP.out).mono ?_
      rintro e wc1 ⟨rfl, hx1⟩
      go_wp2_with fail
      refine (cutv_at n p cq HN.out HPB.out HCQ.out).mono ?_
      rintro e wc2 ⟨rfl, hx2⟩
      go_wp2_with fail
      refine (cutv_at n p cq HN.out HPB.out HCQ.out).mono ?_
      rintro e wc3 ⟨rfl, hx3⟩
      go_wp2_with fail
      refine (cutv_at n 10000 n HN.out (by decide) (cutV_all n)).mono ?_
      rintro e wc4 ⟨rfl, hx4⟩
      go_wp2_with fail
      refine (cutv_at n 0 0 HN.out (by decide) (cutV_zero n)).mono ?_
      rintro e wc5 ⟨rfl, hx5⟩
      go_wp2_with fail
      go_ret
      exact ⟨rfl, (((((HEW.out.trans EN.out).trans hx1).trans hx2).trans hx3).trans hx4).trans hx5⟩
    · have g9 : ¬ (q : Int) < (p : Int) := by omega
      obtain ⟨cp, hcp⟩ : ∃ v, cutV n p = v := ⟨_, rfl⟩
      obtain ⟨cq, hcq⟩ : ∃ v, cutV n q = v := ⟨_, rfl⟩
      have h1 : (cp : Int) ≤ (cq : Int) := by have := cutV_mono n (Nat.le_of_not_lt hpq); omega
      have h2 : (cq : Int) ≤ (n : Int) := by have := cutV_le n q; omega
      have HCP := Lib.hid hcp; have HCQ := Lib.hid hcq
      clear hpq hcp hcq
      go_wp2_with fail
      refine (cutv_at n p cp HN.out HPB.out HCP.out).mono ?_
      rintro e wc1 ⟨rfl, hx1⟩
      go_wp2_with fail
      refine (cutv_at n q cq HN.out HQB.out HCQ.out).mono ?_
      rintro e wc2 ⟨rfl, hx2⟩
      go_wp2_with fail
      refine (cutv_at n q cq HN.out HQB.out HCQ.out).mono ?_
      rintro e wc3 ⟨rfl, hx3⟩
      go_wp2_with fail
      refine (cutv_at n 10000 n HN.out (by decide) (cutV_all n)).mono ?_
      rintro e wc4 ⟨rfl, hx4⟩
      go_wp2_with fail
      refine (cutv_at n 0 0 HN.out (by decide) (cutV_zero n)).mono ?_
      rintro e wc5 ⟨rfl, hx5⟩
      go_wp2_with fail
      go_ret
      exact ⟨rfl, (((((HEW.out.trans EN.out).trans hx1).trans hx2).trans hx3).trans hx4).trans hx5⟩
  · have he1 : e1 = 0 := by rw [← HE1.out]; unfold redE; rw [if_neg (by omega)]
    have he2 : e2 = 0 := by rw [← HE2.out]; unfold dsubE; rw [if_neg (by omega)]
    obtain ⟨L, hL⟩ : ∃ L, S - x = L := ⟨_, rfl⟩
    have hls : val ls = L := by rw [← HLS.out]; unfold dsubL; rw [if_neg (by omega), val_lim, hL]
    subst he1 he2
    have HLV := Lib.hid hls
    have hL0 : ¬ L = 0 := by omega
    have HDZ := Lib.hid (dzero_calls S4.out (by omega))
    rw [hls, decide_eq_false hL0] at HDZ
    have k4 := row_cell R4.out
    obtain ⟨TR, hTR⟩ : ∃ n, T - r = n := ⟨_, rfl⟩
    have hsub : IntKind.u64.wrap ((T : Int) - (r : Int)) = (TR : Int) := by
      have := HRT.out; have := HT18.out
      rw [show ((T : Int) - (r : Int)) = (TR : Int) by omega]; exact IntWalk.u64_in _ (by omega)
    have HTRB := Lib.hid (show TR < B64 by have := HT18.out; rw [B64_eq]; omega)
    obtain ⟨s, hs⟩ : ∃ s, redV TR L y = s := ⟨_, rfl⟩
    obtain ⟨e3, he3⟩ : ∃ e3, redE L y = e3 := ⟨_, rfl⟩
    obtain ⟨v, hv⟩ : ∃ v, redV T S (x + y) = v := ⟨_, rfl⟩
    obtain ⟨e4, he4⟩ : ∃ e4, redE S (x + y) = e4 := ⟨_, rfl⟩
    have hsT : s ≤ TR := by rw [← hs]; exact redV_le _ _ _
    have HLT := Lib.hid (fun hy : y ≤ L => leave_two (T := T) h3 (by rw [hL]; exact hy))
    rw [HR.out, hL, hTR, hs, hv] at HLT
    have HS := Lib.hid hs; have HE3 := Lib.hid he3; have HV := Lib.hid hv; have HE4 := Lib.hid he4
    have HL := Lib.hid hL
    have hadd : IntKind.u64.wrap ((r : Int) + (s : Int)) = ((r + s : Nat) : Int) := by
      have := HRT.out; have := HT18.out
      rw [show ((r : Int) + (s : Int)) = ((r + s : Nat) : Int) by omega]; exact IntWalk.u64_in _ (by omega)
    obtain ⟨rs, hrs⟩ : ∃ n, r + s = n := ⟨_, rfl⟩
    rw [hrs] at hadd HLT
    have h3' := Lib.hid h3
    clear h3 hL hL0 hls hTR hs he3 hv he4 hsT hrs
    go_wp2_with (rw [HW4.out])
    refine HDZ.out.mono ?_
    rintro e w5 ⟨rfl, hext5⟩
    have E5 := Lib.hid (E4.out.trans hext5)
    have S5 := Lib.hid (S4.out.old hext5)
    have R5 := Lib.hid (row_ext hext5 R4.out)
    clear k4 hext5
    obtain ⟨k1, k2, k3⟩ := HK.out _ E5.out
    have k4 := row_cell R5.out
    go_wp2_with fail
    refine (redeem_at TR L y s e3 S5.out (HC.out _ E5.out) (by omega) (by omega) HLV.out HYV.out HS.out HE3.out HTRB.out).mono ?_
    rintro e w6 ⟨rfl, hext6⟩
    have E6 := Lib.hid (E5.out.trans hext6)
    have S6 := Lib.hid (S5.out.old hext6)
    have R6 := Lib.hid (row_ext hext6 R5.out)
    clear k1 k2 k3 k4 hext6
    go_wp2_with fail
    go_region_held3 (fun w' => w'.cell? ⟨w.heap.size, 0, none⟩ = some (.slice a m c) ∧ w'.cell? ⟨w.heap.size + 1, 0, none⟩ = some (.slice b k d) ∧ w'.cell? ⟨w.heap.size + 1 + 1, 0, none⟩ = some (.slice g l f))
      (first | exact HK.out _ E6.out | exact HK.out _ E6.out.drew | exact HK.out _ (by assumption))
      (first | (go_at_call 14; refine (dadd_calls (HB.out _ E6.out.drew) (HC.out _ E6.out.drew) (by omega) (by omega)).mono ?_; rintro e wA ⟨oA, nA, cA, rfl, hownA, hextA, hnoA⟩; have EA : Ext W wA := E6.out.drew.trans hextA; have XA := ((Ext.refl w6).drew).trans hextA; rw [HXV.out, HYV.out] at hownA) | (go_at_call 11; refine (redeem_at T S (x + y) v e4 (HA.out _ EA) hownA.sl (by omega) (by omega) HSV.out (val_lim _) HV.out HE4.out HTB.out).mono ?_; rintro e w7 ⟨rfl, hext7⟩; have E7 := EA.trans hext7))
    have E7' := Lib.hid E7
    have S7 := Lib.hid (S6.out.old (XA.trans hext7))
    have R7 := Lib.hid (row_ext (XA.trans hext7) R6.out)
    clear E7 EA XA hownA hextA hext7 hnoA
    rcases Nat.lt_trichotomy L y with h4 | h4 | h4
    · have he3 : e3 = 102 := by rw [← HE3.out]; unfold redE; rw [if_pos h4]
      subst he3
      clear h4
      have EN := E7'
      by_cases hpq : q < p
      · have g9 : (q : Int) < (p : Int) := by omega
        obtain ⟨cp, hcp⟩ : ∃ v, cutV n q = v := ⟨_, rfl⟩
        obtain ⟨cq, hcq⟩ : ∃ v, cutV n p = v := ⟨_, rfl⟩
        have h1 : (cp : Int) ≤ (cq : Int) := by have := cutV_mono n (Nat.le_of_lt hpq); omega
        have h2 : (cq : Int) ≤ (n : Int) := by have := cutV_le n p; omega
        have HCP := Lib.hid hcp; have HCQ := Lib.hid hcq
        clear hpq hcp hcq
        go_wp2_with fail
        refine (cutv_at n q cp HN.out HQB.out HCP.out).mono ?_
        rintro e wc1 ⟨rfl, hx1⟩
        go_wp2_with fail
        refine (cutv_at n p cq HN.out HPB.out HCQ.out).mono ?_
        rintro e wc2 ⟨rfl, hx2⟩
        go_wp2_with fail
        refine (cutv_at n p cq HN.out HPB.out HCQ.out).mono ?_
        rintro e wc3 ⟨rfl, hx3⟩
        go_wp2_with fail
        refine (cutv_at n 10000 n HN.out (by decide) (cutV_all n)).mono ?_
        rintro e wc4 ⟨rfl, hx4⟩
        go_wp2_with fail
        refine (cutv_at n 0 0 HN.out (by decide) (cutV_zero n)).mono ?_
        rintro e wc5 ⟨rfl, hx5⟩
        go_wp2_with fail
        go_ret
        exact ⟨rfl, (((((HEW.out.trans EN.out).trans hx1).trans hx2).trans hx3).trans hx4).trans hx5⟩
      · have g9 : ¬ (q : Int) < (p : Int) := by omega
        obtain ⟨cp, hcp⟩ : ∃ v, cutV n p = v := ⟨_, rfl⟩
        obtain ⟨cq, hcq⟩ : ∃ v, cutV n q = v := ⟨_, rfl⟩
        have h1 : (cp : Int) ≤ (cq : Int) := by have := cutV_mono n (Nat.le_of_not_lt hpq); omega
        have h2 : (cq : Int) ≤ (n : Int) := by have := cutV_le n q; omega
        have HCP := Lib.hid hcp; have HCQ := Lib.hid hcq
        clear hpq hcp hcq
        go_wp2_with fail
        refine (cutv_at n p cp HN.out HPB.out HCP.out).mono ?_
        rintro e wc1 ⟨rfl, hx1⟩
        go_wp2_with fail
        refine (cutv_at n q cq HN.out HQB.out HCQ.out).mono ?_
        rintro e wc2 ⟨rfl, hx2⟩
        go_wp2_with fail
        refine (cutv_at n q cq HN.out HQB.out HCQ.out).mono ?_
        rintro e wc3 ⟨rfl, hx3⟩
        go_wp2_with fail
        refine (cutv_at n 10000 n HN.out (by decide) (cutV_all n)).mono ?_
        rintro e wc4 ⟨rfl, hx4⟩
        go_wp2_with fail
        refine (cutv_at n 0 0 HN.out (by decide) (cutV_zero n)).mono ?_
        rintro e wc5 ⟨rfl, hx5⟩
        go_wp2_with fail
        go_ret
        exact ⟨rfl, (((((HEW.out.trans EN.out).trans hx1).trans hx2).trans hx3).trans hx4).trans hx5⟩
    · have he3 : e3 = 0 := by rw [← HE3.out]; unfold redE; rw [if_neg (by omega)]
      have he4 : e4 = 0 := by have := h3'.out; have := HL.out; rw [← HE4.out]; unfold redE; rw [if_neg (by omega)]
      have hlt := HLT.out (by omega)
      have heq := hlt.2 (by omega)
      subst he3 he4 heq
      have HCM := Lib.hid (dcmp_calls (HC.out _ E7'.out) S7.out (by omega) (by omega))
      rw [HYV.out, HLV.out, cmpN_eq h4.symm] at HCM
      clear h4 hlt
      obtain ⟨k1, k2, k3⟩ := HK.out _ E7'.out
      have k4 := row_cell R7.out
      go_wp2_with fail
      refine HCM.out.mono ?_
      rintro e w8 ⟨rfl, hext8⟩
      have EN := Lib.hid (E7'.out.trans hext8)
      clear k1 k2 k3 k4 hext8
      by_cases hpq : q < p
      · have g9 : (q : Int) < (p : Int) := by omega
        obtain ⟨cp, hcp⟩ : ∃ v, cutV n q = v := ⟨_, rfl⟩
        obtain ⟨cq, hcq⟩ : ∃ v, cutV n p = v := ⟨_, rfl⟩
        have h1 : (cp : Int) ≤ (cq : Int) := by have := cutV_mono n (Nat.le_of_lt hpq); omega
        have h2 : (cq : Int) ≤ (n : Int) := by have := cutV_le n p; omega
        have HCP := Lib.hid hcp; have HCQ := Lib.hid hcq
        clear hpq hcp hcq
        go_wp2_with fail
        refine (cutv_at n q cp HN.out HQB.out HCP.out).mono ?_
        rintro e wc1 ⟨rfl, hx1⟩
        go_wp2_with fail
        refine (cutv_at n p cq HN.out HPB.out HCQ.out).mono ?_
        rintro e wc2 ⟨rfl, hx2⟩
        go_wp2_with fail
        refine (cutv_at n p cq HN.out HPB.out HCQ.out).mono ?_
        rintro e wc3 ⟨rfl, hx3⟩
        go_wp2_with fail
        refine (cutv_at n 10000 n HN.out (by decide) (cutV_all n)).mono ?_
        rintro e wc4 ⟨rfl, hx4⟩
        go_wp2_with fail
        refine (cutv_at n 0 0 HN.out (by decide) (cutV_zero n)).mono ?_
        rintro e wc5 ⟨rfl, hx5⟩
        go_wp2_with fail
        go_ret
        exact ⟨rfl, (((((HEW.out.trans EN.out).trans hx1).trans hx2).trans hx3).trans hx4).trans hx5⟩
      · have g9 : ¬ (q : Int) < (p : Int) := by omega
        obtain ⟨cp, hcp⟩ : ∃ v, cutV n p = v := ⟨_, rfl⟩
        obtain ⟨cq, hcq⟩ : ∃ v, cutV n q = v := ⟨_, rfl⟩
        have h1 : (cp : Int) ≤ (cq : Int) := by have := cutV_mono n (Nat.le_of_not_lt hpq); omega
        have h2 : (cq : Int) ≤ (n : Int) := by have := cutV_le n q; omega
        have HCP := Lib.hid hcp; have HCQ := Lib.hid hcq
        clear hpq hcp hcq
        go_wp2_with fail
        refine (cutv_at n p cp HN.out HPB.out HCP.out).mono ?_
        rintro e wc1 ⟨rfl, hx1⟩
        go_wp2_with fail
        refine (cutv_at n q cq HN.out HQB.out HCQ.out).mono ?_
        rintro e wc2 ⟨rfl, hx2⟩
        go_wp2_with fail
        refine (cutv_at n q cq HN.out HQB.out HCQ.out).mono ?_
        rintro e wc3 ⟨rfl, hx3⟩
        go_wp2_with fail
        refine (cutv_at n 10000 n HN.out (by decide) (cutV_all n)).mono ?_
        rintro e wc4 ⟨rfl, hx4⟩
        go_wp2_with fail
        refine (cutv_at n 0 0 HN.out (by decide) (cutV_zero n)).mono ?_
        rintro e wc5 ⟨rfl, hx5⟩
        go_wp2_with fail
        go_ret
        exact ⟨rfl, (((((HEW.out.trans EN.out).trans hx1).trans hx2).trans hx3).trans hx4).trans hx5⟩
    · have he3 : e3 = 0 := by rw [← HE3.out]; unfold redE; rw [if_neg (by omega)]
      have he4 : e4 = 0 := by have := h3'.out; have := HL.out; rw [← HE4.out]; unfold redE; rw [if_neg (by omega)]
      have hlt := (HLT.out (by omega)).1
      have g5 : ¬ (v : Int) < (rs : Int) := by omega
      subst he3 he4
      have HCM := Lib.hid (dcmp_calls (HC.out _ E7'.out) S7.out (by omega) (by omega))
      rw [HYV.out, HLV.out, cmpN_lt h4] at HCM
      clear h4 hlt
      obtain ⟨k1, k2, k3⟩ := HK.out _ E7'.out
      have k4 := row_cell R7.out
      go_wp2_with fail
      refine HCM.out.mono ?_
      rintro e w8 ⟨rfl, hext8⟩
      have EN := Lib.hid (E7'.out.trans hext8)
      clear k1 k2 k3 k4 hext8
      by_cases hpq : q < p
      · have g9 : (q : Int) < (p : Int) := by omega
        obtain ⟨cp, hcp⟩ : ∃ v, cutV n q = v := ⟨_, rfl⟩
        obtain ⟨cq, hcq⟩ : ∃ v, cutV n p = v := ⟨_, rfl⟩
        have h1 : (cp : Int) ≤ (cq : Int) := by have := cutV_mono n (Nat.le_of_lt hpq); omega
        have h2 : (cq : Int) ≤ (n : Int) := by have := cutV_le n p; omega
        have HCP := Lib.hid hcp; have HCQ := Lib.hid hcq
        clear hpq hcp hcq
        go_wp2_with fail
        refine (cutv_at n q cp HN.out HQB.out HCP.out).mono ?_
        rintro e wc1 ⟨rfl, hx1⟩
        go_wp2_with fail
        refine (cutv_at n p cq HN.out HPB.out HCQ.out).mono ?_
        rintro e wc2 ⟨rfl, hx2⟩
        go_wp2_with fail
        refine (cutv_at n p cq HN.out HPB.out HCQ.out).mono ?_
        rintro e wc3 ⟨rfl, hx3⟩
        go_wp2_with fail
        refine (cutv_at n 10000 n HN.out (by decide) (cutV_all n)).mono ?_
        rintro e wc4 ⟨rfl, hx4⟩
        go_wp2_with fail
        refine (cutv_at n 0 0 HN.out (by decide) (cutV_zero n)).mono ?_
        rintro e wc5 ⟨rfl, hx5⟩
        go_wp2_with fail
        go_ret
        exact ⟨rfl, (((((HEW.out.trans EN.out).trans hx1).trans hx2).trans hx3).trans hx4).trans hx5⟩
      · have g9 : ¬ (q : Int) < (p : Int) := by omega
        obtain ⟨cp, hcp⟩ : ∃ v, cutV n p = v := ⟨_, rfl⟩
        obtain ⟨cq, hcq⟩ : ∃ v, cutV n q = v := ⟨_, rfl⟩
        have h1 : (cp : Int) ≤ (cq : Int) := by have := cutV_mono n (Nat.le_of_not_lt hpq); omega
        have h2 : (cq : Int) ≤ (n : Int) := by have := cutV_le n q; omega
        have HCP := Lib.hid hcp; have HCQ := Lib.hid hcq
        clear hpq hcp hcq
        go_wp2_with fail
        refine (cutv_at n p cp HN.out HPB.out HCP.out).mono ?_
        rintro e wc1 ⟨rfl, hx1⟩
        go_wp2_with fail
        refine (cutv_at n q cq HN.out HQB.out HCQ.out).mono ?_
        rintro e wc2 ⟨rfl, hx2⟩
        go_wp2_with fail
        refine (cutv_at n q cq HN.out HQB.out HCQ.out).mono ?_
        rintro e wc3 ⟨rfl, hx3⟩
        go_wp2_with fail
        refine (cutv_at n 10000 n HN.out (by decide) (cutV_all n)).mono ?_
        rintro e wc4 ⟨rfl, hx4⟩
        go_wp2_with fail
        refine (cutv_at n 0 0 HN.out (by decide) (cutV_zero n)).mono ?_
        rintro e wc5 ⟨rfl, hx5⟩
        go_wp2_with fail
        go_ret
        exact ⟨rfl, (((((HEW.out.trans EN.out).trans hx1).trans hx2).trans hx3).trans hx4).trans hx5⟩
end Go.Proofs.YtpfhifjkecoahaaDoor
