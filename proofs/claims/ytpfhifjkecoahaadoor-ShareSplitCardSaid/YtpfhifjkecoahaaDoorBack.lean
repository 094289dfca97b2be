/- gleanlaw10.ShareBack: the walk. -/
import Derived.Test.YtpfhifjkecoahaaDoorKnown
namespace Go.Proofs.YtpfhifjkecoahaaDoor
open Go.RowKit Go.Lib

theorem dsl_one (w : World) (a : Option Addr) (m c : Nat) : DSl (w.alloc (.cells #[.slice a m c] 26)) (some ⟨w.heap.size, 0, none⟩) 1 1 [(a, m, c)] := by
  refine ⟨rfl, Nat.le_refl _, by decide, .inr ⟨_, _, rfl, fun i v hv => ?_⟩⟩
  have hi : i = 0 := by
    rcases i with _ | i
    · rfl
    · simp at hv
  subst hi
  simp only [List.getElem?_cons_zero, Option.some.injEq] at hv
  subst hv
  exact box_cell (Ext.refl _)

set_option maxHeartbeats 8000000 in
set_option maxRecDepth 100000 in
theorem back_law {a : Option Addr} {m c : Nat} {xs : List Nat} {w : World} (T0 t0 : Nat) (hT : T0 < B64) (ht0 : t0 < B64) (ha : Sl w a m c xs) (htab : Tab w) :
    Calls Tryd.prog 3 #[.int .u64 (T0 : Int), DecV a m c, .int .u64 (t0 : Int)] w (RetE (.bool true) w) := by
  obtain ⟨W, hW⟩ : ∃ X, w.alloc (.cells #[.slice a m c] 26) = X := ⟨_, rfl⟩
  have EW : Ext w W := by rw [← hW]; exact (Ext.refl _).alloc _
  have HK := Lib.hid (fun w' (h : Ext W w') => (box_cell (by rw [hW]; exact h) : w'.cell? ⟨w.heap.size, 0, none⟩ = some (.slice a m c)))
  have HA := Lib.hid (fun w' (h : Ext W w') => (ha.old (EW.trans h)))
  have HEW := Lib.hid EW
  have HW := Lib.hid hW
  have HTAB := Lib.hid (htab.old EW)
  obtain ⟨T, hTv⟩ : ∃ T, T0 % 1000000000000000000 = T := ⟨_, rfl⟩
  obtain ⟨t, htv⟩ : ∃ t, t0 % 1000000000000000000 = t := ⟨_, rfl⟩
  have hT18 : T < 1000000000000000000 := by rw [← hTv]; exact Nat.mod_lt _ (by decide)
  have ht18 : t < 1000000000000000000 := by rw [← htv]; exact Nat.mod_lt _ (by decide)
  have m1 : (T0 : Int) % 1000000000000000000 = (T : Int) := by omega
  have m2 : (t0 : Int) % 1000000000000000000 = (t : Int) := by omega
  have HTB := Lib.hid (show T < B64 by rw [B64_eq]; omega)
  have htB := Lib.hid (show t < B64 by rw [B64_eq]; omega)
  obtain ⟨S, hSv⟩ : ∃ S, val xs = S := ⟨_, rfl⟩
  have HSV := Lib.hid hSv
  have HT18 := Lib.hid hT18; have Ht18 := Lib.hid ht18
  clear EW ha hW htab hTv htv hSv hT18 ht18 hT ht0
  go_enter Tryd.func3, Tryd.ntmps3
  go_wp2_with fail
  rw [HW.out]
  refine (known_calls _ HTAB.out).mono ?_
  rintro e w1 ⟨rfl, hext1⟩
  have k1 := HK.out _ hext1
  have E1 := Lib.hid hext1
  clear hext1
  go_wp2_with fail
  rw [m1, m2]
  clear m1 m2
  have HSM := Lib.hid (smallL_calls (dsl_one w1 a m c))
  have E2 := Lib.hid (E1.out.alloc (.cells #[.slice a m c] 26))
  have k2 := HK.out _ E2.out
  clear k1
  by_cases h12 : m ≤ 12
  rotate_left
  · rw [show [(a, m, c)].all twelve = false by simp [twelve, h12]] at HSM
    go_wp2_with fail
    refine HSM.out.mono ?_
    rintro e w2 ⟨rfl, rfl⟩
    go_wp2_with fail
    go_ret
    exact ⟨rfl, HEW.out.trans E2.out⟩
  rw [show [(a, m, c)].all twelve = true by simp [twelve, h12]] at HSM
  obtain ⟨e1, he1⟩ : ∃ e1, needE T t = e1 := ⟨_, rfl⟩
  obtain ⟨x, hx⟩ : ∃ x, needV T S t = x := ⟨_, rfl⟩
  have HE1 := Lib.hid he1; have HX := Lib.hid hx
  clear he1 hx
  go_wp2_with fail
  refine HSM.out.mono ?_
  rintro e w2 ⟨rfl, rfl⟩
  go_wp2_with fail
  refine (need_at T t S x e1 (HA.out _ E2.out) (by omega) HSV.out HX.out HE1.out HTB.out htB.out).mono ?_
  rintro e w3 ⟨ox, nx, cx, rfl, hownx, hext3, hnox⟩
  obtain ⟨W4, hW4⟩ : ∃ W4, w3.alloc (.cells #[.slice ox nx cx] 26) = W4 := ⟨_, rfl⟩
  have E4 := Lib.hid (show Ext W W4 by rw [← hW4]; exact (E2.out.trans hext3).alloc _)
  have S4 := Lib.hid (show Sl W4 ox nx cx (lim x) by rw [← hW4]; exact hownx.sl.old ((Ext.refl _).alloc _))
  have R4 := Lib.hid (show W4.heap[w3.heap.size]? = some (.cells #[.slice ox nx cx] 26 (0, 0)) by rw [← hW4]; exact heap_alloc_new _ _)
  have HW4 := Lib.hid hW4
  have k4 := HK.out _ E4.out
  have k5 := row_cell R4.out
  clear hW4 k2 hownx hext3
  obtain ⟨er, her⟩ : ∃ er, issE T S t = er := ⟨_, rfl⟩
  obtain ⟨z, hz⟩ : ∃ z, issV T S t = z := ⟨_, rfl⟩
  have HER := Lib.hid her; have HZ := Lib.hid hz
  clear her hz
  have h3 : (e1 ≠ 0) ∨ (e1 = 0 ∧ S < x) ∨ (e1 = 0 ∧ x ≤ S) := by omega
  rcases h3 with h3 | ⟨rfl, h3⟩ | ⟨rfl, h3⟩
  · have g1 : (e1 == 0) = false := by rw [beq_eq_false_iff_ne]; exact h3
    go_wp2_with (rw [HW4.out])
    have EN := Lib.hid E4.out
    refine (issue_at T t S z er (HA.out _ EN.out) (by omega) HSV.out HZ.out HER.out HTB.out htB.out).mono ?_
    rintro e w7 ⟨oz, nz, cz, rfl, hownz, hext7, hnoz⟩
    obtain ⟨W8, hW8⟩ : ∃ W8, w7.alloc (.cells #[.slice oz nz cz] 26) = W8 := ⟨_, rfl⟩
    have E8 := Lib.hid (show Ext W W8 by rw [← hW8]; exact (EN.out.trans hext7).alloc _)
    have S8 := Lib.hid (show Sl W8 oz nz cz (lim z) by rw [← hW8]; exact hownz.sl.old ((Ext.refl _).alloc _))
    have R8 := Lib.hid (show W8.heap[w7.heap.size]? = some (.cells #[.slice oz nz cz] 26 (0, 0)) by rw [← hW8]; exact heap_alloc_new _ _)
    have HW8 := Lib.hid hW8
    have k9 := HK.out _ E8.out
    clear hW8 hownz hext7
    by_cases her : er = 0
    rotate_left
    · have g9 : (er == 0) = false := by rw [beq_eq_false_iff_ne]; exact her
      go_wp2_with (rw [HW8.out])
      go_ret
      exact ⟨rfl, HEW.out.trans E8.out⟩
    subst her
    have HDZ := Lib.hid (dzero_calls (HA.out _ E8.out) (by omega))
    rw [HSV.out] at HDZ
    by_cases hS0 : S = 0 ∧ 0 < T
    · rw [decide_eq_true hS0.1] at HDZ
      have g9 : 0 < (T : Int) := by omega
      clear hS0
      go_wp2_with (rw [HW8.out])
      refine HDZ.out.mono ?_
      rintro e w9 ⟨rfl, hext9⟩
      go_wp2_with fail
      go_ret
      exact ⟨rfl, (HEW.out.trans E8.out).trans hext9⟩
    have hbk2 := back_issue HER.out (fun h => by
      rcases Nat.eq_zero_or_pos T with h0 | h0
      · exact h0
      · exact absurd ⟨h, h0⟩ hS0)
    rw [HZ.out] at hbk2
    obtain ⟨r2, hr2⟩ : ∃ r2, redV (T + t) (S + z) z = r2 := ⟨_, rfl⟩
    rw [hr2] at hbk2
    have HR2 := Lib.hid hr2
    have HRE2 := Lib.hid hbk2.1
    have hrt2 : (r2 : Int) ≤ (t : Int) := by have := hbk2.2; omega
    have hsum : IntKind.u64.wrap ((T : Int) + (t : Int)) = ((T + t : Nat) : Int) := by
      have := HT18.out; have := Ht18.out
      rw [show ((T : Int) + (t : Int)) = ((T + t : Nat) : Int) by omega]
      exact IntWalk.u64_in _ (by omega)
    have HTT := Lib.hid (show T + t < B64 by have := HT18.out; have := Ht18.out; rw [B64_eq]; omega)
    obtain ⟨TT, hTT⟩ : ∃ TT, T + t = TT := ⟨_, rfl⟩
    rw [hTT] at hsum HTT HR2
    clear hbk2 hr2 hTT
    have gT : S = 0 → ¬ (0 < (T : Int)) := fun h h0 => hS0 ⟨h, by omega⟩
    obtain ⟨dz, hdz, hdz2⟩ : ∃ dz : Bool, decide (S = 0) = dz ∧ (dz = false ∨ (dz = true ∧ ¬ (0 < (T : Int)))) := by
      by_cases h : S = 0
      · exact ⟨true, decide_eq_true h, .inr ⟨rfl, gT h⟩⟩
      · exact ⟨false, decide_eq_false h, .inl rfl⟩
    rw [hdz] at HDZ
    clear hdz gT hS0
    rcases hdz2 with rfl | ⟨rfl, g9⟩
    all_goals (
      go_wp2_with (rw [HW8.out])
      refine HDZ.out.mono ?_
      rintro e w9 ⟨rfl, hext9⟩
      have E9 := Lib.hid (E8.out.trans hext9)
      have S9 := Lib.hid (S8.out.old hext9)
      have HS9 := Lib.hid (fun w' (h : Ext w9 w') => (⟨HK.out _ (E9.out.trans h), row_cell (row_ext (hext9.trans h) R8.out)⟩ : w'.cell? ⟨w.heap.size, 0, none⟩ = some (.slice a m c) ∧ w'.cell? ⟨w7.heap.size, 0, none⟩ = some (.slice oz nz cz)))
      clear k9 hext9
      go_wp2_with fail
      go_region_held3 (fun w' => w'.cell? ⟨w.heap.size, 0, none⟩ = some (.slice a m c) ∧ w'.cell? ⟨w7.heap.size, 0, none⟩ = some (.slice oz nz cz))
        (first | exact HS9.out _ (Ext.refl _) | exact HS9.out _ ((Ext.refl _).drew) | exact HS9.out _ (by assumption))
        (first | (go_at_call 14; refine (dadd_calls (HA.out _ (E9.out.trans (Ext.refl _).drew)) (S9.out.old (Ext.refl _).drew) (by omega) (by omega)).mono ?_; rintro e wA ⟨oA, nA, cA, rfl, hownA, hextA, hnoA⟩; have EA := ((Ext.refl w9).drew).trans hextA; rw [HSV.out, val_lim] at hownA) | (go_at_call 11; refine (redeem_at TT (S + z) z r2 0 hownA.sl (S9.out.old EA) (by omega) (by omega) (val_lim _) (val_lim _) HR2.out HRE2.out HTT.out).mono ?_; rintro e wB ⟨rfl, hextB⟩; have EB := EA.trans hextB))
      go_wp2_with fail
      go_ret
      exact ⟨rfl, (HEW.out.trans E9.out).trans EB⟩)
  · have HCM := Lib.hid (dcmp_calls S4.out (HA.out _ E4.out) (by omega) (by omega))
    rw [val_lim, HSV.out, cmpN_gt h3] at HCM
    clear h3
    go_wp2_with (rw [HW4.out])
    refine HCM.out.mono ?_
    rintro e w5 ⟨rfl, hext5⟩
    have EN := Lib.hid (E4.out.trans hext5)
    have k6 := HK.out _ EN.out
    clear hext5
    go_wp2_with fail
    refine (issue_at T t S z er (HA.out _ EN.out) (by omega) HSV.out HZ.out HER.out HTB.out htB.out).mono ?_
    rintro e w7 ⟨oz, nz, cz, rfl, hownz, hext7, hnoz⟩
    obtain ⟨W8, hW8⟩ : ∃ W8, w7.alloc (.cells #[.slice oz nz cz] 26) = W8 := ⟨_, rfl⟩
    have E8 := Lib.hid (show Ext W W8 by rw [← hW8]; exact (EN.out.trans hext7).alloc _)
    have S8 := Lib.hid (show Sl W8 oz nz cz (lim z) by rw [← hW8]; exact hownz.sl.old ((Ext.refl _).alloc _))
    have R8 := Lib.hid (show W8.heap[w7.heap.size]? = some (.cells #[.slice oz nz cz] 26 (0, 0)) by rw [← hW8]; exact heap_alloc_new _ _)
    have HW8 := Lib.hid hW8
    have k9 := HK.out _ E8.out
    clear hW8 hownz hext7
    by_cases her : er = 0
    rotate_left
    · have g9 : (er == 0) = false := by rw [beq_eq_false_iff_ne]; exact her
      go_wp2_with (rw [HW8.out])
      go_ret
      exact ⟨rfl, HEW.out.trans E8.out⟩
    subst her
    have HDZ := Lib.hid (dzero_calls (HA.out _ E8.out) (by omega))
    rw [HSV.out] at HDZ
    by_cases hS0 : S = 0 ∧ 0 < T
    · rw [decide_eq_true hS0.1] at HDZ
      have g9 : 0 < (T : Int) := by omega
      clear hS0
      go_wp2_with (rw [HW8.out])
      refine HDZ.out.mono ?_
      rintro e w9 ⟨rfl, hext9⟩
      go_wp2_with fail
      go_ret
      exact ⟨rfl, (HEW.out.trans E8.out).trans hext9⟩
    have hbk2 := back_issue HER.out (fun h => by
      rcases Nat.eq_zero_or_pos T with h0 | h0
      · exact h0
      · exact absurd ⟨h, h0⟩ hS0)
    rw [HZ.out] at hbk2
    obtain ⟨r2, hr2⟩ : ∃ r2, redV (T + t) (S + z) z = r2 := ⟨_, rfl⟩
    rw [hr2] at hbk2
    have HR2 := Lib.hid hr2
    have HRE2 := Lib.hid hbk2.1
    have hrt2 : (r2 : Int) ≤ (t : Int) := by have := hbk2.2; omega
    have hsum : IntKind.u64.wrap ((T : Int) + (t : Int)) = ((T + t : Nat) : Int) := by
      have := HT18.out; have := Ht18.out
      rw [show ((T : Int) + (t : Int)) = ((T + t : Nat) : Int) by omega]
      exact IntWalk.u64_in _ (by omega)
    have HTT := Lib.hid (show T + t < B64 by have := HT18.out; have := Ht18.out; rw [B64_eq]; omega)
    obtain ⟨TT, hTT⟩ : ∃ TT, T + t = TT := ⟨_, rfl⟩
    rw [hTT] at hsum HTT HR2
    clear hbk2 hr2 hTT
    have gT : S = 0 → ¬ (0 < (T : Int)) := fun h h0 => hS0 ⟨h, by omega⟩
    obtain ⟨dz, hdz, hdz2⟩ : ∃ dz : Bool, decide (S = 0) = dz ∧ (dz = false ∨ (dz = true ∧ ¬ (0 < (T : Int)))) := by
      by_cases h : S = 0
      · exact ⟨true, decide_eq_true h, .inr ⟨rfl, gT h⟩⟩
      · exact ⟨false, decide_eq_false h, .inl rfl⟩
    rw [hdz] at HDZ
    clear hdz gT hS0
    rcases hdz2 with rfl | ⟨rfl, g9⟩
    all_goals (
      go_wp2_with (rw [HW8.out])
      refine HDZ.out.mono ?_
      rintro e w9 ⟨rfl, hext9⟩
      have E9 := Lib.hid (E8.out.trans hext9)
      have S9 := Lib.hid (S8.out.old hext9)
      have HS9 := Lib.hid (fun w' (h : Ext w9 w') => (⟨HK.out _ (E9.out.trans h), row_cell (row_ext (hext9.trans h) R8.out)⟩ : w'.cell? ⟨w.heap.size, 0, none⟩ = some (.slice a m c) ∧ w'.cell? ⟨w7.heap.size, 0, none⟩ = some (.slice oz nz cz)))
      clear k9 hext9
      go_wp2_with fail
      go_region_held3 (fun w' => w'.cell? ⟨w.heap.size, 0, none⟩ = some (.slice a m c) ∧ w'.cell? ⟨w7.heap.size, 0, none⟩ = some (.slice oz nz cz))
        (first | exact HS9.out _ (Ext.refl _) | exact HS9.out _ ((Ext.refl _).drew) | exact HS9.out _ (by assumption))
        (first | (go_at_call 14; refine (dadd_calls (HA.out _ (E9.out.trans (Ext.refl _).drew)) (S9.out.old (Ext.refl _).drew) (by omega) (by omega)).mono ?_; rintro e wA ⟨oA, nA, cA, rfl, hownA, hextA, hnoA⟩; have EA := ((Ext.refl w9).drew).trans hextA; rw [HSV.out, val_lim] at hownA) | (go_at_call 11; refine (redeem_at TT (S + z) z r2 0 hownA.sl (S9.out.old EA) (by omega) (by omega) (val_lim _) (val_lim _) HR2.out HRE2.out HTT.out).mono ?_; rintro e wB ⟨rfl, hextB⟩; have EB := EA.trans hextB))
      go_wp2_with fail
      go_ret
      exact ⟨rfl, (HEW.out.trans E9.out).trans EB⟩)
  · obtain ⟨q, hq, hq0⟩ : ∃ q : Int, cmpN x S = q ∧ q ≤ 0 := by
      rcases Nat.lt_or_eq_of_le h3 with h | h
      · exact ⟨_, cmpN_lt h, by decide⟩
      · exact ⟨_, cmpN_eq h, by decide⟩
    have HCM := Lib.hid (dcmp_calls S4.out (HA.out _ E4.out) (by omega) (by omega))
    rw [val_lim, HSV.out, hq] at HCM
    have hbk := back_need HE1.out (by rw [HX.out]; exact h3)
    rw [HX.out] at hbk
    obtain ⟨r, hr⟩ : ∃ r, redV T S x = r := ⟨_, rfl⟩
    rw [hr] at hbk
    have HR := Lib.hid hr
    have HRE := Lib.hid hbk.1
    have hrt : ¬ (r : Int) < (t : Int) := by have := hbk.2; omega
    clear h3 hq hbk hr
    go_wp2_with (rw [HW4.out])
    refine HCM.out.mono ?_
    rintro e w5 ⟨rfl, hext5⟩
    have E5 := Lib.hid (E4.out.trans hext5)
    have S5 := Lib.hid (S4.out.old hext5)
    have k6 := HK.out _ E5.out
    have k7 := row_cell (row_ext hext5 R4.out)
    clear hext5 k4 k5
    go_wp2_with fail
    refine (redeem_at T S x r 0 (HA.out _ E5.out) S5.out (by omega) (by omega) HSV.out (val_lim _) HR.out HRE.out HTB.out).mono ?_
    rintro e w6 ⟨rfl, hext6⟩
    have EN := Lib.hid (E5.out.trans hext6)
    have k8 := HK.out _ EN.out
    clear k6 k7 hext6
    go_wp2_with fail
    refine (issue_at T t S z er (HA.out _ EN.out) (by omega) HSV.out HZ.out HER.out HTB.out htB.out).mono ?_
    rintro e w7 ⟨oz, nz, cz, rfl, hownz, hext7, hnoz⟩
    obtain ⟨W8, hW8⟩ : ∃ W8, w7.alloc (.cells #[.slice oz nz cz] 26) = W8 := ⟨_, rfl⟩
    have E8 := Lib.hid (show Ext W W8 by rw [← hW8]; exact (EN.out.trans hext7).alloc _)
    have S8 := Lib.hid (show Sl W8 oz nz cz (lim z) by rw [← hW8]; exact hownz.sl.old ((Ext.refl _).alloc _))
    have R8 := Lib.hid (show W8.heap[w7.heap.size]? = some (.cells #[.slice oz nz cz] 26 (0, 0)) by rw [← hW8]; exact heap_alloc_new _ _)
    have HW8 := Lib.hid hW8
    have k9 := HK.out _ E8.out
    clear hW8 hownz hext7
    by_cases her : er = 0
    rotate_left
    · have g9 : (er == 0) = false := by rw [beq_eq_false_iff_ne]; exact her
      go_wp2_with (rw [HW8.out])
      go_ret
      exact ⟨rfl, HEW.out.trans E8.out⟩
    subst her
    have HDZ := Lib.hid (dzero_calls (HA.out _ E8.out) (by omega))
    rw [HSV.out] at HDZ
    by_cases hS0 : S = 0 ∧ 0 < T
    · rw [decide_eq_true hS0.1] at HDZ
      have g9 : 0 < (T : Int) := by omega
      clear hS0
      go_wp2_with (rw [HW8.out])
      refine HDZ.out.mono ?_
      rintro e w9 ⟨rfl, hext9⟩
      go_wp2_with fail
      go_ret
      exact ⟨rfl, (HEW.out.trans E8.out).trans hext9⟩
    have hbk2 := back_issue HER.out (fun h => by
      rcases Nat.eq_zero_or_pos T with h0 | h0
      · exact h0
      · exact absurd ⟨h, h0⟩ hS0)
    rw [HZ.out] at hbk2
    obtain ⟨r2, hr2⟩ : ∃ r2, redV (T + t) (S + z) z = r2 := ⟨_, rfl⟩
    rw [hr2] at hbk2
    have HR2 := Lib.hid hr2
    have HRE2 := Lib.hid hbk2.1
    have hrt2 : (r2 : Int) ≤ (t : Int) := by have := hbk2.2; omega
    have hsum : IntKind.u64.wrap ((T : Int) + (t : Int)) = ((T + t : Nat) : Int) := by
      have := HT18.out; have := Ht18.out
      rw [show ((T : Int) + (t : Int)) = ((T + t : Nat) : Int) by omega]
      exact IntWalk.u64_in _ (by omega)
    have HTT := Lib.hid (show T + t < B64 by have := HT18.out; have := Ht18.out; rw [B64_eq]; omega)
    obtain ⟨TT, hTT⟩ : ∃ TT, T + t = TT := ⟨_, rfl⟩
    rw [hTT] at hsum HTT HR2
    clear hbk2 hr2 hTT
    have gT : S = 0 → ¬ (0 < (T : Int)) := fun h h0 => hS0 ⟨h, by omega⟩
    obtain ⟨dz, hdz, hdz2⟩ : ∃ dz : Bool, decide (S = 0) = dz ∧ (dz = false ∨ (dz = true ∧ ¬ (0 < (T : Int)))) := by
      by_cases h : S = 0
      · exact ⟨true, decide_eq_true h, .inr ⟨rfl, gT h⟩⟩
      · exact ⟨false, decide_eq_false h, .inl rfl⟩
    rw [hdz] at HDZ
    clear hdz gT hS0
    rcases hdz2 with rfl | ⟨rfl, g9⟩
    all_goals (
      go_wp2_with (rw [HW8.out])
      refine HDZ.out.mono ?_
      rintro e w9 ⟨rfl, hext9⟩
      have E9 := Lib.hid (E8.out.trans hext9)
      have S9 := Lib.hid (S8.out.old hext9)
      have HS9 := Lib.hid (fun w' (h : Ext w9 w') => (⟨HK.out _ (E9.out.trans h), row_cell (row_ext (hext9.trans h) R8.out)⟩ : w'.cell? ⟨w.heap.size, 0, none⟩ = some (.slice a m c) ∧ w'.cell? ⟨w7.heap.size, 0, none⟩ = some (.slice oz nz cz)))
      clear k9 hext9
      go_wp2_with fail
      go_region_held3 (fun w' => w'.cell? ⟨w.heap.size, 0, none⟩ = some (.slice a m c) ∧ w'.cell? ⟨w7.heap.size, 0, none⟩ = some (.slice oz nz cz))
        (first | exact HS9.out _ (Ext.refl _) | exact HS9.out _ ((Ext.refl _).drew) | exact HS9.out _ (by assumption))
        (first | (go_at_call 14; refine (dadd_calls (HA.out _ (E9.out.trans (Ext.refl _).drew)) (S9.out.old (Ext.refl _).drew) (by omega) (by omega)).mono ?_; rintro e wA ⟨oA, nA, cA, rfl, hownA, hextA, hnoA⟩; have EA := ((Ext.refl w9).drew).trans hextA; rw [HSV.out, val_lim] at hownA) | (go_at_call 11; refine (redeem_at TT (S + z) z r2 0 hownA.sl (S9.out.old EA) (by omega) (by omega) (val_lim _) (val_lim _) HR2.out HRE2.out HTT.out).mono ?_; rintro e wB ⟨rfl, hextB⟩; have EB := EA.trans hextB))
      go_wp2_with fail
      go_ret
      exact ⟨rfl, (HEW.out.trans E9.out).trans EB⟩)

end Go.Proofs.YtpfhifjkecoahaaDoor
