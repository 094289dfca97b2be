/- share.Issue. -/
import Derived.Test.YtpfhifjkecoahaaGreatDoorShare2
namespace Go.Proofs.YtpfhifjkecoahaaGreatDoor
open Go.RowKit

theorem pack {W w8 : World} {B C : Nat} {v u : Value} {T : TypeId} {o : Option Addr} {n c : Nat} {xs : List Nat} (R9 : w8.heap[B]? = some (.cells #[v] T (0, 0))) (E : Ext W w8) (hB : W.heap.size ≤ B) (hown : Own C w8 o n c xs) (hBC : B < C) :
    ∃ wF, wF = w8.setCell ⟨B, 0, none⟩ u ∧ Ext W wF ∧ wF.heap[B]? = some (.cells #[u] T (0, 0)) ∧ Own C wF o n c xs :=
  ⟨_, rfl, box_store u E hB, heap_setCell_same w8 B 0 _ T u R9, hown.box u hBC⟩
theorem packA {W w8 : World} {C : Nat} {u : Value} {T : TypeId} {o : Option Addr} {n c : Nat} {xs : List Nat} (E : Ext W w8) (hown : Own C w8 o n c xs) :
    ∃ wF, wF = w8.alloc (.cells #[u] T (0, 0)) ∧ Ext W wF ∧ wF.heap[w8.heap.size]? = some (.cells #[u] T (0, 0)) ∧ Own C wF o n c xs :=
  ⟨_, rfl, E.alloc _, heap_alloc_new w8 _, hown.old ((Ext.refl _).alloc _)⟩
theorem iss_err {T S t : Nat} {e : Int} (h : issE T S t = e) (he : e ≠ 0) : issV T S t = 0 := by
  unfold issV; rw [h, if_neg he]
theorem iss_t0 (T S : Nat) : issE T S 0 = 101 := by unfold issE; rw [if_pos rfl]
theorem iss_s0 (T : Nat) {t : Nat} (h : t ≠ 0) : issE T 0 t = 0 := by unfold issE; rw [if_neg h, if_pos rfl]
theorem iss_T0 {S t : Nat} (h : t ≠ 0) (h2 : S ≠ 0) : issE 0 S t = 100 := by unfold issE; rw [if_neg h, if_neg h2, if_pos rfl]
theorem iss_z0 {T S t : Nat} (h : t ≠ 0) (h2 : S ≠ 0) (h3 : T ≠ 0) (h4 : issZ T S t = 0) : issE T S t = 101 := by unfold issE; rw [if_neg h, if_neg h2, if_neg h3, if_pos h4]
theorem iss_big {T S t : Nat} (h : t ≠ 0) (h2 : S ≠ 0) (h3 : T ≠ 0) (h4 : issZ T S t ≠ 0) (h5 : most54 < S + issZ T S t) : issE T S t = 103 := by unfold issE; rw [if_neg h, if_neg h2, if_neg h3, if_neg h4, if_pos h5]
theorem iss_ok {T S t : Nat} (h : t ≠ 0) (h2 : S ≠ 0) (h3 : T ≠ 0) (h4 : issZ T S t ≠ 0) (h5 : ¬ most54 < S + issZ T S t) : issE T S t = 0 ∧ issV T S t = issZ T S t := by
  have : issE T S t = 0 := by unfold issE; rw [if_neg h, if_neg h2, if_neg h3, if_neg h4, if_neg h5]
  refine ⟨this, ?_⟩
  unfold issV; rw [this, if_pos rfl, if_neg h2]

set_option maxHeartbeats 8000000 in
set_option maxRecDepth 100000 in
theorem issue_calls {a : Option Addr} {m c : Nat} {xs : List Nat} {w : World} (T t : Nat) (hT : T < B64) (ht : t < B64) (ha : Sl w a m c xs) (hm : m ≤ 100000000) :
    Calls Tryz.prog 7 #[.int .u64 (T : Int), DecV a m c, .int .u64 (t : Int)] w (NewDE w (m + 5) (lim (issV T (val xs) t)) (issE T (val xs) t)) := by
  obtain ⟨X, hX⟩ : ∃ X, w.alloc (.cells #[.slice a m c] 26) = X := ⟨_, rfl⟩
  have EX : Ext w X := by rw [← hX]; exact (Ext.refl _).alloc _
  have hz : X.heap.size = w.heap.size + 1 := by rw [← hX, alloc_size]
  obtain ⟨W, hW⟩ : ∃ W, X.alloc (.cells #[.slice none 0 0] 26) = W := ⟨_, rfl⟩
  have EXW : Ext X W := by rw [← hW]; exact (Ext.refl _).alloc _
  have hS : ∀ w', Ext W w' → w'.cell? ⟨w.heap.size, 0, none⟩ = some (.slice a m c) := by
    intro w' h
    exact box_cell (by rw [hX]; exact EXW.trans h)
  have HS := Lib.hid hS
  have HS5 := Lib.hid (fun w' h (B : Nat) (hB : W.heap.size ≤ B) (u : Value) => setCell_keeps (B := B) (hS w' h) (by rw [← hW, alloc_size, hz] at hB; omega) u)
  have HB := Lib.hid (fun w' (h : Ext W w') => box_at hz (w2 := w') (v := .slice none 0 0) (T := 26) (by rw [hW]; exact h))
  have HR := Lib.hid (fun w' (h : Ext W w') => (by rw [← hz]; exact box_row0 (w := X) (w' := w') (v := .slice none 0 0) (T := 26) (by rw [hW]; exact h) : w'.heap[w.heap.size + 1]? = some (.cells #[.slice none 0 0] 26 (0, 0))))
  have HF := Lib.hid (fun w' (h : Ext W w') (u : Value) => box_fin EX hz (w2 := w') (v := .slice none 0 0) (T := 26) (by rw [hW]; exact h) u)
  have hWs : (X.alloc (.cells #[.slice none 0 0] 26)).heap.size = W.heap.size := by rw [hW]
  rw [hWs] at HF
  have HA := Lib.hid (fun w' (h : Ext W w') => (ha.old ((EX.trans EXW).trans h)))
  have HX := Lib.hid hX; have HW := Lib.hid hW
  have HEW := Lib.hid (EX.trans EXW)
  have HT := Lib.hid hT; have HT' := Lib.hid ht
  obtain ⟨S, hSv⟩ : ∃ S, val xs = S := ⟨_, rfl⟩
  have HZR := Lib.hid (dzero_calls (HA.out _ (Ext.refl _)) (by omega))
  rw [hSv] at HZR ⊢
  have HSV := Lib.hid hSv
  have HC1 := Lib.hid (hS W (Ext.refl _))
  clear hS EX EXW ha hz hX hW hWs hT ht hSv
  by_cases h1 : t = 0
  · subst h1
    rw [iss_err (iss_t0 T S) (by decide), iss_t0]
    go_enter Tryz.func7, Tryz.ntmps7
    go_wp2_with fail
    rw [HX.out, HW.out]
    try simp only [Exit.inBlock, Exit.then]
    refine bodyPost_ret (results_box2 rfl _ _ _ _ rfl (load_dec (HR.out _ (Ext.refl _)))) rfl ?_
    exact ⟨none, 0, 0, rfl, Own.nil _ _, HEW.out, by omega⟩
  have g1 : ((t : Int) == 0) = false := by rw [beq_eq_false_iff_ne]; omega
  have c1 := HC1.out
  by_cases h2 : S = 0
  · subst h2
    have HV := Lib.hid (issV_ok0 (iss_s0 T h1))
    rw [iss_s0 T h1]
    rw [decide_eq_true rfl] at HZR
    clear h1
    go_enter Tryz.func7, Tryz.ntmps7
    go_wp2_with fail
    rw [HX.out, HW.out]
    refine HZR.out.mono ?_
    rintro e w4 ⟨rfl, hext4⟩
    go_wp2_with fail
    refine (dof_calls t HT'.out _).mono ?_
    rintro e w6 ⟨o6, n6, c6, rfl, hown6, hext6, hno6⟩
    obtain ⟨k1, k2⟩ := HB.out _ (hext4.trans hext6)
    obtain ⟨f1, f2, f3⟩ := HF.out _ (hext4.trans hext6) (.slice o6 n6 c6)
    have hown6' := hown6.mono hext4.size
    rw [← HV.out] at hown6'
    clear hown6
    go_wp2_with fail
    try simp only [Exit.inBlock, Exit.then]
    refine bodyPost_ret (results_box2 rfl _ _ _ _ rfl (load_dec f2)) rfl ?_
    exact ⟨o6, n6, c6, rfl, f3 hown6', f1, by omega⟩
  rw [decide_eq_false h2] at HZR
  by_cases h3 : T = 0
  · subst h3
    rw [iss_err (iss_T0 h1 h2) (by decide), iss_T0 h1 h2]
    clear h1 h2
    go_enter Tryz.func7, Tryz.ntmps7
    go_wp2_with fail
    rw [HX.out, HW.out]
    refine HZR.out.mono ?_
    rintro e w4 ⟨rfl, hext4⟩
    obtain ⟨k1, k2⟩ := HB.out _ hext4
    obtain ⟨f1, f2, f3⟩ := HF.out _ hext4 (.slice none 0 0)
    go_wp2_with fail
    try simp only [Exit.inBlock, Exit.then]
    refine bodyPost_ret (results_box2 rfl _ _ _ _ rfl (load_dec f2)) rfl ?_
    exact ⟨none, 0, 0, rfl, Own.nil _ _, f1, by omega⟩
  have g2 : ((T : Int) == 0) = false := by rw [beq_eq_false_iff_ne]; omega
  have HZ := Lib.hid (show T * U36 ≠ 0 from Nat.mul_ne_zero h3 U36_ne)
  have HIZ := Lib.hid (iss_z0 h1 h2 h3)
  have HIB := Lib.hid (iss_big h1 h2 h3)
  have HIO := Lib.hid (iss_ok h1 h2 h3)
  obtain ⟨z, hzv⟩ : ∃ z, issZ T S t = z := ⟨_, rfl⟩
  rw [hzv] at HIZ HIB HIO
  obtain ⟨V, hV⟩ : ∃ V, issV T S t = V := ⟨_, rfl⟩
  obtain ⟨er, her⟩ : ∃ er, issE T S t = er := ⟨_, rfl⟩
  rw [hV, her]
  have HV := Lib.hid hV; have HER := Lib.hid her
  unfold issZ at hzv
  have HZV := Lib.hid hzv
  clear h1 h2 h3 hzv hV her
  go_enter Tryz.func7, Tryz.ntmps7
  go_wp2_with fail
  rw [HX.out, HW.out]
  refine HZR.out.mono ?_
  rintro e w4 ⟨rfl, hext4⟩
  clear c1
  go_wp2_with fail
  go_region_held3 (fun w' => w'.cell? ⟨w.heap.size, 0, none⟩ = some (.slice a m c))
    (first | exact HS.out _ hext4 | exact HS.out _ hext4.drew | exact HS.out _ (hext4.drew.alloc _) | exact HS.out _ (by assumption) | exact HS.out _ (Ext.alloc (by assumption) _) | exact HS5.out _ (by assumption) _ (Ext.size (by assumption)) _ | exact HS5.out _ (Ext.alloc (by assumption) _) _ (Ext.size (by assumption)) _)
    (first | (go_at_call 25; refine (by_calls _ _).mono ?_; rintro e w5 ⟨rfl, hw5⟩; have E5 : Ext W w5 := (by rw [hw5]; first | exact hext4.drew.alloc _ | exact (hext4.drew.alloc _).alloc _); have P5 := by_cell hw5; (try simp only [drew_size, alloc_size] at P5); have HP5 := Lib.hid P5; (try have R9 := Lib.hid (row_by hw5)); clear P5 hw5) | (go_at_call_of 22 t; refine (dof_calls t HT'.out _).mono ?_; rintro e w6 ⟨o6, n6, c6, rfl, hown6, hext6, hno6⟩; have E6 : Ext W w6 := (by first | exact E5.trans hext6 | exact (E5.alloc _).trans hext6); (first | have HP6 := Lib.hid (hext6.cell HP5.out) | have HP6 := Lib.hid ((((Ext.refl _).alloc _).trans hext6).cell HP5.out)); (first | have R9 := Lib.hid (row_ext hext6 R9.out) | have R9 := Lib.hid (row_new hext6) | skip)) | (go_at_call_of 22 T; refine (dof_calls T HT.out _).mono ?_; rintro e w7 ⟨o7, n7, c7, rfl, hown7, hext7, hno7⟩; have E7 : Ext W w7 := (by first | exact E6.trans hext7 | exact (E6.alloc _).trans hext7); (first | have HP7 := Lib.hid (hext7.cell HP6.out) | have HP7 := Lib.hid ((((Ext.refl _).alloc _).trans hext7).cell HP6.out)); (first | have HO6 := Lib.hid (hown6.sl.old hext7) | have HO6 := Lib.hid (hown6.sl.old (((Ext.refl _).alloc _).trans hext7))); (first | have R9 := Lib.hid (row_ext hext7 R9.out) | have R9 := Lib.hid (row_new hext7) | skip)) | (go_at_call 52; refine (by1_at (up := false) (t * U36) (T * U36) (HA.out _ (by first | exact E7 | exact E7.alloc _)) (HO6.out.old (by first | exact Ext.refl _ | exact (Ext.refl _).alloc _)) (hown7.sl.old (by first | exact Ext.refl _ | exact (Ext.refl _).alloc _)) (val_lim _) (val_lim _) (by first | exact HP7.out | exact ((Ext.refl _).alloc _).cell HP7.out) hm hno6 (by omega) HZ.out).mono ?_; rintro e w8 ⟨o8, n8, c8, rfl, hown8, hext8, hno8⟩; have E8 : Ext W w8 := (by first | exact E7.trans hext8 | exact (E7.alloc _).trans hext8); (first | have HLT9 := Lib.hid (row_lt R9.out) | skip); (first | have R9 := Lib.hid (row_ext hext8 R9.out) | have R9 := Lib.hid (row_new hext8) | skip); (first | have k1 := row_cell R9.out | skip); (first | have k2 := row_free R9.out | skip)))
  all_goals (
    rw [rdV_down, HSV.out, HZV.out] at hown8
    first
      | have PK := pack (u := .slice o8 n8 c8) R9.out E8 (Ext.size (by assumption)) hown8 HLT9.out
      | have PK := pack (u := .slice o8 n8 c8) R9.out E8 (Ext.size (by assumption)) hown8 (by rw [alloc_size]; omega)
      | have PK := packA (u := .slice o8 n8 c8) (T := 26) E8 hown8
    obtain ⟨wF, hwF, EF, RF, SF⟩ := PK
    rw [← hwF]
    have HEF := Lib.hid EF; have HRF := Lib.hid RF; have HSO := Lib.hid (show Own W.heap.size wF o8 n8 c8 (lim z) from SF.mono (by first | exact E7.size | exact (E7.alloc _).size))
    try clear k1 k2
    clear hwF EF RF SF hown8 hext8 E8 E7 E6 E5 hown7 hown6 hext7 hext6
    go_wp2_with fail
    refine (pow10_in 54 (by omega) _).mono ?_
    rintro e wG ⟨aP, nP, cP, rfl, hownP, hextP, hnoP⟩
    have HOP := Lib.hid hownP
    have hc8 := row_cell (row_ext hextP HRF.out)
    have HEG := Lib.hid (HEF.out.trans hextP)
    have HSG := Lib.hid (HSO.out.old hextP)
    have HRG := Lib.hid (row_ext hextP HRF.out)
    have CZ := dzero_calls HSG.out.sl (by omega)
    rw [val_lim] at CZ
    have HCZ := Lib.hid CZ
    clear CZ hownP hextP
    by_cases hz0 : z = 0
    · rw [decide_eq_true hz0] at HCZ
      go_wp2_with fail
      refine HCZ.out.mono ?_
      rintro e wH ⟨rfl, hextH⟩
      obtain ⟨k1, k2⟩ := HB.out _ (HEG.out.trans hextH)
      obtain ⟨f1, f2, f3⟩ := HF.out _ (HEG.out.trans hextH) (.slice none 0 0)
      go_wp2_with fail
      try simp only [Exit.inBlock, Exit.then]
      refine bodyPost_ret (results_box2 rfl _ _ _ _ rfl (load_dec f2)) rfl ?_
      have he := HIZ.out hz0
      have hv := iss_err he (by decide)
      rw [← HV.out, hv, ← HER.out, he]
      exact ⟨none, 0, 0, rfl, Own.nil _ _, f1, by omega⟩
    · rw [decide_eq_false hz0] at HCZ
      have HNZ := Lib.hid hz0
      clear hz0
      go_wp2_with fail
      refine HCZ.out.mono ?_
      rintro e wH ⟨rfl, hextH⟩
      have HEH := Lib.hid (HEG.out.trans hextH)
      have q1 := HS.out _ HEH.out
      have q2 := row_cell (row_ext hextH HRG.out)
      have HSH := Lib.hid (HSG.out.old hextH)
      have HRH := Lib.hid (row_ext hextH HRG.out)
      have HPH := Lib.hid (HOP.out.sl.old hextH)
      clear hextH hc8
      go_wp2_with fail
      refine (dadd_calls (HA.out _ HEH.out) HSH.out.sl (by omega) (by omega)).mono ?_
      rintro e wI ⟨oI, nI, cI, rfl, hownI, hextI, hnoI⟩
      rw [HSV.out, val_lim] at hownI
      have HOI := Lib.hid hownI
      have HEI := Lib.hid (HEH.out.trans hextI)
      have HSI := Lib.hid (HSH.out.old hextI)
      have HRI := Lib.hid (row_ext hextI HRH.out)
      have HPI := Lib.hid (HPH.out.old hextI)
      clear q1 q2 hownI hextI
      go_wp2_with fail
      refine (dofnat_calls HPI.out (by omega)).mono ?_
      rintro e wJ ⟨oJ, nJ, cJ, rfl, hownJ, hextJ, hnoJ⟩
      rw [val_lim] at hownJ
      have CC := dcmp_calls (HOI.out.sl.old hextJ) hownJ.sl (by omega) (by omega)
      rw [val_lim, val_lim] at CC
      have HCC := Lib.hid CC
      have HEJ := Lib.hid (HEI.out.trans hextJ)
      have HSJ := Lib.hid (HSI.out.old hextJ)
      have HRJ := Lib.hid (row_ext hextJ HRI.out)
      clear CC hownJ hextJ
      by_cases hb : 10 ^ 54 * U36 < S + z
      · rw [cmpN_gt hb] at HCC
        have he := Lib.hid (HIB.out HNZ.out hb)
        clear hb
        go_wp2_with fail
        refine HCC.out.mono ?_
        rintro e wK ⟨rfl, hextK⟩
        obtain ⟨k1, k2⟩ := HB.out _ (HEJ.out.trans hextK)
        obtain ⟨f1, f2, f3⟩ := HF.out _ (HEJ.out.trans hextK) (.slice none 0 0)
        go_wp2_with fail
        try simp only [Exit.inBlock, Exit.then]
        refine bodyPost_ret (results_box2 rfl _ _ _ _ rfl (load_dec f2)) rfl ?_
        have hv := iss_err he.out (by decide)
        rw [← HV.out, hv, ← HER.out, he.out]
        exact ⟨none, 0, 0, rfl, Own.nil _ _, f1, by omega⟩
      · obtain ⟨q, hq, hq0⟩ : ∃ q : Int, cmpN (S + z) (10 ^ 54 * U36) = q ∧ ¬ (0 < q) := by
          rcases Nat.lt_or_eq_of_le (Nat.le_of_not_lt hb) with h | h
          · exact ⟨_, cmpN_lt h, by decide⟩
          · exact ⟨_, cmpN_eq h, by decide⟩
        rw [hq] at HCC
        have he := Lib.hid (HIO.out HNZ.out hb)
        clear hb hq
        go_wp2_with fail
        refine HCC.out.mono ?_
        rintro e wK ⟨rfl, hextK⟩
        obtain ⟨k1, k2⟩ := HB.out _ (HEJ.out.trans hextK)
        obtain ⟨f1, f2, f3⟩ := HF.out _ (HEJ.out.trans hextK) (.slice o8 n8 c8)
        have q2 := row_cell (row_ext hextK HRJ.out)
        have HSK := Lib.hid (HSJ.out.old hextK)
        go_wp2_with fail
        try simp only [Exit.inBlock, Exit.then]
        refine bodyPost_ret (results_box2 rfl _ _ _ _ rfl (load_dec f2)) rfl ?_
        rw [← HV.out, he.out.2, ← HER.out, he.out.1]
        exact ⟨o8, n8, c8, rfl, f3 HSK.out, f1, by omega⟩)

end Go.Proofs.YtpfhifjkecoahaaGreatDoor
