/- gleanlaw10.ShareAll: the walk. -/
import Derived.Test.YtpfhifjkecoahaaGreatDoorRefS
import Derived.Test.YtpfhifjkecoahaaGreatDoorKnown
namespace Go.Proofs.YtpfhifjkecoahaaGreatDoor
open Go.RowKit Go.Lib

theorem dsl_two (w : World) (a b : Option Addr) (m n c d : Nat) : DSl (w.alloc (.cells #[.slice a m c, .slice b n d] 26)) (some ⟨w.heap.size, 0, none⟩) 2 2 [(a, m, c), (b, n, d)] := by
  refine ⟨rfl, Nat.le_refl _, by decide, .inr ⟨_, _, rfl, fun i v hv => ?_⟩⟩
  have hc := heap_alloc_new w (.cells #[.slice a m c, .slice b n d] 26)
  rw [cell_of_row _ _ _ _ _ _ hc]
  match i, hv with
  | 0, hv => simp only [List.getElem?_cons_zero, Option.some.injEq] at hv; subst hv; rfl
  | 1, hv => simp at hv; subst hv; rfl
  | i + 2, hv => simp at hv

set_option maxHeartbeats 1000000 in
set_option maxRecDepth 100000 in
theorem hdec_calls {a b : Option Addr} {m n c d : Nat} {xs ys : List Nat} {w : World} (ha : Sl w a m c xs) (hb : Sl w b n d ys) (hm : m ≤ 1000000) (hn : n ≤ 1000000) :
    Calls Tryz.prog 13 #[DecV a m c, DecV b n d] w (RetE (.bool (decide (xs = ys))) w) := by
  have E := ((Ext.refl w).alloc (.cells #[.slice a m c] 26)).alloc (.cells #[.slice b n d] 26)
  have CB := Lib.hid (hnat_calls (ha.old E) (hb.old E) (by omega) (by omega))
  go_enter Tryz.func13, Tryz.ntmps13
  go_wp2_with fail
  refine CB.out.mono ?_
  rintro e w' ⟨rfl, k, rfl⟩
  go_wp2_with fail
  go_ret
  exact ⟨rfl, E.drewN k⟩
theorem hdec_at {a b : Option Addr} {m n c d : Nat} {xs : List Nat} {w : World} (ha : Sl w a m c xs) (hb : Sl w b n d xs) (hm : m ≤ 1000000) (hn : n ≤ 1000000) :
    Calls Tryz.prog 13 #[DecV a m c, DecV b n d] w (RetE (.bool true) w) := by
  have := hdec_calls ha hb hm hn
  rwa [decide_eq_true rfl] at this

set_option maxHeartbeats 16000000 in
set_option maxRecDepth 100000 in
theorem all_law {a b : Option Addr} {m k c d : Nat} {xs ys : List Nat} {w : World} (T t p : Nat) (hT : T < B64) (ht : t < B64) (hp : p < B64) (ha : Sl w a m c xs) (hb : Sl w b k d ys) (htab : Tab w) :
    Calls Tryz.prog 3 #[.int .u64 (T : Int), DecV a m c, DecV b k d, .int .u64 (t : Int), .int .u64 (p : Int)] w (RetE (.bool true) w) := by
  obtain ⟨W, hW⟩ : ∃ X, W2 w (.slice a m c) (.slice b k d) = X := ⟨_, rfl⟩
  have EW : Ext w W := by rw [← hW]; exact W2_ext _ _ _
  have HK := Lib.hid (fun w' (h : Ext W w') => W2_at w (.slice a m c) (.slice b k d) (by rw [hW]; exact h))
  have HA := Lib.hid (fun w' (h : Ext W w') => (ha.old (EW.trans h)))
  have HB := Lib.hid (fun w' (h : Ext W w') => (hb.old (EW.trans h)))
  have HEW := Lib.hid EW
  simp only [W2] at hW
  have HW := Lib.hid hW
  have HTAB := Lib.hid (htab.old EW)
  have HTB := Lib.hid hT
  have htB := Lib.hid ht
  have hpB := Lib.hid hp
  obtain ⟨S, hSv⟩ : ∃ S, val xs = S := ⟨_, rfl⟩
  obtain ⟨x, hxv⟩ : ∃ S, val ys = S := ⟨_, rfl⟩
  have HSV := Lib.hid hSv; have HXV := Lib.hid hxv
  clear EW ha hb hW htab hT ht hp hSv hxv
  go_enter Tryz.func3, Tryz.ntmps3
  go_wp2_with fail
  rw [HW.out]
  refine (known_calls _ HTAB.out).mono ?_
  rintro e w1 ⟨rfl, hext1⟩
  have k1 := HK.out _ hext1
  have E1 := Lib.hid hext1
  clear hext1
  go_wp2_with fail
  have HSM := Lib.hid (smallL_calls (dsl_two w1 a b m k c d))
  have E2 := Lib.hid (E1.out.alloc (.cells #[.slice a m c, .slice b k d] 26))
  clear k1
  have k1 := HK.out _ E2.out
  by_cases h12 : m ≤ 12 ∧ k ≤ 12
  rotate_left
  · have hsm : [(a, m, c), (b, k, d)].all twelve = false := by
      rw [Bool.eq_false_iff]
      intro h
      simp [twelve] at h
      exact h12 ⟨h.1, h.2⟩
    rw [hsm] at HSM
    clear h12
    go_wp2_with fail
    refine HSM.out.mono ?_
    rintro e w2 ⟨rfl, rfl⟩
    go_wp2_with fail
    go_ret
    exact ⟨rfl, HEW.out.trans E2.out⟩
  obtain ⟨hm, hk⟩ := h12
  have hsm : [(a, m, c), (b, k, d)].all twelve = true := by simp [twelve, hm, hk]
  rw [hsm] at HSM
  clear hsm
  obtain ⟨e1, he1⟩ : ∃ e, issE T S t = e := ⟨_, rfl⟩
  obtain ⟨z, hz⟩ : ∃ z, issV T S t = z := ⟨_, rfl⟩
  obtain ⟨r, hr⟩ : ∃ r, redV T S x = r := ⟨_, rfl⟩
  obtain ⟨f, hf⟩ : ∃ e1, redE S x = e1 := ⟨_, rfl⟩
  obtain ⟨v, hv⟩ : ∃ r, needV T S t = r := ⟨_, rfl⟩
  obtain ⟨g, hg⟩ : ∃ e1, needE T t = e1 := ⟨_, rfl⟩
  have HE1 := Lib.hid he1; have HZ := Lib.hid hz; have HR := Lib.hid hr; have HF := Lib.hid hf; have HV := Lib.hid hv; have HG := Lib.hid hg
  clear he1 hz hr hf hv hg
  go_wp2_with fail
  refine HSM.out.mono ?_
  rintro e w2 ⟨rfl, rfl⟩
  clear HSM
  have C1 := issue_calls T t HTB.out htB.out (HA.out _ E2.out) (by omega)
  rw [HSV.out, HZ.out, HE1.out] at C1
  have HC1 := Lib.hid C1
  clear C1
  go_wp2_with fail
  refine HC1.out.mono ?_
  rintro e w4 ⟨oz, nz, cz, rfl, hownz, hext4, hnoz⟩
  obtain ⟨W4, hW4⟩ : ∃ W4, w4.alloc (.cells #[.slice oz nz cz] 26) = W4 := ⟨_, rfl⟩
  have E4 := Lib.hid (show Ext W W4 by rw [← hW4]; exact (E2.out.trans hext4).alloc _)
  have S4 := Lib.hid (show Sl W4 oz nz cz (lim z) by rw [← hW4]; exact hownz.sl.old ((Ext.refl _).alloc _))
  have R4 := Lib.hid (show W4.heap[w4.heap.size]? = some (.cells #[.slice oz nz cz] 26 (0, 0)) by rw [← hW4]; exact heap_alloc_new _ _)
  have HW4 := Lib.hid hW4
  clear hW4 hownz hext4 k1 HC1
  have k1 := HK.out _ E4.out
  have C1 := rissue_calls T t HTB.out htB.out (HA.out _ E4.out) (by omega)
  rw [HSV.out, HZ.out, HE1.out] at C1
  have HC1 := Lib.hid C1
  clear C1
  go_wp2_with (rw [HW4.out])
  refine HC1.out.mono ?_
  rintro e w5 ⟨o5, n5, c5, rfl, hown5, hext5, hno5⟩
  obtain ⟨W5, hW5⟩ : ∃ W5, w5.alloc (.cells #[.slice o5 n5 c5] 26) = W5 := ⟨_, rfl⟩
  have X5 := Lib.hid (show Ext W4 W5 by rw [← hW5]; exact hext5.alloc _)
  have E5 := Lib.hid (E4.out.trans X5.out)
  have S5 := Lib.hid (show Sl W5 o5 n5 c5 (lim z) by rw [← hW5]; exact hown5.sl.old ((Ext.refl _).alloc _))
  have R5 := Lib.hid (show W5.heap[w5.heap.size]? = some (.cells #[.slice o5 n5 c5] 26 (0, 0)) by rw [← hW5]; exact heap_alloc_new _ _)
  have HW5 := Lib.hid hW5
  clear hW5 hown5 hext5 k1 HC1
  have k1 := HK.out _ E5.out
  have C1 := redeem_calls T HTB.out (HA.out _ E5.out) (HB.out _ E5.out) (by omega) (by omega)
  rw [HSV.out, HXV.out, HR.out, HF.out] at C1
  have HC1 := Lib.hid C1
  clear C1
  go_wp2_with (rw [HW5.out])
  refine HC1.out.mono ?_
  rintro e w6 ⟨rfl, hext6⟩
  have X6 := Lib.hid hext6
  have E6 := Lib.hid (E5.out.trans hext6)
  clear k1 hext6 HC1
  have k1 := HK.out _ E6.out
  have C1 := rredeem_calls T HTB.out (HA.out _ E6.out) (HB.out _ E6.out) (by omega) (by omega)
  rw [HSV.out, HXV.out, HR.out, HF.out] at C1
  have HC1 := Lib.hid C1
  clear C1
  go_wp2_with fail
  refine HC1.out.mono ?_
  rintro e w7 ⟨rfl, hext7⟩
  have X7 := Lib.hid (X6.out.trans hext7)
  have E7 := Lib.hid (E6.out.trans hext7)
  clear k1 hext7 HC1
  have k1 := HK.out _ E7.out
  have C1 := need_calls T t HTB.out htB.out (HA.out _ E7.out) (by omega)
  rw [HSV.out, HV.out, HG.out] at C1
  have HC1 := Lib.hid C1
  clear C1
  go_wp2_with fail
  refine HC1.out.mono ?_
  rintro e w8 ⟨o8, n8, c8, rfl, hown8, hext8, hno8⟩
  obtain ⟨W8, hW8⟩ : ∃ W8, w8.alloc (.cells #[.slice o8 n8 c8] 26) = W8 := ⟨_, rfl⟩
  have X8 := Lib.hid (show Ext W5 W8 by rw [← hW8]; exact (X7.out.trans hext8).alloc _)
  have E8 := Lib.hid (E5.out.trans X8.out)
  have S8 := Lib.hid (show Sl W8 o8 n8 c8 (lim v) by rw [← hW8]; exact hown8.sl.old ((Ext.refl _).alloc _))
  have R8 := Lib.hid (show W8.heap[w8.heap.size]? = some (.cells #[.slice o8 n8 c8] 26 (0, 0)) by rw [← hW8]; exact heap_alloc_new _ _)
  have HW8 := Lib.hid hW8
  clear hW8 hown8 hext8 k1 HC1
  have k1 := HK.out _ E8.out
  have C1 := rneed_calls T t HTB.out htB.out (HA.out _ E8.out) (by omega)
  rw [HSV.out, HV.out, HG.out] at C1
  have HC1 := Lib.hid C1
  clear C1
  go_wp2_with (rw [HW8.out])
  refine HC1.out.mono ?_
  rintro e w9 ⟨o9, n9, c9, rfl, hown9, hext9, hno9⟩
  obtain ⟨W9, hW9⟩ : ∃ W9, w9.alloc (.cells #[.slice o9 n9 c9] 26) = W9 := ⟨_, rfl⟩
  have X9 := Lib.hid (show Ext W8 W9 by rw [← hW9]; exact hext9.alloc _)
  have E9 := Lib.hid (E8.out.trans X9.out)
  have S9 := Lib.hid (show Sl W9 o9 n9 c9 (lim v) by rw [← hW9]; exact hown9.sl.old ((Ext.refl _).alloc _))
  have R9 := Lib.hid (show W9.heap[w9.heap.size]? = some (.cells #[.slice o9 n9 c9] 26 (0, 0)) by rw [← hW9]; exact heap_alloc_new _ _)
  have HW9 := Lib.hid hW9
  clear hW9 hown9 hext9 k1 HC1
  have Z4 := Lib.hid (S4.out.old (X5.out.trans (X8.out.trans X9.out)))
  have Z5 := Lib.hid (S5.out.old (X8.out.trans X9.out))
  have Z8 := Lib.hid (S8.out.old X9.out)
  have Q4 := Lib.hid (row_ext (X5.out.trans (X8.out.trans X9.out)) R4.out)
  have Q5 := Lib.hid (row_ext (X8.out.trans X9.out) R5.out)
  have Q8 := Lib.hid (row_ext X9.out R8.out)
  have HS := Lib.hid (fun w' (h : Ext W9 w') => (⟨HK.out _ (E9.out.trans h), row_cell (row_ext h Q4.out), row_cell (row_ext h Q5.out), row_cell (row_ext h Q8.out), row_cell (row_ext h R9.out)⟩ :
    (w'.cell? ⟨w.heap.size, 0, none⟩ = some (.slice a m c) ∧ w'.cell? ⟨w.heap.size + 1, 0, none⟩ = some (.slice b k d)) ∧ w'.cell? ⟨w4.heap.size, 0, none⟩ = some (.slice oz nz cz) ∧ w'.cell? ⟨w5.heap.size, 0, none⟩ = some (.slice o5 n5 c5) ∧ w'.cell? ⟨w8.heap.size, 0, none⟩ = some (.slice o8 n8 c8) ∧ w'.cell? ⟨w9.heap.size, 0, none⟩ = some (.slice o9 n9 c9)))
  go_wp2_with (rw [HW9.out])
  go_region_held3 (fun w' => (w'.cell? ⟨w.heap.size, 0, none⟩ = some (.slice a m c) ∧ w'.cell? ⟨w.heap.size + 1, 0, none⟩ = some (.slice b k d)) ∧ w'.cell? ⟨w4.heap.size, 0, none⟩ = some (.slice oz nz cz) ∧ w'.cell? ⟨w5.heap.size, 0, none⟩ = some (.slice o5 n5 c5) ∧ w'.cell? ⟨w8.heap.size, 0, none⟩ = some (.slice o8 n8 c8) ∧ w'.cell? ⟨w9.heap.size, 0, none⟩ = some (.slice o9 n9 c9))
    (first | exact HS.out _ (Ext.refl _) | exact HS.out _ ((Ext.refl _).drew) | exact HS.out _ (by assumption))
    (first | (go_at_call_of 13 oz; refine (hdec_at (Z4.out.old (Ext.refl _).drew) (Z5.out.old (Ext.refl _).drew) (by omega) (by omega)).mono ?_; rintro e wA ⟨rfl, hextA⟩; have EA : Ext W9 wA := ((Ext.refl W9).drew).trans hextA) | (go_at_call_of 13 o8; refine (hdec_at (Z8.out.old EA) (S9.out.old EA) (by omega) (by omega)).mono ?_; rintro e wB ⟨rfl, hextB⟩; have EB : Ext W9 wB := EA.trans hextB) | (go_at_call 14; refine (worth_calls T HTB.out (HA.out _ (E9.out.trans EB)) (HB.out _ (E9.out.trans EB)) (by omega) (by omega)).mono ?_; rintro e wC ⟨oC, nC, cC, rfl, hownC, hextC, hnoC⟩; have EC : Ext W9 wC := EB.trans hextC) | (go_at_call 15; refine (rworth_calls T HTB.out (HA.out _ (E9.out.trans EC)) (HB.out _ (E9.out.trans EC)) (by omega) (by omega)).mono ?_; rintro e wD ⟨oD, nD, cD, rfl, hownD, hextD, hnoD⟩; have ED : Ext W9 wD := EC.trans hextD) | (go_at_call_of 13 oC; refine (hdec_at (hownC.sl.old hextD) hownD.sl (by omega) (by omega)).mono ?_; rintro e wE ⟨rfl, hextE⟩; have EE : Ext W9 wE := ED.trans hextE) | (go_at_call 16; refine (cut_calls t p htB.out hpB.out _).mono ?_; rintro e wF ⟨rfl, hextF⟩; have EF : Ext W9 wF := EE.trans hextF) | (go_at_call 17; refine (rcut_calls t p htB.out hpB.out _).mono ?_; rintro e wG ⟨rfl, hextG⟩; have EG : Ext W9 wG := EF.trans hextG))
  go_wp2_with fail
  go_ret
  exact ⟨rfl, HEW.out.trans (E9.out.trans EG)⟩

end Go.Proofs.YtpfhifjkecoahaaGreatDoor
