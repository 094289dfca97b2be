/- gleanlaw10.known: the chapter's examples; the call tells true. -/
import Derived.Test.YtpfhifjkecoahaaGreatDoorKnown0
namespace Go.Proofs.YtpfhifjkecoahaaGreatDoor
open Go.RowKit Go.Lib

theorem bit_facts {w10 WB : World} {v : Value} (hWB : ((w10.alloc (.cells #[v] 26)).alloc (.cells #[.int .u64 1] 22)).alloc (.cells #[.slice (some ⟨w10.heap.size + 1, 0, none⟩) 1 1] 26) = WB) :
    Ext w10 WB ∧ ∀ w', Ext WB w' → Sl w' (some ⟨w10.heap.size + 1, 0, none⟩) 1 1 [1] ∧ w'.heap[w10.heap.size + 1 + 1]? = some (.cells #[.slice (some ⟨w10.heap.size + 1, 0, none⟩) 1 1] 26 (0, 0)) ∧ w'.heap[w10.heap.size]? = some (.cells #[v] 26 (0, 0)) := by
  refine ⟨by rw [← hWB]; exact (((Ext.refl _).alloc _).alloc _).alloc _, fun w' h => ?_⟩
  rw [← hWB] at h
  have e1 : (w10.alloc (.cells #[v] 26)).heap.size = w10.heap.size + 1 := alloc_size _ _
  have e2 : ((w10.alloc (.cells #[v] 26)).alloc (.cells #[.int .u64 1] 22)).heap.size = w10.heap.size + 1 + 1 := by rw [alloc_size, e1]
  refine ⟨?_, ?_, row_new ((((Ext.refl _).alloc _).alloc _).trans h)⟩
  · have := own_lit 0 (w10.alloc (.cells #[v] 26)) 1 (by decide) (Nat.zero_le _)
    rw [e1] at this
    exact (this.sl.old ((Ext.refl _).alloc _)).old h
  · have := row_new h
    rwa [e2] at this

set_option maxHeartbeats 8000000 in
set_option maxRecDepth 100000 in
theorem known_calls (w : World) (ht : Tab w) : Calls Tryz.prog 5 #[] w (RetE (.bool true) w) := by
  have HTAB := Lib.hid ht
  clear ht
  go_enter Tryz.func5, Tryz.ntmps5
  go_wp2_with fail
  refine (issue_at 0 5 0 _ _ (Sl.nil _) (by omega) rfl k_a.2 k_a.1 (by decide) (by decide)).mono ?_
  rintro e w1 ⟨oa, na, ca, rfl, hown1, hext1, hno1⟩
  have HA1 := Lib.hid hown1.sl
  have E1 := Lib.hid hext1
  clear hown1 hext1
  go_wp2_with fail
  refine (dof_calls 3 (by decide) _).mono ?_
  rintro e w2 ⟨o2, n2, c2, rfl, hown2, hext2, hno2⟩
  have HA2 := Lib.hid (HA1.out.old (((Ext.refl _).alloc _).trans hext2))
  have RA2 := Lib.hid (row_new hext2)
  have E2 := Lib.hid ((E1.out.alloc _).trans hext2)
  have S2 := Lib.hid hown2.sl
  clear hown2 hext2
  go_wp2_with fail
  refine (issue_at 2 5 (3 * U36) _ _ S2.out (by omega) (val_lim _) k_b.2 k_b.1 (by decide) (by decide)).mono ?_
  rintro e w3 ⟨ob, nb, cb, rfl, hown3, hext3, hno3⟩
  have HA3 := Lib.hid (HA2.out.old hext3)
  have RA3 := Lib.hid (row_ext hext3 RA2.out)
  have E3 := Lib.hid (E2.out.trans hext3)
  have HB3 := Lib.hid hown3.sl
  clear hown3 hext3
  go_wp2_with fail
  refine (dof_calls 1 (by decide) _).mono ?_
  rintro e w4 ⟨o4, n4, c4, rfl, hown4, hext4, hno4⟩
  have X4 := Lib.hid (((Ext.refl w3).alloc _).trans hext4)
  have HA4 := Lib.hid (HA3.out.old X4.out)
  have RA4 := Lib.hid (row_ext X4.out RA3.out)
  have HB4 := Lib.hid (HB3.out.old X4.out)
  have RB4 := Lib.hid (row_new hext4)
  have E4 := Lib.hid (E3.out.trans X4.out)
  have S4 := Lib.hid hown4.sl
  clear hown4 hext4
  go_wp2_with fail
  refine (issue_at 0 5 (1 * U36) _ _ S4.out (by omega) (val_lim _) k_g.2 k_g.1 (by decide) (by decide)).mono ?_
  rintro e w5 ⟨o5, n5, c5, rfl, hown5, hext5, hno5⟩
  have HA5 := Lib.hid (HA4.out.old hext5)
  have RA5 := Lib.hid (row_ext hext5 RA4.out)
  have HB5 := Lib.hid (HB4.out.old hext5)
  have RB5 := Lib.hid (row_ext hext5 RB4.out)
  have E5 := Lib.hid (E4.out.trans hext5)
  clear hown5 hext5
  go_wp2_with fail
  refine (dof_calls 4 (by decide) _).mono ?_
  rintro e w6 ⟨o6, n6, c6, rfl, hown6, hext6, hno6⟩
  have X6 := Lib.hid (((Ext.refl w5).alloc _).trans hext6)
  have HA6 := Lib.hid (HA5.out.old X6.out)
  have RA6 := Lib.hid (row_ext X6.out RA5.out)
  have HB6 := Lib.hid (HB5.out.old X6.out)
  have RB6 := Lib.hid (row_ext X6.out RB5.out)
  have E6 := Lib.hid (E5.out.trans X6.out)
  have S6 := Lib.hid hown6.sl
  clear hown6 hext6
  go_wp2_with fail
  refine (dof_calls 1 (by decide) _).mono ?_
  rintro e w7 ⟨o7, n7, c7, rfl, hown7, hext7, hno7⟩
  have HA7 := Lib.hid (HA6.out.old hext7)
  have RA7 := Lib.hid (row_ext hext7 RA6.out)
  have HB7 := Lib.hid (HB6.out.old hext7)
  have RB7 := Lib.hid (row_ext hext7 RB6.out)
  have E7 := Lib.hid (E6.out.trans hext7)
  have S6' := Lib.hid (S6.out.old hext7)
  have S7 := Lib.hid hown7.sl
  clear hown7 hext7
  go_wp2_with fail
  refine (redeem_at 10 (4 * U36) (1 * U36) _ _ S6'.out S7.out (by omega) (by omega) (val_lim _) (val_lim _) k_c.2 k_c.1 (by decide)).mono ?_
  rintro e w8 ⟨rfl, hext8⟩
  have HA8 := Lib.hid (HA7.out.old hext8)
  have RA8 := Lib.hid (row_ext hext8 RA7.out)
  have HB8 := Lib.hid (HB7.out.old hext8)
  have RB8 := Lib.hid (row_ext hext8 RB7.out)
  have E8 := Lib.hid (E7.out.trans hext8)
  clear hext8
  go_wp2_with fail
  refine (dof_calls 4 (by decide) _).mono ?_
  rintro e w9 ⟨o9, n9, c9, rfl, hown9, hext9, hno9⟩
  have HA9 := Lib.hid (HA8.out.old hext9)
  have RA9 := Lib.hid (row_ext hext9 RA8.out)
  have HB9 := Lib.hid (HB8.out.old hext9)
  have RB9 := Lib.hid (row_ext hext9 RB8.out)
  have E9 := Lib.hid (E8.out.trans hext9)
  have S9 := Lib.hid hown9.sl
  clear hown9 hext9
  go_wp2_with fail
  refine (need_at 10 3 (4 * U36) _ _ S9.out (by omega) (val_lim _) k_d.2 k_d.1 (by decide) (by decide)).mono ?_
  rintro e w10 ⟨od, nd, cd, rfl, hown10, hext10, hno10⟩
  have HA10 := Lib.hid (HA9.out.old hext10)
  have RA10 := Lib.hid (row_ext hext10 RA9.out)
  have HB10 := Lib.hid (HB9.out.old hext10)
  have RB10 := Lib.hid (row_ext hext10 RB9.out)
  have E10 := Lib.hid (E9.out.trans hext10)
  have HD10 := Lib.hid hown10.sl
  clear hown10 hext10
  go_wp2_with fail
  obtain ⟨WB, hWB⟩ : ∃ WB, ((w10.alloc (.cells #[.slice od nd cd] 26)).alloc (.cells #[.int .u64 1] 22)).alloc (.cells #[.slice (some ⟨w10.heap.size + 1, 0, none⟩) 1 1] 26) = WB := ⟨_, rfl⟩
  rw [hWB]
  have HBIT := Lib.hid (bit_facts hWB).2
  have EB := Lib.hid (bit_facts hWB).1
  clear hWB
  refine (redeem_at 5 1 1 _ _ (HBIT.out _ (Ext.refl _)).1 (HBIT.out _ (Ext.refl _)).1 (by omega) (by omega) rfl rfl k_o.2 k_o.1 (by decide)).mono ?_
  rintro e w11 ⟨rfl, hext11⟩
  have X11 := Lib.hid hext11
  have k11 := row_cell (HBIT.out _ hext11).2.1
  have B11 := Lib.hid (HBIT.out _ hext11).1
  clear hext11
  go_wp2_with fail
  refine (need_at 1 2 1 _ _ B11.out (by omega) rfl k_k.2 k_k.1 (by decide) (by decide)).mono ?_
  rintro e w12 ⟨o12, n12, c12, rfl, hown12, hext12, hno12⟩
  have X12 := Lib.hid (X11.out.trans hext12)
  clear k11 hown12 hext12
  go_wp2_with fail
  refine (pow10_in 90 (by omega) _).mono ?_
  rintro e w13 ⟨o13, n13, c13, rfl, hown13, hext13, hno13⟩
  have X13 := Lib.hid ((X12.out.alloc _).trans hext13)
  have S13 := Lib.hid hown13.sl
  clear hown13 hext13
  go_wp2_with fail
  refine (issue_at 1 1 (10 ^ 90) _ _ S13.out (by omega) (val_lim _) k_l.2 k_l.1 (by decide) (by decide)).mono ?_
  rintro e w14 ⟨o14, n14, c14, rfl, hown14, hext14, hno14⟩
  obtain ⟨W14, hW14⟩ : ∃ W14, w14.alloc (.cells #[.slice o14 n14 c14] 26) = W14 := ⟨_, rfl⟩
  have X14 := Lib.hid (show Ext w10 W14 by rw [← hW14]; exact (EB.out.trans (X13.out.trans hext14)).alloc _)
  have HD14 := Lib.hid (show W14.heap[w10.heap.size]? = some (.cells #[.slice od nd cd] 26 (0, 0)) by rw [← hW14]; exact (HBIT.out _ ((X13.out.trans hext14).alloc _)).2.2)
  have HW14 := Lib.hid hW14
  have RA14 := Lib.hid (row_ext X14.out RA10.out)
  have RB14 := Lib.hid (row_ext X14.out RB10.out)
  have k1 := row_cell RA14.out
  have E14 := Lib.hid (E10.out.trans X14.out)
  have TX := Lib.hid (dtext_at (5 * U36) _ (HA10.out.old X14.out) (by omega) (HTAB.out.old E14.out) (val_lim _) k_ta)
  clear hown14 hext14 hW14
  go_wp2_with (rw [HW14.out])
  refine TX.out.mono ?_
  rintro e w15 ⟨rfl, hext15⟩
  have k2 := row_cell (row_ext hext15 RB14.out)
  have HD15 := Lib.hid (row_ext hext15 HD14.out)
  have E15 := Lib.hid (E14.out.trans hext15)
  have TX2 := Lib.hid (dtext_at (75 * 10 ^ 35) _ ((HB10.out.old X14.out).old hext15) (by omega) (HTAB.out.old E15.out) (val_lim _) k_tb)
  have X15 := Lib.hid (X14.out.trans hext15)
  clear k1 hext15
  go_wp2_with fail
  refine TX2.out.mono ?_
  rintro e w16 ⟨rfl, hext16⟩
  have k3 := row_cell (row_ext hext16 HD15.out)
  have E16 := Lib.hid (E15.out.trans hext16)
  have TX3 := Lib.hid (dtext_at (12 * 10 ^ 35) _ (HD10.out.old (X15.out.trans hext16)) (by omega) (HTAB.out.old E16.out) (val_lim _) k_td)
  clear k2 hext16
  go_wp2_with fail
  refine TX3.out.mono ?_
  rintro e w17 ⟨rfl, hext17⟩
  have E17 := Lib.hid (E16.out.trans hext17)
  clear k3 hext17
  go_wp2_with fail
  refine (dof_calls 3 (by decide) _).mono ?_
  rintro e w18 ⟨o18, n18, c18, rfl, hown18, hext18, hno18⟩
  have E18 := Lib.hid (E17.out.trans hext18)
  have S18 := Lib.hid hown18.sl
  clear hown18 hext18
  go_wp2_with fail
  refine (dof_calls 1 (by decide) _).mono ?_
  rintro e w19 ⟨o19, n19, c19, rfl, hown19, hext19, hno19⟩
  have E19 := Lib.hid (E18.out.trans hext19)
  have S18' := Lib.hid (S18.out.old hext19)
  have S19 := Lib.hid hown19.sl
  clear hown19 hext19
  go_wp2_with fail
  refine (worth_at 1 (3 * U36) (1 * U36) _ S18'.out S19.out (by omega) (by omega) (val_lim _) (val_lim _) k_w (by decide)).mono ?_
  rintro e w20 ⟨o20, n20, c20, rfl, hown20, hext20, hno20⟩
  have E20 := Lib.hid (E19.out.trans hext20)
  have TX4 := Lib.hid (dtext_at _ _ hown20.sl (by omega) (HTAB.out.old E20.out) (val_lim _) k_tw)
  clear hown20 hext20
  go_wp2_with fail
  refine TX4.out.mono ?_
  rintro e w21 ⟨rfl, hext21⟩
  have E21 := Lib.hid (E20.out.trans hext21)
  clear hext21
  go_wp2_with fail
  refine (cut_at 10 1 0 (by decide) (by decide) (by decide)).mono ?_
  rintro e w22 ⟨rfl, hext22⟩
  have E22 := Lib.hid (E21.out.trans hext22)
  clear hext22
  go_wp2_with fail
  refine (cut_at 10000 20000 10000 (by decide) (by decide) (by decide)).mono ?_
  rintro e w23 ⟨rfl, hext23⟩
  have E23 := Lib.hid (E22.out.trans hext23)
  clear hext23
  go_wp2_with fail
  refine (cut_at 100 500 5 (by decide) (by decide) (by decide)).mono ?_
  rintro e w24 ⟨rfl, hext24⟩
  have E24 := Lib.hid (E23.out.trans hext24)
  clear hext24
  go_wp2_with fail
  go_ret
  exact ⟨rfl, E24.out⟩

end Go.Proofs.YtpfhifjkecoahaaGreatDoor
