
/- gleanlaw24.known is true; when a payment goes on fitting. -/
import Derived.Test.YtimcnhlcepemjaaGreatDoorLedJ
import Derived.Test.YtimcnhlcepemjaaGreatDoorMI

/- What the laws of the ledger share: small fractions, one stake, sizes. -/
namespace Go.Proofs.YtimcnhlcepemjaaGreatDoor
open Go.RowKit

set_option maxHeartbeats 2000000 in
set_option maxRecDepth 100000 in
theorem frac_calls (x y : Nat) (hx : x < B64) (hy : y < B64) (hy0 : y ≠ 0) (w : World) (htz : TzTab w) :
    Calls Tryz.prog 40 #[.int .u64 (x : Int), .int .u64 (y : Int)] w (NewR w 1 1 (lim (rN x y)) (lim (rD x y))) := by
  obtain ⟨X, hX⟩ : ∃ X, w.alloc (.cells #[.slice none 0 0, .slice none 0 0] 40) = X := ⟨_, rfl⟩
  have E0 : Ext w X := by rw [← hX]; exact (Ext.refl w).alloc _
  have hr0 := box2_row (w := w) (w' := X) (u := .slice none 0 0) (v := .slice none 0 0) (T := 40) (by rw [hX]; exact Ext.refl _)
  have hsz : X.heap.size = w.heap.size + 1 := by rw [← hX, alloc_size]
  have HX := Lib.hid hX; have HE0 := Lib.hid E0; have HR0 := Lib.hid hr0; have HSZ := Lib.hid hsz; have HTZ := Lib.hid htz; have HXB := Lib.hid hx; have HYB := Lib.hid hy; have HY0 := Lib.hid hy0
  clear hX E0 hr0 hsz htz hx hy hy0
  go_enter Tryz.func40, Tryz.ntmps40
  go_wp2_with (rw [HX.out])
  refine (of_calls x HXB.out _).mono ?_
  rintro e w1 ⟨o1, n1, c1, rfl, hown1, hext1, hno1⟩
  go_wp2_with fail
  refine (of_calls y HYB.out _).mono ?_
  rintro e w2 ⟨o2, n2, c2, rfl, hown2, hext2, hno2⟩
  have CO := rof_calls (hown1.sl.old hext2) hown2.sl (by omega) (by omega) (HTZ.out.old (HE0.out.trans (hext1.trans hext2))) (by rw [val_lim]; exact HY0.out)
  rw [val_lim, val_lim] at CO
  have HCO := Lib.hid CO; have HE2 := Lib.hid (hext1.trans hext2)
  clear CO hown1 hown2 hext1 hext2
  go_wp2_with fail
  refine HCO.out.mono ?_
  rintro e w3 ⟨a1, m1, d1, b1, m2, d2, rfl, hown3, hown4, hext3, hm1, hm2⟩
  have HRW := Lib.hid (rowE ((HE2.out.trans hext3).alloc (.cells #[.slice a1 m1 d1, .slice b1 m2 d2] 40)) HR0.out)
  obtain ⟨k1, k2, k3, k4⟩ := row2_cells HRW.out
  have hs := HSZ.out
  have hs2 := HE2.out.size
  have HO3 := Lib.hid (((hown3.old ((Ext.refl _).alloc (.cells #[.slice a1 m1 d1, .slice b1 m2 d2] 40))).set2 (.slice a1 m1 d1) (.slice b1 m2 d2) (by omega : w.heap.size < w2.heap.size)).mono (by omega : w.heap.size ≤ w2.heap.size))
  have HO4 := Lib.hid (((hown4.old ((Ext.refl _).alloc (.cells #[.slice a1 m1 d1, .slice b1 m2 d2] 40))).set2 (.slice a1 m1 d1) (.slice b1 m2 d2) (by omega : w.heap.size < w2.heap.size)).mono (by omega : w.heap.size ≤ w2.heap.size))
  have HEF := Lib.hid (set2_ext ((HE0.out.trans (HE2.out.trans hext3)).alloc (.cells #[.slice a1 m1 d1, .slice b1 m2 d2] 40)) (Nat.le_refl _) (.slice a1 m1 d1) (.slice b1 m2 d2))
  clear hown3 hown4 hext3
  go_wp2_with fail
  try simp only [Exit.inBlock, Exit.then]
  refine bodyPost_ret (results_box1 rfl _ _ _ _ rfl (load_rat (set2_row HRW.out _ _))) rfl ?_
  exact ⟨_, _, _, _, _, _, rfl, HO3.out, HO4.out, HEF.out, by omega, by omega⟩

theorem frac_q (x y : Nat) (q : Nat × Nat) (hx : x < B64) (hy : y < B64) (hy0 : y ≠ 0) (hq : (rN x y, rD x y) = q) (w : World) (htz : TzTab w) :
    Calls Tryz.prog 40 #[.int .u64 (x : Int), .int .u64 (y : Int)] w (NewQ w q) := by
  rw [← hq]
  exact (frac_calls x y hx hy hy0 w htz).mono fun _ _ h => h.q
theorem MaxL.lk {w w' : World} (h : MaxL w) (L : Lk w w') : MaxL w' := by
  obtain ⟨m, hm⟩ := h
  exact ⟨m, L.cell hm⟩
theorem sz_le {q : Nat × Nat} {t : Nat} (h0 : 1 ≤ t) (h1 : q.1 < B64 ^ t) (h2 : q.2 < B64 ^ t) : sz q ≤ t := by
  have a := ln_le h1
  have b := ln_le h2
  unfold sz
  omega
/-! One stake alone: that of validator 16 and delegator 17. -/
def One (s : Stk) : Stakes := putM noStakes 16 17 s
theorem one_not (s : Stk) : got (One s) 16 18 = stk0 := rfl
theorem one_all (s : Stk) (f : Stk → Stk) : allM (One s) 16 f = One (f s) := by
  funext v d
  unfold allM One putM
  by_cases h1 : v = 16
  · rw [if_pos h1]
    by_cases h2 : d = 17
    · rw [if_pos ⟨h1, h2⟩, if_pos ⟨h1, h2⟩]; rfl
    · rw [if_neg (fun h => h2 h.2), if_neg (fun h => h2 h.2)]; rfl
  · rw [if_neg h1, if_neg (fun h => h1 h.1), if_neg (fun h => h1 h.1)]
theorem one_put (s t : Stk) : putM (One s) 16 17 t = One t := by
  funext v d
  unfold One putM
  by_cases h : v = 16 ∧ d = 17
  · rw [if_pos h, if_pos h]
  · rw [if_neg h, if_neg h, if_neg h]
theorem one_del (s : Stk) : delM (One s) 16 17 = noStakes := by
  funext v d
  unfold delM One putM
  by_cases h : v = 16 ∧ d = 17
  · rw [if_pos h]
  · rw [if_neg h, if_neg h]
theorem one_is {s : Stk} {v d : Nat} {t : Stk} (h : One s v d = some t) : t = s := by
  unfold One putM at h
  split at h
  · exact (Option.some.inj h).symm
  · cases h
theorem one_dels {s : Stk} {ds : List Nat} (h : Dels (One s) 16 ds) : ds = [17] := by
  have hm : ∀ d, d ∈ ds ↔ d = 17 := fun d => by
    rw [h.2 d]
    unfold One putM
    by_cases e : d = 17
    · subst e
      simp
      decide
    · simp [e]
  match ds, h.1, hm with
  | [], _, hm => exact absurd ((hm 17).2 rfl) (by simp)
  | [a], _, hm => rw [(hm a).1 (by simp)]
  | a :: b :: l, hp, hm =>
    have e1 := (hm a).1 (by simp)
    have e2 := (hm b).1 (by simp)
    have := (List.pairwise_cons.1 hp).1 b (by simp)
    omega
theorem one_settle (s : Stk) : settleM (One s) 16 17 = One ⟨s.h, (0, 0), 0, 0⟩ := by
  show putM (allM (One s) 16 fSettle) 16 17 _ = _
  rw [one_all, one_put]
theorem one_settle_not (s : Stk) : settleM (One s) 16 18 = One (fSettle s) := by
  show allM (One s) 16 fSettle = _
  rw [one_all]
end Go.Proofs.YtimcnhlcepemjaaGreatDoor

/- gleanlaw24.known() is true. -/
namespace Go.Proofs.YtimcnhlcepemjaaGreatDoor
open Go.RowKit Go.Lib

theorem kn_p : decRead [48, 46, 51, 51] = some 330000000000000000000000000000000000 := by decide +kernel
theorem kn_hold : putM noStakes 16 17 (heldStk noStakes 16 17 (val (lim 1000000000000000000000000000000000000)) (val (lim 3000000000000000000000000000000000000)) 10) = One ⟨(10, 3), (0, 0), 0, 0⟩ := by
  rw [val_lim, val_lim]
  unfold One heldStk
  rw [show holdQ 1000000000000000000000000000000000000 3000000000000000000000000000000000000 10 = (10, 3) by decide +kernel]
  rfl
theorem kn_give1 : fGive (quoR (decQ (val (lim 3000000000000000000000000000000000000))) (10, 1)) ⟨(10, 3), (0, 0), 0, 0⟩ = ⟨(10, 3), (1, 1), 0, 0⟩ := by
  rw [val_lim]
  unfold fGive
  rw [show addR (0, 0) (mulR (10, 3) (quoR (decQ 3000000000000000000000000000000000000) (10, 1))) = (1, 1) by decide +kernel]
theorem kn_cut : fCut (quoR (5, 1) (10, 1)) ⟨(10, 3), (1, 1), 0, 0⟩ = ⟨(5, 3), (1, 1), 1, 1⟩ := by
  unfold fCut
  rw [show mulR (10, 3) (quoR (5, 1) (10, 1)) = (5, 3) by decide +kernel, show wrap64 (0 + 1) = 1 by decide +kernel]
theorem kn_s6 : fSettle ⟨(5, 3), (0, 0), 0, 0⟩ = ⟨(5, 3), (0, 0), 1, 0⟩ := by
  unfold fSettle
  rw [show wrap64 (0 + 1) = 1 by decide +kernel]
theorem kn_give2 : fGive (quoR (decQ (val (lim 1000000000000000000000000000000000000))) (5, 1)) ⟨(5, 3), (1, 1), 1, 1⟩ = ⟨(5, 3), (4, 3), 1, 1⟩ := by
  rw [val_lim]
  unfold fGive
  rw [show addR (1, 1) (mulR (5, 3) (quoR (decQ 1000000000000000000000000000000000000) (5, 1))) = (4, 3) by decide +kernel]
theorem kn_fits {f : Nat} {args : Array Value} {w : World} {v : Bool} (r : Bool) (h : Calls Tryz.prog f args w (RetE (.bool v) w)) (e : v = r) : Calls Tryz.prog f args w (RetE (.bool r) w) := by rw [← e]; exact h
theorem kn_f1 : fitsB (4, 3) 1 (val (lim 330000000000000000000000000000000000)) 0 0 = false := by rw [val_lim]; decide +kernel
theorem kn_f2 : fitsB (4, 3) 1 (val (lim 330000000000000000000000000000000000)) 100000000000000000 0 = true := by rw [val_lim]; decide +kernel
theorem kn_f3 : fitsB (1, 2) 1 (val []) 9 9 = false := by decide +kernel

set_option maxHeartbeats 16000000 in
set_option maxRecDepth 100000 in
theorem knownL_calls (w : World) (htz : TzTab w) (hM : MaxL w) : Calls Tryz.prog 9 #[] w (RetE (.bool true) w) := by
  have HTZ := Lib.hid htz; have HM := Lib.hid hM
  clear htz hM
  go_enter Tryz.func9, Tryz.ntmps9
  have C1 := Lib.hid (lnew_calls w)
  go_wp2_with fail
  refine C1.out.mono ?_
  rintro e w1 ⟨p1, b1, rfl, h1, q1, z1, x1⟩
  have HB_l := Lib.hid (Nat.le_trans (Ext.refl _).size z1); have LE1_l := Lib.hid h1; have HC_l := Lib.hid q1; have HBZ_l := Lib.hid z1
  clear h1 q1 z1 C1
  have D1 := Lib.hid (Ext.lk x1)
  have EX1 := Lib.hid x1
  clear x1
  have C2 := Lib.hid (dof_at 1 1000000000000000000000000000000000000 (by decide) (by decide +kernel) w1)
  go_wp2_with fail
  refine C2.out.mono ?_
  rintro e w2 ⟨p2, n2, c2, rfl, o2, x2, l2⟩
  have S2 := Lib.hid o2.sl
  clear o2
  have D2 := Lib.hid (Ext.lk x2)
  have EX2 := Lib.hid (EX1.out.trans x2)
  have LE2_l := Lib.hid (LE1_l.out.old x2)
  clear x2
  clear C2
  have C3 := Lib.hid (dof_at 3 3000000000000000000000000000000000000 (by decide) (by decide +kernel) w2)
  go_wp2_with fail
  refine C3.out.mono ?_
  rintro e w3 ⟨p3, n3, c3, rfl, o3, x3, l3⟩
  have S3 := Lib.hid o3.sl
  clear o3
  have D3 := Lib.hid (Ext.lk x3)
  have EX3 := Lib.hid (EX2.out.trans x3)
  have LE3_l := Lib.hid (LE2_l.out.old x3)
  clear x3
  clear C3
  have C4 := Lib.hid (lhold_calls LE3_l.out (by decide) ((Lk.trans D2.out D3.out).cell HC_l.out) (v := 16) (d := 17) (by decide) (by decide) (S2.out.lk D3.out) S3.out (by omega) (by omega) (k := 10) (by decide) (N' := 1) (by decide) (HTZ.out.lk (Lk.trans D1.out (Lk.trans D2.out D3.out))))
  go_wp2_with fail
  refine C4.out.mono ?_
  rintro e w4 ⟨rfl, h4, g4⟩
  rw [show putM noStakes 16 17 (heldStk noStakes 16 17 (val (lim 1000000000000000000000000000000000000)) (val (lim 3000000000000000000000000000000000000)) 10) = One ⟨(10, 3), (0, 0), 0, 0⟩ from kn_hold] at h4
  have D4 := Lib.hid (LE3_l.out.isMapB.lk g4)
  have EX4 := Lib.hid (Ext.mx EX3.out HB_l.out g4)
  have LE4_l := Lib.hid h4
  clear g4 h4
  clear C4
  have C5 := Lib.hid (lstake_calls LE4_l.out ((Lk.trans D2.out (Lk.trans D3.out D4.out)).cell HC_l.out) (v := 16) (d := 17) (by decide) (by decide) (Nat.le_trans (sz_le (t := 2) (by decide) (by decide +kernel) (by decide +kernel)) (by decide)) (HTZ.out.lk (Lk.trans D1.out (Lk.trans D2.out (Lk.trans D3.out D4.out)))))
  go_wp2_with fail
  refine C5.out.mono ?_
  rintro e w5 ⟨a5, n5, c5, b5, m5, d5, rfl, r5, h5, g5⟩
  have S5 := Lib.hid r5; clear r5
  have D5 := Lib.hid (LE4_l.out.isMapB.lk g5)
  have EX5 := Lib.hid (Ext.mx EX4.out HB_l.out g5)
  have LE5_l := Lib.hid h5
  clear g5 h5
  clear C5
  rw [show canQ (got (One ⟨(10, 3), (0, 0), 0, 0⟩) 16 17).h = (10, 3) by decide +kernel] at S5
  obtain ⟨V6, hV⟩ : ∃ V, w5.alloc (.cells #[.slice a5 n5 c5, .slice b5 m5 d5] 40) = V := ⟨_, rfl⟩
  have R6 := Lib.hid (show V6.heap[w5.heap.size]? = some (.cells #[.slice a5 n5 c5, .slice b5 m5 d5] 40 (0, 0)) by rw [← hV]; exact heap_alloc_new w5 _)
  have x6 : Ext w5 V6 := by rw [← hV]; exact (Ext.refl _).alloc _
  have HV6 := Lib.hid hV
  clear hV
  have D6 := Lib.hid (Ext.lk x6)
  have EX6 := Lib.hid (EX5.out.trans x6)
  have LE6_l := Lib.hid (LE5_l.out.old x6)
  clear x6
  have C7 := Lib.hid (dof_at 3 3000000000000000000000000000000000000 (by decide) (by decide +kernel) V6)
  go_wp2_with (rw [HV6.out])
  refine C7.out.mono ?_
  rintro e w7 ⟨p7, n7, c7, rfl, o7, x7, l7⟩
  have S7 := Lib.hid o7.sl
  clear o7
  have D7 := Lib.hid (Ext.lk x7)
  have EX7 := Lib.hid (EX6.out.trans x7)
  have LE7_l := Lib.hid (LE6_l.out.old x7)
  clear x7
  clear C7
  have C8 := Lib.hid (lgive_calls (H := 10) (O := 10) LE7_l.out (by decide) ((Lk.trans D2.out (Lk.trans D3.out (Lk.trans D4.out (Lk.trans D5.out (Lk.trans D6.out D7.out))))).cell HC_l.out) (v := 16) (by decide) S7.out (by omega) (t := 10) (by decide) (HTZ.out.lk (Lk.trans D1.out (Lk.trans D2.out (Lk.trans D3.out (Lk.trans D4.out (Lk.trans D5.out (Lk.trans D6.out D7.out))))))) (by decide) (by decide) (fun d s h => by rw [one_is h]; exact ⟨Nat.le_trans (sz_le (t := 2) (by decide) (by decide +kernel) (by decide +kernel)) (by decide), Nat.le_trans (sz_le (t := 2) (by decide) (by decide +kernel) (by decide +kernel)) (by decide)⟩))
  go_wp2_with fail
  refine C8.out.mono ?_
  rintro e w8 ⟨rfl, h8, g8⟩
  rw [one_all, show fGive (quoR (decQ (val (lim 3000000000000000000000000000000000000))) (10, 1)) ⟨(10, 3), (0, 0), 0, 0⟩ = ⟨(10, 3), (1, 1), 0, 0⟩ from kn_give1] at h8
  have D8 := Lib.hid (LE7_l.out.isMapB.lk g8)
  have EX8 := Lib.hid (Ext.mx EX7.out HB_l.out g8)
  have LE8_l := Lib.hid h8
  clear g8 h8
  clear C8
  have C9 := Lib.hid (lowed_calls LE8_l.out ((Lk.trans D2.out (Lk.trans D3.out (Lk.trans D4.out (Lk.trans D5.out (Lk.trans D6.out (Lk.trans D7.out D8.out)))))).cell HC_l.out) (v := 16) (d := 17) (by decide) (by decide) (Nat.le_trans (sz_le (t := 2) (by decide) (by decide +kernel) (by decide +kernel)) (by decide)) (HTZ.out.lk (Lk.trans D1.out (Lk.trans D2.out (Lk.trans D3.out (Lk.trans D4.out (Lk.trans D5.out (Lk.trans D6.out (Lk.trans D7.out D8.out)))))))))
  go_wp2_with fail
  refine C9.out.mono ?_
  rintro e w9 ⟨a9, n9, c9, b9, m9, d9, rfl, r9, h9, g9⟩
  have S9 := Lib.hid r9; clear r9
  have D9 := Lib.hid (LE8_l.out.isMapB.lk g9)
  have EX9 := Lib.hid (Ext.mx EX8.out HB_l.out g9)
  have LE9_l := Lib.hid h9
  clear g9 h9
  clear C9
  rw [show canQ (got (One ⟨(10, 3), (1, 1), 0, 0⟩) 16 17).o = (1, 1) by decide +kernel] at S9
  obtain ⟨V10, hV⟩ : ∃ V, w9.alloc (.cells #[.slice a9 n9 c9, .slice b9 m9 d9] 40) = V := ⟨_, rfl⟩
  have R10 := Lib.hid (show V10.heap[w9.heap.size]? = some (.cells #[.slice a9 n9 c9, .slice b9 m9 d9] 40 (0, 0)) by rw [← hV]; exact heap_alloc_new w9 _)
  have x10 : Ext w9 V10 := by rw [← hV]; exact (Ext.refl _).alloc _
  have HV10 := Lib.hid hV
  clear hV
  have D10 := Lib.hid (Ext.lk x10)
  have EX10 := Lib.hid (EX9.out.trans x10)
  have LE10_l := Lib.hid (LE9_l.out.old x10)
  clear x10
  have C11 := Lib.hid (lcut_calls (H := 10) (O := 10) LE10_l.out (by decide) ((Lk.trans D2.out (Lk.trans D3.out (Lk.trans D4.out (Lk.trans D5.out (Lk.trans D6.out (Lk.trans D7.out (Lk.trans D8.out (Lk.trans D9.out D10.out)))))))).cell HC_l.out) (v := 16) (by decide) (t := 10) (u := 5) (by decide) (by decide) (HTZ.out.lk (Lk.trans D1.out (Lk.trans D2.out (Lk.trans D3.out (Lk.trans D4.out (Lk.trans D5.out (Lk.trans D6.out (Lk.trans D7.out (Lk.trans D8.out (Lk.trans D9.out D10.out)))))))))) (by decide) (fun d s h => by rw [one_is h]; exact ⟨Nat.le_trans (sz_le (t := 2) (by decide) (by decide +kernel) (by decide +kernel)) (by decide), Nat.le_trans (sz_le (t := 2) (by decide) (by decide +kernel) (by decide +kernel)) (by decide)⟩))
  go_wp2_with (rw [HV10.out])
  refine C11.out.mono ?_
  rintro e w11 ⟨rfl, h11, g11⟩
  rw [one_all, show fCut (quoR (5, 1) (10, 1)) ⟨(10, 3), (1, 1), 0, 0⟩ = ⟨(5, 3), (1, 1), 1, 1⟩ from kn_cut] at h11
  have D11 := Lib.hid (LE10_l.out.isMapB.lk g11)
  have EX11 := Lib.hid (Ext.mx EX10.out HB_l.out g11)
  have LE11_l := Lib.hid h11
  clear g11 h11
  clear C11
  have C12 := Lib.hid (dof_at 1 1000000000000000000000000000000000000 (by decide) (by decide +kernel) w11)
  go_wp2_with fail
  refine C12.out.mono ?_
  rintro e w12 ⟨p12, n12, c12, rfl, o12, x12, l12⟩
  have S12 := Lib.hid o12.sl
  clear o12
  have D12 := Lib.hid (Ext.lk x12)
  have EX12 := Lib.hid (EX11.out.trans x12)
  have LE12_l := Lib.hid (LE11_l.out.old x12)
  clear x12
  clear C12
  have C13 := Lib.hid (lgive_calls (H := 10) (O := 10) LE12_l.out (by decide) ((Lk.trans D2.out (Lk.trans D3.out (Lk.trans D4.out (Lk.trans D5.out (Lk.trans D6.out (Lk.trans D7.out (Lk.trans D8.out (Lk.trans D9.out (Lk.trans D10.out (Lk.trans D11.out D12.out)))))))))).cell HC_l.out) (v := 16) (by decide) S12.out (by omega) (t := 5) (by decide) (HTZ.out.lk (Lk.trans D1.out (Lk.trans D2.out (Lk.trans D3.out (Lk.trans D4.out (Lk.trans D5.out (Lk.trans D6.out (Lk.trans D7.out (Lk.trans D8.out (Lk.trans D9.out (Lk.trans D10.out (Lk.trans D11.out D12.out)))))))))))) (by decide) (by decide) (fun d s h => by rw [one_is h]; exact ⟨Nat.le_trans (sz_le (t := 2) (by decide) (by decide +kernel) (by decide +kernel)) (by decide), Nat.le_trans (sz_le (t := 2) (by decide) (by decide +kernel) (by decide +kernel)) (by decide)⟩))
  go_wp2_with fail
  refine C13.out.mono ?_
  rintro e w13 ⟨rfl, h13, g13⟩
  rw [one_all, show fGive (quoR (decQ (val (lim 1000000000000000000000000000000000000))) (5, 1)) ⟨(5, 3), (1, 1), 1, 1⟩ = ⟨(5, 3), (4, 3), 1, 1⟩ from kn_give2] at h13
  have D13 := Lib.hid (LE12_l.out.isMapB.lk g13)
  have EX13 := Lib.hid (Ext.mx EX12.out HB_l.out g13)
  have LE13_l := Lib.hid h13
  clear g13 h13
  clear C13
  have C14 := Lib.hid (lsettle_calls LE13_l.out (by decide) ((Lk.trans D2.out (Lk.trans D3.out (Lk.trans D4.out (Lk.trans D5.out (Lk.trans D6.out (Lk.trans D7.out (Lk.trans D8.out (Lk.trans D9.out (Lk.trans D10.out (Lk.trans D11.out (Lk.trans D12.out D13.out))))))))))).cell HC_l.out) (v := 16) (d := 17) (by decide) (by decide) (Nat.le_trans (sz_le (t := 2) (by decide) (by decide +kernel) (by decide +kernel)) (by decide)) (HTZ.out.lk (Lk.trans D1.out (Lk.trans D2.out (Lk.trans D3.out (Lk.trans D4.out (Lk.trans D5.out (Lk.trans D6.out (Lk.trans D7.out (Lk.trans D8.out (Lk.trans D9.out (Lk.trans D10.out (Lk.trans D11.out (Lk.trans D12.out D13.out))))))))))))))
  go_wp2_with fail
  refine C14.out.mono ?_
  rintro e w14 ⟨a14, n14, c14, b14, m14, d14, rfl, r14, h14, g14⟩
  rw [one_settle] at h14
  have S14 := Lib.hid r14; clear r14
  have D14 := Lib.hid (LE13_l.out.isMapB.lk g14)
  have EX14 := Lib.hid (Ext.mx EX13.out HB_l.out g14)
  have LE14_l := Lib.hid h14
  clear g14 h14
  clear C14
  rw [show canQ (got (One ⟨(5, 3), (4, 3), 1, 1⟩) 16 17).o = (4, 3) by decide +kernel] at S14
  have kp1 : settleP (One ⟨(5, 3), (4, 3), 1, 1⟩) 16 17 = 2 := by decide +kernel
  have kk1 : (got (One ⟨(5, 3), (4, 3), 1, 1⟩) 16 17).k = 1 := rfl
  obtain ⟨V15, hV⟩ : ∃ V, w14.alloc (.cells #[.slice a14 n14 c14, .slice b14 m14 d14] 40) = V := ⟨_, rfl⟩
  have R15 := Lib.hid (show V15.heap[w14.heap.size]? = some (.cells #[.slice a14 n14 c14, .slice b14 m14 d14] 40 (0, 0)) by rw [← hV]; exact heap_alloc_new w14 _)
  have x15 : Ext w14 V15 := by rw [← hV]; exact (Ext.refl _).alloc _
  have HV15 := Lib.hid hV
  clear hV
  have D15 := Lib.hid (Ext.lk x15)
  have EX15 := Lib.hid (EX14.out.trans x15)
  have LE15_l := Lib.hid (LE14_l.out.old x15)
  clear x15
  go_wp2_with (rw [HV15.out])
  clear kp1 kk1
  have C16 := Lib.hid (lsettle_calls LE15_l.out (by decide) ((Lk.trans D2.out (Lk.trans D3.out (Lk.trans D4.out (Lk.trans D5.out (Lk.trans D6.out (Lk.trans D7.out (Lk.trans D8.out (Lk.trans D9.out (Lk.trans D10.out (Lk.trans D11.out (Lk.trans D12.out (Lk.trans D13.out (Lk.trans D14.out D15.out))))))))))))).cell HC_l.out) (v := 16) (d := 18) (by decide) (by decide) (by rw [one_not]; exact Nat.le_trans (sz_le (t := 2) (by decide) (by decide +kernel) (by decide +kernel)) (by decide)) (HTZ.out.lk (Lk.trans D1.out (Lk.trans D2.out (Lk.trans D3.out (Lk.trans D4.out (Lk.trans D5.out (Lk.trans D6.out (Lk.trans D7.out (Lk.trans D8.out (Lk.trans D9.out (Lk.trans D10.out (Lk.trans D11.out (Lk.trans D12.out (Lk.trans D13.out (Lk.trans D14.out D15.out))))))))))))))))
  go_wp2_with fail
  refine C16.out.mono ?_
  rintro e w16 ⟨a16, n16, c16, b16, m16, d16, rfl, r16, h16, g16⟩
  rw [one_settle_not, show fSettle ⟨(5, 3), (0, 0), 0, 0⟩ = ⟨(5, 3), (0, 0), 1, 0⟩ from kn_s6] at h16
  have S16 := Lib.hid r16; clear r16
  have D16 := Lib.hid (LE15_l.out.isMapB.lk g16)
  have EX16 := Lib.hid (Ext.mx EX15.out HB_l.out g16)
  have LE16_l := Lib.hid h16
  clear g16 h16
  clear C16
  rw [show canQ (got (One ⟨(5, 3), (0, 0), 0, 0⟩) 16 18).o = (0, 1) by decide +kernel] at S16
  have kp1 : settleP (One ⟨(5, 3), (0, 0), 0, 0⟩) 16 18 = 0 := rfl
  have kk1 : (got (One ⟨(5, 3), (0, 0), 0, 0⟩) 16 18).k = 0 := rfl
  obtain ⟨V17, hV⟩ : ∃ V, w16.alloc (.cells #[.slice a16 n16 c16, .slice b16 m16 d16] 40) = V := ⟨_, rfl⟩
  have R17 := Lib.hid (show V17.heap[w16.heap.size]? = some (.cells #[.slice a16 n16 c16, .slice b16 m16 d16] 40 (0, 0)) by rw [← hV]; exact heap_alloc_new w16 _)
  have x17 : Ext w16 V17 := by rw [← hV]; exact (Ext.refl _).alloc _
  have HV17 := Lib.hid hV
  clear hV
  have D17 := Lib.hid (Ext.lk x17)
  have EX17 := Lib.hid (EX16.out.trans x17)
  have LE17_l := Lib.hid (LE16_l.out.old x17)
  clear x17
  go_wp2_with (rw [HV17.out])
  clear kp1 kk1
  have C18 := Lib.hid (dparse_at [48, 46, 51, 51] 330000000000000000000000000000000000 (by decide) kn_p (HM.out.lk (Lk.trans D1.out (Lk.trans D2.out (Lk.trans D3.out (Lk.trans D4.out (Lk.trans D5.out (Lk.trans D6.out (Lk.trans D7.out (Lk.trans D8.out (Lk.trans D9.out (Lk.trans D10.out (Lk.trans D11.out (Lk.trans D12.out (Lk.trans D13.out (Lk.trans D14.out (Lk.trans D15.out (Lk.trans D16.out D17.out))))))))))))))))))
  go_wp2_with fail
  refine C18.out.mono ?_
  rintro e w18 ⟨p18, n18, c18, rfl, o18, x18, l18⟩
  have S18 := Lib.hid o18.sl
  clear o18
  have D18 := Lib.hid (Ext.lk x18)
  have EX18 := Lib.hid (EX17.out.trans x18)
  have LE18_l := Lib.hid (LE17_l.out.old x18)
  clear x18
  clear C18
  obtain ⟨V19, hV⟩ : ∃ V, w18.alloc (.cells #[.slice p18 n18 c18] 35) = V := ⟨_, rfl⟩
  have R19 := Lib.hid (show V19.heap[w18.heap.size]? = some (.cells #[.slice p18 n18 c18] 35 (0, 0)) by rw [← hV]; exact heap_alloc_new w18 _)
  have x19 : Ext w18 V19 := by rw [← hV]; exact (Ext.refl _).alloc _
  have HV19 := Lib.hid hV
  clear hV
  have D19 := Lib.hid (Ext.lk x19)
  have EX19 := Lib.hid (EX18.out.trans x19)
  have LE19_l := Lib.hid (LE18_l.out.old x19)
  clear x19
  have B1_0 := Lib.hid (S5.out.lk (Lk.trans D6.out (Lk.trans D7.out (Lk.trans D8.out (Lk.trans D9.out (Lk.trans D10.out (Lk.trans D11.out (Lk.trans D12.out (Lk.trans D13.out (Lk.trans D14.out (Lk.trans D15.out (Lk.trans D16.out (Lk.trans D17.out (Lk.trans D18.out D19.out))))))))))))))
  have B1_1 := Lib.hid (S9.out.lk (Lk.trans D10.out (Lk.trans D11.out (Lk.trans D12.out (Lk.trans D13.out (Lk.trans D14.out (Lk.trans D15.out (Lk.trans D16.out (Lk.trans D17.out (Lk.trans D18.out D19.out))))))))))
  have B1_2 := Lib.hid (S14.out.lk (Lk.trans D15.out (Lk.trans D16.out (Lk.trans D17.out (Lk.trans D18.out D19.out)))))
  have B1_3 := Lib.hid (S16.out.lk (Lk.trans D17.out (Lk.trans D18.out D19.out)))
  have B1_4 := Lib.hid (S18.out.lk D19.out)
  have BR1_s := Lib.hid (rowK (Lk.trans D7.out (Lk.trans D8.out (Lk.trans D9.out (Lk.trans D10.out (Lk.trans D11.out (Lk.trans D12.out (Lk.trans D13.out (Lk.trans D14.out (Lk.trans D15.out (Lk.trans D16.out (Lk.trans D17.out (Lk.trans D18.out D19.out)))))))))))) R6.out)
  have BR1_o := Lib.hid (rowK (Lk.trans D11.out (Lk.trans D12.out (Lk.trans D13.out (Lk.trans D14.out (Lk.trans D15.out (Lk.trans D16.out (Lk.trans D17.out (Lk.trans D18.out D19.out)))))))) R10.out)
  have BR1_e := Lib.hid (rowK (Lk.trans D16.out (Lk.trans D17.out (Lk.trans D18.out D19.out))) R15.out)
  have BR1_x := Lib.hid (rowK (Lk.trans D18.out D19.out) R17.out)
  have BC1_l := Lib.hid ((Lk.trans D2.out (Lk.trans D3.out (Lk.trans D4.out (Lk.trans D5.out (Lk.trans D6.out (Lk.trans D7.out (Lk.trans D8.out (Lk.trans D9.out (Lk.trans D10.out (Lk.trans D11.out (Lk.trans D12.out (Lk.trans D13.out (Lk.trans D14.out (Lk.trans D15.out (Lk.trans D16.out (Lk.trans D17.out (Lk.trans D18.out D19.out))))))))))))))))).cell HC_l.out)
  have HTZ1 := Lib.hid (HTZ.out.lk (Lk.trans D1.out (Lk.trans D2.out (Lk.trans D3.out (Lk.trans D4.out (Lk.trans D5.out (Lk.trans D6.out (Lk.trans D7.out (Lk.trans D8.out (Lk.trans D9.out (Lk.trans D10.out (Lk.trans D11.out (Lk.trans D12.out (Lk.trans D13.out (Lk.trans D14.out (Lk.trans D15.out (Lk.trans D16.out (Lk.trans D17.out (Lk.trans D18.out D19.out))))))))))))))))))); clear HTZ; have HTZ := HTZ1; clear HTZ1
  have HM1 := Lib.hid (HM.out.lk (Lk.trans D1.out (Lk.trans D2.out (Lk.trans D3.out (Lk.trans D4.out (Lk.trans D5.out (Lk.trans D6.out (Lk.trans D7.out (Lk.trans D8.out (Lk.trans D9.out (Lk.trans D10.out (Lk.trans D11.out (Lk.trans D12.out (Lk.trans D13.out (Lk.trans D14.out (Lk.trans D15.out (Lk.trans D16.out (Lk.trans D17.out (Lk.trans D18.out D19.out))))))))))))))))))); clear HM; have HM := HM1; clear HM1
  clear D1 D2 D3 D4 D5 D6 D7 D8 D9 D10 D11 D12 D13 D14 D15 D16 D17 D18 D19
  clear EX1 EX2 EX3 EX4 EX5 EX6 EX7 EX8 EX9 EX10 EX11 EX12 EX13 EX14 EX15 EX16 EX17 EX18
  clear LE1_l LE2_l LE3_l LE4_l LE5_l LE6_l LE7_l LE8_l LE9_l LE10_l LE11_l LE12_l LE13_l LE14_l LE15_l LE16_l LE17_l LE18_l
  have H20 : Hid (∀ w', Lk V19 w' → w'.cell? ⟨w5.heap.size, 0, none⟩ = some (.slice a5 n5 c5) ∧ w'.cell? ⟨w5.heap.size, 1, none⟩ = some (.slice b5 m5 d5) ∧ w'.cell? ⟨w9.heap.size, 0, none⟩ = some (.slice a9 n9 c9) ∧ w'.cell? ⟨w9.heap.size, 1, none⟩ = some (.slice b9 m9 d9) ∧ w'.cell? ⟨w14.heap.size, 0, none⟩ = some (.slice a14 n14 c14) ∧ w'.cell? ⟨w14.heap.size, 1, none⟩ = some (.slice b14 m14 d14) ∧ w'.cell? ⟨w16.heap.size, 0, none⟩ = some (.slice a16 n16 c16) ∧ w'.cell? ⟨w16.heap.size, 1, none⟩ = some (.slice b16 m16 d16)) := Lib.hid (fun w' h => ⟨(row2_cells (rowK h BR1_s.out)).1, (row2_cells (rowK h BR1_s.out)).2.1, (row2_cells (rowK h BR1_o.out)).1, (row2_cells (rowK h BR1_o.out)).2.1, (row2_cells (rowK h BR1_e.out)).1, (row2_cells (rowK h BR1_e.out)).2.1, (row2_cells (rowK h BR1_x.out)).1, (row2_cells (rowK h BR1_x.out)).2.1⟩)
  go_wp2_with (rw [HV19.out])
  go_region_held3 (fun w' => w'.cell? ⟨w5.heap.size, 0, none⟩ = some (.slice a5 n5 c5) ∧ w'.cell? ⟨w5.heap.size, 1, none⟩ = some (.slice b5 m5 d5) ∧ w'.cell? ⟨w9.heap.size, 0, none⟩ = some (.slice a9 n9 c9) ∧ w'.cell? ⟨w9.heap.size, 1, none⟩ = some (.slice b9 m9 d9) ∧ w'.cell? ⟨w14.heap.size, 0, none⟩ = some (.slice a14 n14 c14) ∧ w'.cell? ⟨w14.heap.size, 1, none⟩ = some (.slice b14 m14 d14) ∧ w'.cell? ⟨w16.heap.size, 0, none⟩ = some (.slice a16 n16 c16) ∧ w'.cell? ⟨w16.heap.size, 1, none⟩ = some (.slice b16 m16 d16))
    (first | exact H20.out _ (Ext.refl _).drew.lk | exact H20.out _ (by assumption))
    (first
      | (go_at_call_of 40 (Value.int .u64 0); refine (frac_q 0 1 (0, 1) (by decide) (by decide) (by decide) (by decide +kernel) _ (HTZ.out.lk (by assumption))).mono ?_; rintro e u20_9 ⟨a20_9, n20_9, c20_9, b20_9, m20_9, d20_9, rfl, g20_9, h20_9, x20_9⟩; have r20_9 : RA u20_9 a20_9 n20_9 c20_9 b20_9 m20_9 d20_9 (0, 1) := ⟨g20_9.sl, h20_9.sl⟩; have y20_9 := Ext.lk x20_9; have K20_9 : Lk V19 u20_9 := Lk.trans K20_8 y20_9; have E20_9 := Ext.trans E20_8 x20_9; have M20_9_l := M20_8_l.old x20_9)
      | (go_at_call_of 40 (Value.int .u64 0); refine (frac_q 0 1 (0, 1) (by decide) (by decide) (by decide) (by decide +kernel) _ (HTZ.out.lk (by assumption))).mono ?_; rintro e u20_12 ⟨a20_12, n20_12, c20_12, b20_12, m20_12, d20_12, rfl, g20_12, h20_12, x20_12⟩; have r20_12 : RA u20_12 a20_12 n20_12 c20_12 b20_12 m20_12 d20_12 (0, 1) := ⟨g20_12.sl, h20_12.sl⟩; have y20_12 := Ext.lk x20_12; have K20_12 : Lk V19 u20_12 := Lk.trans K20_11 y20_12; have E20_12 := Ext.trans E20_11 x20_12; have M20_12_l := h20_11.old x20_12)
      | (go_at_call_of 40 (Value.int .u64 10); refine (frac_q 10 3 (10, 3) (by decide) (by decide) (by decide) (by decide +kernel) _ (HTZ.out.lk (Ext.refl V19).drew.lk)).mono ?_; rintro e u20_0 ⟨a20_0, n20_0, c20_0, b20_0, m20_0, d20_0, rfl, g20_0, h20_0, x20_0⟩; have r20_0 : RA u20_0 a20_0 n20_0 c20_0 b20_0 m20_0 d20_0 (10, 3) := ⟨g20_0.sl, h20_0.sl⟩; have y20_0 := Ext.lk x20_0; have K20_0 : Lk V19 u20_0 := Lk.trans (Ext.refl V19).drew.lk y20_0; have E20_0 := Ext.trans (EX19.out.drew) x20_0; have M20_0_l := (LE19_l.out.old (Ext.refl _).drew).old x20_0)
      | (go_at_call_of 16 a5; refine (hrat_q (B1_0.out.lk K20_0) r20_0 (Nat.le_trans (sz_le (t := 2) (by decide) (by decide +kernel) (by decide +kernel)) (by decide)) (Nat.le_trans (sz_le (t := 2) (by decide) (by decide +kernel) (by decide +kernel)) (by decide)) true (decide_eq_true rfl)).mono ?_; rintro e u20_1 ⟨rfl, x20_1⟩; have y20_1 := Ext.lk x20_1; have K20_1 : Lk V19 u20_1 := Lk.trans K20_0 y20_1; have E20_1 := Ext.trans E20_0 x20_1; have M20_1_l := M20_0_l.old x20_1)
      | (go_at_call_of 40 (Value.int .u64 1); refine (frac_q 1 1 (1, 1) (by decide) (by decide) (by decide) (by decide +kernel) _ (HTZ.out.lk (by assumption))).mono ?_; rintro e u20_2 ⟨a20_2, n20_2, c20_2, b20_2, m20_2, d20_2, rfl, g20_2, h20_2, x20_2⟩; have r20_2 : RA u20_2 a20_2 n20_2 c20_2 b20_2 m20_2 d20_2 (1, 1) := ⟨g20_2.sl, h20_2.sl⟩; have y20_2 := Ext.lk x20_2; have K20_2 : Lk V19 u20_2 := Lk.trans K20_1 y20_2; have E20_2 := Ext.trans E20_1 x20_2; have M20_2_l := M20_1_l.old x20_2)
      | (go_at_call_of 16 a9; refine (hrat_q (B1_1.out.lk K20_2) r20_2 (Nat.le_trans (sz_le (t := 2) (by decide) (by decide +kernel) (by decide +kernel)) (by decide)) (Nat.le_trans (sz_le (t := 2) (by decide) (by decide +kernel) (by decide +kernel)) (by decide)) true (decide_eq_true rfl)).mono ?_; rintro e u20_3 ⟨rfl, x20_3⟩; have y20_3 := Ext.lk x20_3; have K20_3 : Lk V19 u20_3 := Lk.trans K20_2 y20_3; have E20_3 := Ext.trans E20_2 x20_3; have M20_3_l := M20_2_l.old x20_3)
      | (go_at_call 27; refine (lstakes_calls (H := 10) M20_3_l (by decide) (K20_3.cell BC1_l.out) (v := 16) (by decide) (HTZ.out.lk K20_3) (by decide) (by decide) (fun d s h => by rw [one_is h]; exact Nat.le_trans (sz_le (t := 2) (by decide) (by decide +kernel) (by decide +kernel)) (by decide))).mono ?_; rintro e u20_4 ⟨ds20_4, hd20_4, a20_4, n20_4, c20_4, b20_4, m20_4, d20_4, rfl, r20_4, h20_4, g20_4⟩; rw [one_dels hd20_4, show [17].foldl (fun a d => uStakes a (got (One ⟨(5, 3), (0, 0), 1, 0⟩) 16 d)) (0, 1) = (5, 3) by decide +kernel] at r20_4; have y20_4 : Lk u20_3 u20_4 := M20_3_l.isMapB.lk g20_4; have K20_4 : Lk V19 u20_4 := Lk.trans K20_3 y20_4; have E20_4 := Ext.mx E20_3 HB_l.out g20_4)
      | (go_at_call_of 40 (Value.int .u64 5); refine (frac_q 5 3 (5, 3) (by decide) (by decide) (by decide) (by decide +kernel) _ (HTZ.out.lk (by assumption))).mono ?_; rintro e u20_5 ⟨a20_5, n20_5, c20_5, b20_5, m20_5, d20_5, rfl, g20_5, h20_5, x20_5⟩; have r20_5 : RA u20_5 a20_5 n20_5 c20_5 b20_5 m20_5 d20_5 (5, 3) := ⟨g20_5.sl, h20_5.sl⟩; have y20_5 := Ext.lk x20_5; have K20_5 : Lk V19 u20_5 := Lk.trans K20_4 y20_5; have E20_5 := Ext.trans E20_4 x20_5; have M20_5_l := h20_4.old x20_5)
      | (go_at_call_of 16 a20_4; refine (hrat_q (r20_4.lk y20_5) r20_5 (Nat.le_trans (sz_le (t := 2) (by decide) (by decide +kernel) (by decide +kernel)) (by decide)) (Nat.le_trans (sz_le (t := 2) (by decide) (by decide +kernel) (by decide +kernel)) (by decide)) true (decide_eq_true rfl)).mono ?_; rintro e u20_6 ⟨rfl, x20_6⟩; have y20_6 := Ext.lk x20_6; have K20_6 : Lk V19 u20_6 := Lk.trans K20_5 y20_6; have E20_6 := Ext.trans E20_5 x20_6; have M20_6_l := M20_5_l.old x20_6)
      | (go_at_call_of 40 (Value.int .u64 4); refine (frac_q 4 3 (4, 3) (by decide) (by decide) (by decide) (by decide +kernel) _ (HTZ.out.lk (by assumption))).mono ?_; rintro e u20_7 ⟨a20_7, n20_7, c20_7, b20_7, m20_7, d20_7, rfl, g20_7, h20_7, x20_7⟩; have r20_7 : RA u20_7 a20_7 n20_7 c20_7 b20_7 m20_7 d20_7 (4, 3) := ⟨g20_7.sl, h20_7.sl⟩; have y20_7 := Ext.lk x20_7; have K20_7 : Lk V19 u20_7 := Lk.trans K20_6 y20_7; have E20_7 := Ext.trans E20_6 x20_7; have M20_7_l := M20_6_l.old x20_7)
      | (go_at_call_of 16 a14; refine (hrat_q (B1_2.out.lk K20_7) r20_7 (Nat.le_trans (sz_le (t := 2) (by decide) (by decide +kernel) (by decide +kernel)) (by decide)) (Nat.le_trans (sz_le (t := 2) (by decide) (by decide +kernel) (by decide +kernel)) (by decide)) true (decide_eq_true rfl)).mono ?_; rintro e u20_8 ⟨rfl, x20_8⟩; have y20_8 := Ext.lk x20_8; have K20_8 : Lk V19 u20_8 := Lk.trans K20_7 y20_8; have E20_8 := Ext.trans E20_7 x20_8; have M20_8_l := M20_7_l.old x20_8)
      | (go_at_call_of 16 a16; refine (hrat_q (B1_3.out.lk K20_9) r20_9 (Nat.le_trans (sz_le (t := 2) (by decide) (by decide +kernel) (by decide +kernel)) (by decide)) (Nat.le_trans (sz_le (t := 2) (by decide) (by decide +kernel) (by decide +kernel)) (by decide)) true (decide_eq_true rfl)).mono ?_; rintro e u20_10 ⟨rfl, x20_10⟩; have y20_10 := Ext.lk x20_10; have K20_10 : Lk V19 u20_10 := Lk.trans K20_9 y20_10; have E20_10 := Ext.trans E20_9 x20_10; have M20_10_l := M20_9_l.old x20_10)
      | (go_at_call 29; refine (lowes_calls (H := 10) M20_10_l (by decide) (K20_10.cell BC1_l.out) (v := 16) (by decide) (HTZ.out.lk K20_10) (by decide) (by decide) (fun d s h => by rw [one_is h]; exact Nat.le_trans (sz_le (t := 2) (by decide) (by decide +kernel) (by decide +kernel)) (by decide))).mono ?_; rintro e u20_11 ⟨ds20_11, hd20_11, a20_11, n20_11, c20_11, b20_11, m20_11, d20_11, rfl, r20_11, h20_11, g20_11⟩; rw [one_dels hd20_11, show [17].foldl (fun a d => uOwes a (got (One ⟨(5, 3), (0, 0), 1, 0⟩) 16 d)) (0, 1) = (0, 1) by decide +kernel] at r20_11; have y20_11 : Lk u20_10 u20_11 := M20_10_l.isMapB.lk g20_11; have K20_11 : Lk V19 u20_11 := Lk.trans K20_10 y20_11; have E20_11 := Ext.mx E20_10 HB_l.out g20_11)
      | (go_at_call_of 16 a20_11; refine (hrat_q (r20_11.lk y20_12) r20_12 (Nat.le_trans (sz_le (t := 2) (by decide) (by decide +kernel) (by decide +kernel)) (by decide)) (Nat.le_trans (sz_le (t := 2) (by decide) (by decide +kernel) (by decide +kernel)) (by decide)) true (decide_eq_true rfl)).mono ?_; rintro e u20_13 ⟨rfl, x20_13⟩; have y20_13 := Ext.lk x20_13; have K20_13 : Lk V19 u20_13 := Lk.trans K20_12 y20_13; have E20_13 := Ext.trans E20_12 x20_13; have M20_13_l := M20_12_l.old x20_13))
  have xk20 := K20_13; have xe20 := E20_13
  have xl20_l := M20_13_l
  clear r20_0 g20_0 h20_0 M20_0_l x20_0 y20_0 K20_0 E20_0 M20_1_l x20_1 y20_1 K20_1 E20_1 r20_2 g20_2 h20_2 M20_2_l x20_2 y20_2 K20_2 E20_2 M20_3_l x20_3 y20_3 K20_3 E20_3 r20_4 h20_4 g20_4 y20_4 K20_4 E20_4 r20_5 g20_5 h20_5 M20_5_l x20_5 y20_5 K20_5 E20_5 M20_6_l x20_6 y20_6 K20_6 E20_6 r20_7 g20_7 h20_7 M20_7_l x20_7 y20_7 K20_7 E20_7 M20_8_l x20_8 y20_8 K20_8 E20_8 r20_9 g20_9 h20_9 M20_9_l x20_9 y20_9 K20_9 E20_9 M20_10_l x20_10 y20_10 K20_10 E20_10 r20_11 h20_11 g20_11 y20_11 K20_11 E20_11 r20_12 g20_12 h20_12 M20_12_l x20_12 y20_12 K20_12 E20_12 M20_13_l x20_13 y20_13 K20_13 E20_13
  have D20 := Lib.hid xk20; have EX20 := Lib.hid xe20; clear xk20 xe20
  have LE20_l := Lib.hid xl20_l; clear xl20_l
  have C21 := Lib.hid (ldrop_calls LE20_l.out (D20.out.cell BC1_l.out) (v := 16) (d := 17) (by decide) (by decide))
  go_wp2_with fail
  refine C21.out.mono ?_
  rintro e w21 ⟨rfl, h21, g21⟩
  rw [one_del] at h21
  have D21 := Lib.hid (LE20_l.out.isMapB.lk g21)
  have EX21 := Lib.hid (Ext.mx EX20.out HB_l.out g21)
  have LE21_l := Lib.hid h21
  clear g21 h21
  clear C21
  have C22 := Lib.hid (lstake_calls LE21_l.out ((Lk.trans D20.out D21.out).cell BC1_l.out) (v := 16) (d := 17) (by decide) (by decide) (Nat.le_trans (sz_le (t := 2) (by decide) (by decide +kernel) (by decide +kernel)) (by decide)) (HTZ.out.lk (Lk.trans D20.out D21.out)))
  go_wp2_with fail
  refine C22.out.mono ?_
  rintro e w22 ⟨a22, n22, c22, b22, m22, d22, rfl, r22, h22, g22⟩
  have S22 := Lib.hid r22; clear r22
  have D22 := Lib.hid (LE21_l.out.isMapB.lk g22)
  have EX22 := Lib.hid (Ext.mx EX21.out HB_l.out g22)
  have LE22_l := Lib.hid h22
  clear g22 h22
  clear C22
  rw [show canQ (got noStakes 16 17).h = (0, 1) by decide +kernel] at S22
  have C23 := Lib.hid (frac_q 0 1 (0, 1) (by decide) (by decide) (by decide) (by decide +kernel) _ (HTZ.out.lk (Lk.trans D20.out (Lk.trans D21.out D22.out))))
  go_wp2_with fail
  refine C23.out.mono ?_
  rintro e w23 ⟨a23, n23, c23, b23, m23, d23, rfl, g23, h23, x23⟩
  have S23 : Hid (RA w23 a23 n23 c23 b23 m23 d23 (0, 1)) := Lib.hid ⟨g23.sl, h23.sl⟩
  clear g23 h23
  have D23 := Lib.hid (Ext.lk x23)
  have EX23 := Lib.hid (EX22.out.trans x23)
  have LE23_l := Lib.hid (LE22_l.out.old x23)
  clear x23
  clear C23
  have C24 := Lib.hid (hrat_q (S22.out.lk D23.out) S23.out (Nat.le_trans (sz_le (t := 2) (by decide) (by decide +kernel) (by decide +kernel)) (by decide)) (Nat.le_trans (sz_le (t := 2) (by decide) (by decide +kernel) (by decide +kernel)) (by decide)) true (decide_eq_true rfl))
  go_wp2_with fail
  refine C24.out.mono ?_
  rintro e w24 ⟨rfl, x24⟩
  have D24 := Lib.hid (Ext.lk x24)
  have EX24 := Lib.hid (EX23.out.trans x24)
  have LE24_l := Lib.hid (LE23_l.out.old x24)
  clear x24
  clear C24
  have je1 := (row2_cells (rowK (Lk.trans D20.out (Lk.trans D21.out (Lk.trans D22.out (Lk.trans D23.out D24.out)))) BR1_e.out)).1; have je2 := (row2_cells (rowK (Lk.trans D20.out (Lk.trans D21.out (Lk.trans D22.out (Lk.trans D23.out D24.out)))) BR1_e.out)).2.1
  have jd := drow_cell (rowK (Lk.trans D20.out (Lk.trans D21.out (Lk.trans D22.out (Lk.trans D23.out D24.out)))) R19.out)
  have C25 := Lib.hid (kn_fits false (lfits_calls (n := 1) (B1_2.out.lk (Lk.trans D20.out (Lk.trans D21.out (Lk.trans D22.out (Lk.trans D23.out D24.out))))).rg (Nat.le_trans (B1_2.out.lk (Lk.trans D20.out (Lk.trans D21.out (Lk.trans D22.out (Lk.trans D23.out D24.out))))).len.1 (Nat.le_trans (sz_le (t := 2) (by decide) (by decide +kernel) (by decide +kernel)) (by decide))) (Nat.le_trans (B1_2.out.lk (Lk.trans D20.out (Lk.trans D21.out (Lk.trans D22.out (Lk.trans D23.out D24.out))))).len.2 (Nat.le_trans (sz_le (t := 2) (by decide) (by decide +kernel) (by decide +kernel)) (by decide))) (by decide) (B1_4.out.lk (Lk.trans D20.out (Lk.trans D21.out (Lk.trans D22.out (Lk.trans D23.out D24.out))))) (by omega) (P := 0) (K := 0) (p := 0) (k := 0) (by decide) (by decide) (by decide) (by decide) (HTZ.out.lk (Lk.trans D20.out (Lk.trans D21.out (Lk.trans D22.out (Lk.trans D23.out D24.out)))))) kn_f1)
  go_wp2_with fail
  refine C25.out.mono ?_
  rintro e w25 ⟨rfl, x25⟩
  clear je1 je2 jd
  have D25 := Lib.hid (Ext.lk x25)
  have EX25 := Lib.hid (EX24.out.trans x25)
  have LE25_l := Lib.hid (LE24_l.out.old x25)
  clear x25
  clear C25
  have je1 := (row2_cells (rowK (Lk.trans D20.out (Lk.trans D21.out (Lk.trans D22.out (Lk.trans D23.out (Lk.trans D24.out D25.out))))) BR1_e.out)).1; have je2 := (row2_cells (rowK (Lk.trans D20.out (Lk.trans D21.out (Lk.trans D22.out (Lk.trans D23.out (Lk.trans D24.out D25.out))))) BR1_e.out)).2.1
  have jd := drow_cell (rowK (Lk.trans D20.out (Lk.trans D21.out (Lk.trans D22.out (Lk.trans D23.out (Lk.trans D24.out D25.out))))) R19.out)
  have C26 := Lib.hid (kn_fits true (lfits_calls (n := 1) (B1_2.out.lk (Lk.trans D20.out (Lk.trans D21.out (Lk.trans D22.out (Lk.trans D23.out (Lk.trans D24.out D25.out)))))).rg (Nat.le_trans (B1_2.out.lk (Lk.trans D20.out (Lk.trans D21.out (Lk.trans D22.out (Lk.trans D23.out (Lk.trans D24.out D25.out)))))).len.1 (Nat.le_trans (sz_le (t := 2) (by decide) (by decide +kernel) (by decide +kernel)) (by decide))) (Nat.le_trans (B1_2.out.lk (Lk.trans D20.out (Lk.trans D21.out (Lk.trans D22.out (Lk.trans D23.out (Lk.trans D24.out D25.out)))))).len.2 (Nat.le_trans (sz_le (t := 2) (by decide) (by decide +kernel) (by decide +kernel)) (by decide))) (by decide) (B1_4.out.lk (Lk.trans D20.out (Lk.trans D21.out (Lk.trans D22.out (Lk.trans D23.out (Lk.trans D24.out D25.out)))))) (by omega) (P := 100000000000000000) (K := 0) (p := 100000000000000000) (k := 0) (by decide) (by decide) (by decide) (by decide) (HTZ.out.lk (Lk.trans D20.out (Lk.trans D21.out (Lk.trans D22.out (Lk.trans D23.out (Lk.trans D24.out D25.out))))))) kn_f2)
  go_wp2_with fail
  refine C26.out.mono ?_
  rintro e w26 ⟨rfl, x26⟩
  clear je1 je2 jd
  have D26 := Lib.hid (Ext.lk x26)
  have EX26 := Lib.hid (EX25.out.trans x26)
  have LE26_l := Lib.hid (LE25_l.out.old x26)
  clear x26
  clear C26
  have C27 := Lib.hid (frac_q 1 2 (1, 2) (by decide) (by decide) (by decide) (by decide +kernel) _ (HTZ.out.lk (Lk.trans D20.out (Lk.trans D21.out (Lk.trans D22.out (Lk.trans D23.out (Lk.trans D24.out (Lk.trans D25.out D26.out))))))))
  go_wp2_with fail
  refine C27.out.mono ?_
  rintro e w27 ⟨a27, n27, c27, b27, m27, d27, rfl, g27, h27, x27⟩
  have S27 : Hid (RA w27 a27 n27 c27 b27 m27 d27 (1, 2)) := Lib.hid ⟨g27.sl, h27.sl⟩
  clear g27 h27
  have D27 := Lib.hid (Ext.lk x27)
  have EX27 := Lib.hid (EX26.out.trans x27)
  have LE27_l := Lib.hid (LE26_l.out.old x27)
  clear x27
  clear C27
  have C28 := Lib.hid (kn_fits false (lfits_calls (n := 1) S27.out.rg (Nat.le_trans S27.out.len.1 (Nat.le_trans (sz_le (t := 2) (by decide) (by decide +kernel) (by decide +kernel)) (by decide))) (Nat.le_trans S27.out.len.2 (Nat.le_trans (sz_le (t := 2) (by decide) (by decide +kernel) (by decide +kernel)) (by decide))) (by decide) (Sl.nil _) (by decide) (P := 9) (K := 9) (p := 9) (k := 9) (by decide) (by decide) (by decide) (by decide) (HTZ.out.lk (Lk.trans D20.out (Lk.trans D21.out (Lk.trans D22.out (Lk.trans D23.out (Lk.trans D24.out (Lk.trans D25.out (Lk.trans D26.out D27.out))))))))) kn_f3)
  go_wp2_with fail
  refine C28.out.mono ?_
  rintro e w28 ⟨rfl, x28⟩
  have D28 := Lib.hid (Ext.lk x28)
  have EX28 := Lib.hid (EX27.out.trans x28)
  have LE28_l := Lib.hid (LE27_l.out.old x28)
  clear x28
  clear C28
  go_wp2_with fail
  go_ret
  exact ⟨rfl, EX28.out⟩

end Go.Proofs.YtimcnhlcepemjaaGreatDoor

/- gleanhelp.Place; when a payment goes on fitting. -/
namespace Go.Proofs.YtimcnhlcepemjaaGreatDoor
open Go.RowKit

end Go.Proofs.YtimcnhlcepemjaaGreatDoor
