/- share.Need, share.Worth. -/
import Derived.Test.YtpfhifjkecoahaaGreatDoorShareM
namespace Go.Proofs.YtpfhifjkecoahaaGreatDoor
open Go.RowKit

theorem cell_by (w : World) (u : Value) (T : TypeId) : (w.drew.alloc (.cells #[u] T)).cell? ⟨w.heap.size, 0, none⟩ = some u := by
  have := box_cell (w := w.drew) (v := u) (T := T) (Ext.refl _)
  exact this
theorem setCell_keeps {w' : World} {p : Nat} {v : Value} (h : w'.cell? ⟨p, 0, none⟩ = some v) {B : Nat} (hne : p ≠ B) (u : Value) : (w'.setCell ⟨B, 0, none⟩ u).cell? ⟨p, 0, none⟩ = some v := by
  rw [World.cell?_setCell_other _ _ _ _ (fun e => hne (by injection e with e1; exact e1.symm))]; exact h

/-- The closure, as the regions call it. -/
theorem by1_at {a b e : Option Addr} {m n l c d f : Nat} {xs ys zs : List Nat} {w : World} {up : Bool} {p : Addr} (Y Z : Nat) (ha : Sl w a m c xs) (hb : Sl w b n d ys) (he : Sl w e l f zs) (hY : val ys = Y) (hZ : val zs = Z)
    (hp : w.cell? p = some (.bool up)) (hm : m ≤ 100000000) (hn : n ≤ 3) (hl : l ≤ 100000000) (hZ0 : Z ≠ 0) :
    Calls Tryz.prog 52 #[DecV a m c, DecV b n d, DecV e l f, .pointer (some p)] w (NewD w (m + 5) (lim (rdV up (val xs * Y) Z))) := by
  refine (by1_calls ha hb he hp (by omega) (by omega) (by omega)).mono ?_
  rintro e w' ⟨o, no, co, rfl, hown, hext, hno⟩
  rw [hY, hZ] at hown
  unfold rdL at hown
  rw [if_neg hZ0] at hown
  exact ⟨o, no, co, rfl, hown, hext, by omega⟩

set_option maxHeartbeats 4000000 in
set_option maxRecDepth 100000 in
theorem need_calls {a : Option Addr} {m c : Nat} {xs : List Nat} {w : World} (T t : Nat) (hT : T < B64) (ht : t < B64) (ha : Sl w a m c xs) (hm : m ≤ 100000000) :
    Calls Tryz.prog 11 #[.int .u64 (T : Int), DecV a m c, .int .u64 (t : Int)] w (NewDE w (m + 5) (lim (needV T (val xs) t)) (needE T t)) := by
  obtain ⟨X, hX⟩ : ∃ X, w.alloc (.cells #[.slice a m c] 26) = X := ⟨_, rfl⟩
  have EX : Ext w X := by rw [← hX]; exact (Ext.refl _).alloc _
  have hz : X.heap.size = w.heap.size + 1 := by rw [← hX, alloc_size]
  obtain ⟨W, hW⟩ : ∃ W, X.alloc (.cells #[.slice none 0 0] 26) = W := ⟨_, rfl⟩
  have EXW : Ext X W := by rw [← hW]; exact (Ext.refl _).alloc _
  have hS : ∀ w', Ext W w' → w'.cell? ⟨w.heap.size, 0, none⟩ = some (.slice a m c) := by
    intro w' h
    exact box_cell (by rw [hX]; exact EXW.trans h)
  have HS := Lib.hid hS
  have HS4 := Lib.hid (fun w' h (u : Value) => setCell_keeps (B := w.heap.size + 1) (hS w' h) (by omega) u)
  have HB := Lib.hid (fun w' (h : Ext W w') => box_at hz (w2 := w') (v := .slice none 0 0) (T := 26) (by rw [hW]; exact h))
  have HR := Lib.hid (fun w' (h : Ext W w') => (by rw [← hz]; exact box_row0 (w := X) (w' := w') (v := .slice none 0 0) (T := 26) (by rw [hW]; exact h) : w'.heap[w.heap.size + 1]? = some (.cells #[.slice none 0 0] 26 (0, 0))))
  have HF := Lib.hid (fun w' (h : Ext W w') (u : Value) => box_fin EX hz (w2 := w') (v := .slice none 0 0) (T := 26) (by rw [hW]; exact h) u)
  have hWs : (X.alloc (.cells #[.slice none 0 0] 26)).heap.size = W.heap.size := by rw [hW]
  rw [hWs] at HF
  have HA := Lib.hid (fun w' (h : Ext W w') => (ha.old ((EX.trans EXW).trans h)))
  have HX := Lib.hid hX; have HW := Lib.hid hW
  have HEW := Lib.hid (EX.trans EXW)
  have HT := Lib.hid hT; have HT' := Lib.hid ht
  unfold needV
  obtain ⟨S, hSv⟩ : ∃ S, val xs = S := ⟨_, rfl⟩
  rw [hSv]
  have HSV := Lib.hid hSv
  clear hSv
  clear hS EX EXW ha hz hX hW hWs hT ht
  by_cases h1 : T < t
  · have hE : needE T t = 102 := by unfold needE; rw [if_pos h1]
    rw [hE, if_neg (by decide)]
    have g1 : (T : Int) < (t : Int) := by omega
    go_enter Tryz.func11, Tryz.ntmps11
    go_wp2_with fail
    rw [HX.out, HW.out]
    try simp only [Exit.inBlock, Exit.then]
    refine bodyPost_ret (results_box2 rfl _ _ _ _ rfl (load_dec (HR.out _ (Ext.refl _)))) rfl ?_
    exact ⟨none, 0, 0, rfl, Own.nil _ _, HEW.out, by omega⟩
  by_cases h2 : T = 0
  · have hE : needE T t = 100 := by unfold needE; rw [if_neg h1, if_pos h2]
    rw [hE, if_neg (by decide)]
    have g1 : ¬ (T : Int) < (t : Int) := by omega
    have g2 : (T : Int) = 0 := by omega
    go_enter Tryz.func11, Tryz.ntmps11
    go_wp2_with fail
    rw [HX.out, HW.out]
    try simp only [Exit.inBlock, Exit.then]
    refine bodyPost_ret (results_box2 rfl _ _ _ _ rfl (load_dec (HR.out _ (Ext.refl _)))) rfl ?_
    exact ⟨none, 0, 0, rfl, Own.nil _ _, HEW.out, by omega⟩
  · have hE : needE T t = 0 := by unfold needE; rw [if_neg h1, if_neg h2]
    rw [hE, if_pos rfl]
    have g1 : ¬ (T : Int) < (t : Int) := by omega
    have g2 : ((T : Int) == 0) = false := by rw [beq_eq_false_iff_ne]; omega
    have HZ := Lib.hid (show T * U36 ≠ 0 from Nat.mul_ne_zero h2 U36_ne)
    clear h1 h2
    go_enter Tryz.func11, Tryz.ntmps11
    go_wp2_with fail
    rw [HX.out, HW.out]
    go_region_held3 (fun w' => w'.cell? ⟨w.heap.size, 0, none⟩ = some (.slice a m c))
      (first | exact HS.out _ (Ext.refl _) | exact HS.out _ ((Ext.refl _).drew) | exact HS.out _ (by assumption) | exact HS4.out _ (by assumption) _)
      (first | (go_at_call 25; refine (by_calls _ _).mono ?_; rintro e w5 ⟨rfl, hw5⟩; have E5 : Ext W w5 := (by rw [hw5]; exact ((Ext.refl _).drew).alloc _); have P5 : Hid (w5.cell? ⟨W.heap.size, 0, none⟩ = some (.bool true)) := (by rw [hw5]; exact cell_by _ _ _); clear hw5) | (go_at_call_of 22 t; refine (dof_calls t HT'.out _).mono ?_; rintro e w6 ⟨o6, n6, c6, rfl, hown6, hext6, hno6⟩; have E6 := E5.trans hext6) | (go_at_call_of 22 T; refine (dof_calls T HT.out _).mono ?_; rintro e w7 ⟨o7, n7, c7, rfl, hown7, hext7, hno7⟩; have E7 := E6.trans hext7) | (go_at_call 52; refine (by1_at (up := true) (t * U36) (T * U36) (HA.out _ E7) (hown6.sl.old hext7) hown7.sl (val_lim _) (val_lim _) ((hext6.trans hext7).cell P5.out) hm hno6 (by omega) HZ.out).mono ?_; rintro e w8 ⟨o8, n8, c8, rfl, hown8, hext8, hno8⟩; have E8 := E7.trans hext8; obtain ⟨k1, k2⟩ := HB.out _ E8))
    obtain ⟨f1, f2, f3⟩ := HF.out _ E8 (.slice o8 n8 c8)
    rw [HSV.out] at hown8
    go_wp2_with fail
    try simp only [Exit.inBlock, Exit.then]
    refine bodyPost_ret (results_box2 rfl _ _ _ _ rfl (load_dec f2)) rfl ?_
    exact ⟨o8, n8, c8, rfl, f3 (hown8.mono E7.size), f1, hno8⟩

theorem rdV_down (P Z : Nat) : rdV false P Z = P / Z := by simp [rdV]

set_option maxHeartbeats 4000000 in
set_option maxRecDepth 100000 in
theorem worth_calls {a b : Option Addr} {m c n d : Nat} {xs ys : List Nat} {w : World} (T : Nat) (hT : T < B64) (ha : Sl w a m c xs) (hb : Sl w b n d ys) (hm : m ≤ 100000000) (hn : n ≤ 100000000) :
    Calls Tryz.prog 14 #[.int .u64 (T : Int), DecV a m c, DecV b n d] w (NewD w (n + 5) (lim (worV T (val xs) (val ys)))) := by
  obtain ⟨X, hX⟩ : ∃ X, W2 w (.slice a m c) (.slice b n d) = X := ⟨_, rfl⟩
  have EX : Ext w X := by rw [← hX]; exact W2_ext _ _ _
  have hz : X.heap.size = w.heap.size + 1 + 1 := by rw [← hX, W2_size]
  obtain ⟨W, hW⟩ : ∃ W, X.alloc (.cells #[.slice none 0 0] 26) = W := ⟨_, rfl⟩
  have EXW : Ext X W := by rw [← hW]; exact (Ext.refl _).alloc _
  have hS : ∀ w', Ext W w' → w'.cell? ⟨w.heap.size, 0, none⟩ = some (.slice a m c) ∧ w'.cell? ⟨w.heap.size + 1, 0, none⟩ = some (.slice b n d) := by
    intro w' h
    exact W2_at w _ _ (by rw [hX]; exact EXW.trans h)
  have HS := Lib.hid hS
  have HS4 := Lib.hid (fun w' h (u : Value) => (⟨setCell_keeps (B := w.heap.size + 1 + 1) (hS w' h).1 (by omega) u, setCell_keeps (B := w.heap.size + 1 + 1) (hS w' h).2 (by omega) u⟩ :
    (w'.setCell ⟨w.heap.size + 1 + 1, 0, none⟩ u).cell? ⟨w.heap.size, 0, none⟩ = some (.slice a m c) ∧ (w'.setCell ⟨w.heap.size + 1 + 1, 0, none⟩ u).cell? ⟨w.heap.size + 1, 0, none⟩ = some (.slice b n d)))
  have HB := Lib.hid (fun w' (h : Ext W w') => box_at hz (w2 := w') (v := .slice none 0 0) (T := 26) (by rw [hW]; exact h))
  have HF := Lib.hid (fun w' (h : Ext W w') (u : Value) => box_fin EX hz (w2 := w') (v := .slice none 0 0) (T := 26) (by rw [hW]; exact h) u)
  have hWs : (X.alloc (.cells #[.slice none 0 0] 26)).heap.size = W.heap.size := by rw [hW]
  rw [hWs] at HF
  have HA := Lib.hid (fun w' (h : Ext W w') => (ha.old ((EX.trans EXW).trans h)))
  have HBB := Lib.hid (fun w' (h : Ext W w') => (hb.old ((EX.trans EXW).trans h)))
  unfold W2 at hX
  have HX := Lib.hid hX; have HW := Lib.hid hW
  have HT := Lib.hid hT
  obtain ⟨S, hSv⟩ : ∃ S, val xs = S := ⟨_, rfl⟩
  have HZR := Lib.hid (dzero_calls (HA.out _ (Ext.refl _)) (by omega))
  rw [hSv] at HZR ⊢
  have HSV := Lib.hid hSv
  obtain ⟨c1, c2⟩ := hS W (Ext.refl _)
  have HC1 := Lib.hid c1
  unfold worV
  clear hS EX EXW ha hb hz hX hW hWs hT hSv c1 c2
  have c1 := HC1.out
  by_cases h1 : S = 0
  · rw [if_pos h1]
    rw [decide_eq_true h1] at HZR
    go_enter Tryz.func14, Tryz.ntmps14
    go_wp2_with fail
    rw [HX.out, HW.out]
    refine HZR.out.mono ?_
    rintro e w4 ⟨rfl, hext4⟩
    obtain ⟨k1, k2⟩ := HB.out _ hext4
    obtain ⟨f1, f2, f3⟩ := HF.out _ hext4 (.slice none 0 0)
    go_wp2_with fail
    try simp only [Exit.inBlock, Exit.then]
    refine bodyPost_ret (results_box1 rfl _ _ _ _ rfl (load_dec f2)) rfl ?_
    exact ⟨none, 0, 0, rfl, Own.nil _ _, f1, by omega⟩
  · rw [if_neg h1]
    rw [decide_eq_false h1] at HZR
    have HZ := Lib.hid h1
    clear h1
    go_enter Tryz.func14, Tryz.ntmps14
    go_wp2_with fail
    rw [HX.out, HW.out]
    refine HZR.out.mono ?_
    rintro e w4 ⟨rfl, hext4⟩
    go_wp2_with fail
    go_region_held3 (fun w' => w'.cell? ⟨w.heap.size, 0, none⟩ = some (.slice a m c) ∧ w'.cell? ⟨w.heap.size + 1, 0, none⟩ = some (.slice b n d))
      (first | exact HS.out _ hext4 | exact HS.out _ hext4.drew | exact HS.out _ (by assumption) | exact HS4.out _ (by assumption) _)
      (first | (go_at_call 25; refine (by_calls _ _).mono ?_; rintro e w5 ⟨rfl, hw5⟩; have E5 : Ext W w5 := (by rw [hw5]; exact hext4.drew.alloc _); have P5 : Hid (w5.cell? ⟨w4.heap.size, 0, none⟩ = some (.bool false)) := (by rw [hw5]; exact cell_by _ _ _); clear hw5) | (go_at_call 22; refine (dof_calls T HT.out _).mono ?_; rintro e w6 ⟨o6, n6, c6, rfl, hown6, hext6, hno6⟩; have E6 := E5.trans hext6) | (go_at_call 52; refine (by1_at (up := false) (T * U36) S (HBB.out _ E6) hown6.sl (HA.out _ E6) (val_lim _) HSV.out (hext6.cell P5.out) hn hno6 hm HZ.out).mono ?_; rintro e w8 ⟨o8, n8, c8, rfl, hown8, hext8, hno8⟩; have E8 := E6.trans hext8; obtain ⟨k1, k2⟩ := HB.out _ E8))
    obtain ⟨f1, f2, f3⟩ := HF.out _ E8 (.slice o8 n8 c8)
    rw [rdV_down] at hown8
    go_wp2_with fail
    try simp only [Exit.inBlock, Exit.then]
    refine bodyPost_ret (results_box1 rfl _ _ _ _ rfl (load_dec f2)) rfl ?_
    exact ⟨o8, n8, c8, rfl, f3 (hown8.mono E6.size), f1, hno8⟩

end Go.Proofs.YtpfhifjkecoahaaGreatDoor
