/- share.Redeem. -/
import Derived.Test.YtpfhifjkecoahaaGreatDoorShare1
namespace Go.Proofs.YtpfhifjkecoahaaGreatDoor
open Go.RowKit

theorem drew_size (w : World) : w.drew.heap.size = w.heap.size := rfl
theorem row_new {w w' : World} {v : Value} {T : TypeId} (h : Ext (w.alloc (.cells #[v] T (0, 0))) w') : w'.heap[w.heap.size]? = some (.cells #[v] T (0, 0)) := box_row0 h
theorem row_lt {w : World} {B : Nat} {o : Obj} (r : w.heap[B]? = some o) : B < w.heap.size := (Array.getElem?_eq_some_iff.1 r).1
theorem row_ext {w w' : World} {B : Nat} {o : Obj} (h : Ext w w') (r : w.heap[B]? = some o) : w'.heap[B]? = some o := by
  rw [h.block _ (row_lt r)]; exact r
theorem row_by {w w5 : World} {v : Value} {T : TypeId} {o : Obj} (h : w5 = (w.drew.alloc (.cells #[v] T (0, 0))).alloc o) : w5.heap[w.heap.size]? = some (.cells #[v] T (0, 0)) := by
  rw [h]; exact row_ext ((Ext.refl _).alloc _) (heap_alloc_new w.drew _)
theorem by_cell {w w5 : World} {v : Value} {T : TypeId} (h : w5 = w.alloc (.cells #[v] T (0, 0))) : w5.cell? ⟨w.heap.size, 0, none⟩ = some v := by
  rw [h]; exact box_cell (Ext.refl _)
theorem row_cell {w : World} {B : Nat} {v : Value} {T : TypeId} (r : w.heap[B]? = some (.cells #[v] T (0, 0))) : w.cell? ⟨B, 0, none⟩ = some v := by
  rw [cell_of_row _ _ _ _ _ _ r]; rfl
theorem row_free {w : World} {B : Nat} {v : Value} {T : TypeId} (r : w.heap[B]? = some (.cells #[v] T (0, 0))) : w.frozen? ⟨B, 0, none⟩ = false := frozen_of_row w B 0 _ _ r

set_option maxHeartbeats 4000000 in
set_option maxRecDepth 100000 in
theorem redeem_calls {a b : Option Addr} {m c n d : Nat} {xs ys : List Nat} {w : World} (T : Nat) (hT : T < B64) (ha : Sl w a m c xs) (hb : Sl w b n d ys) (hm : m ≤ 100000000) (hn : n ≤ 100000000) :
    Calls Tryz.prog 9 #[.int .u64 (T : Int), DecV a m c, DecV b n d] w (RetE (.tuple #[.int .u64 (redV T (val xs) (val ys) : Nat), .int .i64 (redE (val xs) (val ys))]) w) := by
  obtain ⟨W, hW⟩ : ∃ X, W2 w (.slice a m c) (.slice b n d) = X := ⟨_, rfl⟩
  have EW : Ext w W := by rw [← hW]; exact W2_ext _ _ _
  have hS : ∀ w', Ext W w' → w'.cell? ⟨w.heap.size, 0, none⟩ = some (.slice a m c) ∧ w'.cell? ⟨w.heap.size + 1, 0, none⟩ = some (.slice b n d) := by
    intro w' h
    exact W2_at w _ _ (by rw [hW]; exact h)
  have HS := Lib.hid hS
  have HS5 := Lib.hid (fun w' h (B : Nat) (hB : W.heap.size ≤ B) (u : Value) => (⟨setCell_keeps (hS w' h).1 (by rw [← hW, W2_size] at hB; omega) u, setCell_keeps (hS w' h).2 (by rw [← hW, W2_size] at hB; omega) u⟩ :
    (w'.setCell ⟨B, 0, none⟩ u).cell? ⟨w.heap.size, 0, none⟩ = some (.slice a m c) ∧ (w'.setCell ⟨B, 0, none⟩ u).cell? ⟨w.heap.size + 1, 0, none⟩ = some (.slice b n d)))
  have HA := Lib.hid (fun w' (h : Ext W w') => (ha.old (EW.trans h)))
  have HBB := Lib.hid (fun w' (h : Ext W w') => (hb.old (EW.trans h)))
  have HEW := Lib.hid EW
  unfold W2 at hW
  have HW := Lib.hid hW
  have HT := Lib.hid hT
  obtain ⟨S, hSv⟩ : ∃ S, val xs = S := ⟨_, rfl⟩
  obtain ⟨x, hxv⟩ : ∃ x, val ys = x := ⟨_, rfl⟩
  have HCR := Lib.hid (dcmp_calls (HBB.out _ (Ext.refl _)) (HA.out _ (Ext.refl _)) (by omega) (by omega))
  rw [hSv, hxv] at HCR ⊢
  have HSV := Lib.hid hSv; have HXV := Lib.hid hxv
  obtain ⟨c1, c2⟩ := hS W (Ext.refl _)
  unfold redV redE
  clear hS EW ha hb hW hT hSv hxv
  rcases Nat.lt_trichotomy x S with h | h | h
  · rw [cmpN_lt h] at HCR
    have n1 : ¬ S < x := by omega
    have n2 : ¬ x = S := by omega
    rw [if_neg n1, if_neg n1, if_neg n2]
    have HLT := Lib.hid (show x * (T * U36) / S / U36 < B64 from Nat.lt_of_le_of_lt (red_lt h) HT.out)
    have HZ := Lib.hid (show S ≠ 0 by omega)
    clear h n1 n2
    go_enter Tryz.func9, Tryz.ntmps9
    go_wp2_with fail
    rw [HW.out]
    refine HCR.out.mono ?_
    rintro e w4 ⟨rfl, hext4⟩
    clear c1 c2
    go_wp2_with fail
    go_region_held3 (fun w' => w'.cell? ⟨w.heap.size, 0, none⟩ = some (.slice a m c) ∧ w'.cell? ⟨w.heap.size + 1, 0, none⟩ = some (.slice b n d))
      (first | exact HS.out _ hext4 | exact HS.out _ hext4.drew | exact HS.out _ (hext4.drew.alloc _) | exact HS.out _ (by assumption) | exact HS.out _ (Ext.alloc (by assumption) _) | exact HS5.out _ (by assumption) _ (Ext.size (by assumption)) _ | exact HS5.out _ (Ext.alloc (by assumption) _) _ (Ext.size (by assumption)) _)
      (first | (go_at_call 25; refine (by_calls _ _).mono ?_; rintro e w5 ⟨rfl, hw5⟩; have E5 : Ext W w5 := (by rw [hw5]; first | exact hext4.drew.alloc _ | exact (hext4.drew.alloc _).alloc _); have P5 := by_cell hw5; (try simp only [drew_size, alloc_size] at P5); have HP5 := Lib.hid P5; (try have R9 := Lib.hid (row_by hw5)); clear P5 hw5) | (go_at_call 22; refine (dof_calls T HT.out _).mono ?_; rintro e w6 ⟨o6, n6, c6, rfl, hown6, hext6, hno6⟩; have E6 : Ext W w6 := (by first | exact E5.trans hext6 | exact (E5.alloc _).trans hext6); (first | have HP6 := Lib.hid (hext6.cell HP5.out) | have HP6 := Lib.hid ((((Ext.refl _).alloc _).trans hext6).cell HP5.out)); (first | have R9 := Lib.hid (row_ext hext6 R9.out) | have R9 := Lib.hid (row_new hext6) | skip)) | (go_at_call 35; refine (dtrunc_calls (hown8.sl.old (by first | exact Ext.refl _ | exact (Ext.refl _).alloc _)) (by omega)).mono ?_; rintro e w9 ⟨a1, d1, L1, a2, d2, L2, rfl, hown1, hown2, hext9, hl1, hl2⟩; have E9 : Ext W w9 := (by first | exact E8.trans hext9 | exact (E8.alloc _).trans hext9); (first | have HLT9 := Lib.hid (row_lt R9.out) | skip); (first | have R9 := Lib.hid (row_ext hext9 R9.out) | have R9 := Lib.hid (row_new hext9) | skip); (first | have k1 := row_cell R9.out | skip); (first | have k2 := row_free R9.out | skip)) | (go_at_call 52; refine (by1_at (up := false) (T * U36) S (HBB.out _ (by first | exact E6 | exact E6.alloc _)) (hown6.sl.old (by first | exact Ext.refl _ | exact (Ext.refl _).alloc _)) (HA.out _ (by first | exact E6 | exact E6.alloc _)) (val_lim _) HSV.out (by first | exact HP6.out | exact ((Ext.refl _).alloc _).cell HP6.out) hn hno6 hm HZ.out).mono ?_; rintro e w8 ⟨o8, n8, c8, rfl, hown8, hext8, hno8⟩; have E8 : Ext W w8 := (by first | exact E6.trans hext8 | exact (E6.alloc _).trans hext8); (first | have R9 := Lib.hid (row_ext hext8 R9.out) | have R9 := Lib.hid (row_new hext8) | skip)))
    all_goals (
      rw [val_lim, rdV_down, HXV.out] at hown1
      have HE9 := Lib.hid (HEW.out.trans E9)
      go_wp2_with fail
      refine (small_calls (xs := lim (x * (T * U36) / S / U36)) (by first | exact (hown1.box _ HLT9.out).sl | exact (hown1.box _ (by rw [alloc_size]; omega)).sl | exact hown1.sl.old ((Ext.refl _).alloc _))).mono ?_
      rintro e w10 ⟨rfl, rfl⟩
      rw [val_lim, smallV_lt HLT.out]
      go_wp2_with fail
      go_ret2
      refine ⟨rfl, ?_⟩
      first | exact box_store _ HE9.out (Ext.size (HEW.out.trans (by assumption))) | exact HE9.out.alloc _)
  · rw [cmpN_eq h] at HCR
    have n1 : ¬ S < x := by omega
    rw [if_neg n1, if_neg n1, if_pos h]
    clear h n1
    go_enter Tryz.func9, Tryz.ntmps9
    go_wp2_with fail
    rw [HW.out]
    refine HCR.out.mono ?_
    rintro e w4 ⟨rfl, hext4⟩
    go_wp2_with fail
    go_ret2
    exact ⟨rfl, HEW.out.trans hext4⟩
  · rw [cmpN_gt h] at HCR
    rw [if_pos h, if_pos h]
    clear h
    go_enter Tryz.func9, Tryz.ntmps9
    go_wp2_with fail
    rw [HW.out]
    refine HCR.out.mono ?_
    rintro e w4 ⟨rfl, hext4⟩
    go_wp2_with fail
    go_ret2
    exact ⟨rfl, HEW.out.trans hext4⟩

end Go.Proofs.YtpfhifjkecoahaaGreatDoor
