/- gleanlaw10.rate. -/
import Derived.Test.YtpfhifjkecoahaaGreatDoorShare3
namespace Go.Proofs.YtpfhifjkecoahaaGreatDoor
open Go.RowKit

set_option maxHeartbeats 4000000 in
set_option maxRecDepth 100000 in
theorem rate_calls {a b : Option Addr} {m c n d : Nat} {xs ys : List Nat} {w : World} (T U : Nat) (hT : T < B64) (hU : U < B64) (ha : Sl w a m c xs) (hb : Sl w b n d ys) (hm : m ≤ 100000000) (hn : n ≤ 100000000) :
    Calls Tryz.prog 19 #[.int .u64 (T : Int), DecV a m c, .int .u64 (U : Int), DecV b n d] w (RetE (.bool (decide (T * val ys ≤ U * val xs))) w) := by
  obtain ⟨W, hW⟩ : ∃ X, W2 w (.slice a m c) (.slice b n d) = X := ⟨_, rfl⟩
  have EW : Ext w W := by rw [← hW]; exact W2_ext _ _ _
  have hS : ∀ w', Ext W w' → w'.cell? ⟨w.heap.size, 0, none⟩ = some (.slice a m c) ∧ w'.cell? ⟨w.heap.size + 1, 0, none⟩ = some (.slice b n d) := by
    intro w' h
    exact W2_at w _ _ (by rw [hW]; exact h)
  have HS := Lib.hid hS
  have HA := Lib.hid (fun w' (h : Ext W w') => (ha.old (EW.trans h)))
  have HBB := Lib.hid (fun w' (h : Ext W w') => (hb.old (EW.trans h)))
  have HEW := Lib.hid EW
  unfold W2 at hW
  have HW := Lib.hid hW
  have HT := Lib.hid hT; have HU := Lib.hid hU
  obtain ⟨S, hSv⟩ : ∃ S, val xs = S := ⟨_, rfl⟩
  obtain ⟨V, hVv⟩ : ∃ V, val ys = V := ⟨_, rfl⟩
  rw [hSv, hVv]
  have HSV := Lib.hid hSv; have HVV := Lib.hid hVv
  obtain ⟨q, hq, hd⟩ : ∃ q : Int, cmpN (T * V) (U * S) = q ∧ decide (T * V ≤ U * S) = decide (q ≤ 0) := by
    rcases Nat.lt_trichotomy (T * V) (U * S) with h | h | h
    · exact ⟨_, cmpN_lt h, by rw [decide_eq_true (Nat.le_of_lt h)]; rfl⟩
    · exact ⟨_, cmpN_eq h, by rw [decide_eq_true (Nat.le_of_eq h)]; rfl⟩
    · exact ⟨_, cmpN_gt h, by rw [decide_eq_false (by omega)]; rfl⟩
  rw [hd]
  have HQ := Lib.hid hq
  clear hS EW ha hb hW hT hU hSv hVv hq hd
  go_enter Tryz.func19, Tryz.ntmps19
  go_wp2_with fail
  rw [HW.out]
  go_region_held3 (fun w' => w'.cell? ⟨w.heap.size, 0, none⟩ = some (.slice a m c) ∧ w'.cell? ⟨w.heap.size + 1, 0, none⟩ = some (.slice b n d))
    (first | exact HS.out _ (Ext.refl _) | exact HS.out _ ((Ext.refl _).drew) | exact HS.out _ (by assumption))
    (first | (go_at_call_of 43 T; refine (of_calls T HT.out _).mono ?_; rintro e w5 ⟨o5, n5, c5, rfl, hown5, hext5, hno5⟩; have E5 := ((Ext.refl W).drew).trans hext5) | (go_at_call_of 43 U; refine (of_calls U HU.out _).mono ?_; rintro e w7 ⟨o7, n7, c7, rfl, hown7, hext7, hno7⟩; have E7 := E6.trans hext7) | (go_at_call_of 46 b; refine (mul_calls hown5.sl (HBB.out _ E5) (by omega) (by omega)).mono ?_; rintro e w6 ⟨o6, n6, c6, rfl, hown6, hext6, hno6⟩; have E6 := E5.trans hext6) | (go_at_call_of 46 a; refine (mul_calls hown7.sl (HA.out _ E7) (by omega) (by omega)).mono ?_; rintro e w8 ⟨o8, n8, c8, rfl, hown8, hext8, hno8⟩; have E8 := E7.trans hext8) | (go_at_call 45; refine (cmp_calls ((hown6.sl.old hext7).old hext8) hown8.sl (by omega) (by omega)).mono ?_; rintro e w9 ⟨rfl, k9, rfl⟩; rw [val_lim, val_lim, val_lim, val_lim, HSV.out, HVV.out, HQ.out]; have E9 := E8.drewN k9))
  go_wp2_with fail
  go_ret
  exact ⟨rfl, HEW.out.trans E9⟩

end Go.Proofs.YtpfhifjkecoahaaGreatDoor
