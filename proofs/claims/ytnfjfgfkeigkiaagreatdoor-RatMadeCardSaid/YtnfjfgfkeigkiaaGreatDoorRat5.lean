/- rat.Sum. -/
import Derived.Test.YtnfjfgfkeigkiaaGreatDoorRat4
namespace Go.Proofs.YtnfjfgfkeigkiaaGreatDoor
open Go.RowKit

/-- The closure over a function's variable. -/
abbrev FoldF (p : Nat) : Value := .func (.func 93) #[] #[.pointer (some ⟨p, 0, none⟩)]

set_option maxHeartbeats 1000000 in
set_option maxRecDepth 100000 in
theorem rfolder_calls (w : World) : Calls Tryz.prog 63 #[AddF] w (fun e w' => e = .returned (FoldF w.heap.size) ∧ ∃ T, w' = w.alloc (.cells #[AddF] T)) := by
  go_enter Tryz.func63, Tryz.ntmps63
  go_wp2_with fail
  go_ret
  exact ⟨rfl, _, rfl⟩

set_option maxHeartbeats 400000 in
set_option maxRecDepth 100000 in
theorem rsum_calls {a : Option Addr} {n c : Nat} {vs : List (Part × Part)} {ps : List (Nat × Nat)} {w : World} (ha : RSl w a n c vs) (hn : n ≤ 12) (hv : RVals w vs ps) (htz : TzTab w) :
    Calls Tryz.prog 23 #[.slice a n c] w (NewR w 3600 193 (lim (sumR ps).1) (lim (sumR ps).2)) := by
  obtain ⟨X1, hX1⟩ : ∃ X, w.alloc (.cells #[.slice none 0 0, .slice none 0 0] 25) = X := ⟨_, rfl⟩
  have hsz1 : X1.heap.size = w.heap.size + 1 := by rw [← hX1, alloc_size]
  have E1 : Ext w X1 := by rw [← hX1]; exact (Ext.refl w).alloc _
  have R1 : X1.heap[w.heap.size]? = some (.cells #[.slice none 0 0, .slice none 0 0] 25 (0, 0)) := box2_row (w := w) (by rw [hX1]; exact Ext.refl _)
  have HX1 := Lib.hid hX1; have HR1 := Lib.hid R1; have HE1 := Lib.hid E1; have HA := Lib.hid ha; have HV := Lib.hid hv; have HTZ := Lib.hid htz
  clear hX1 E1 R1 ha hv htz
  go_enter Tryz.func23, Tryz.ntmps23
  go_wp2_with (rw [HX1.out])
  refine (rfolder_calls _).mono ?_
  rintro e w2 ⟨rfl, T, hw2⟩
  have E2 : Ext X1 w2 := by rw [hw2]; exact (Ext.refl _).alloc _
  have hp : w2.cell? ⟨X1.heap.size, 0, none⟩ = some AddF := by rw [hw2, World.cell?_alloc_new]; rfl
  rw [hsz1] at hp
  have hv2 : RVals w2 vs ps := ⟨HV.out.1, fun k v p h1 h2 => ⟨((HV.out.2 k v p h1 h2).1).old (HE1.out.trans E2), ((HV.out.2 k v p h1 h2).2.1).old (HE1.out.trans E2), (HV.out.2 k v p h1 h2).2.2⟩⟩
  have CF := Lib.hid (rfold_calls (HA.out.old (HE1.out.trans E2)) hn hv2 (HTZ.out.old (HE1.out.trans E2)) hp)
  have HE2 := Lib.hid E2
  clear hw2 E2 hp hv2
  go_wp2_with fail
  refine CF.out.mono ?_
  rintro e w3 ⟨o1, l1, e1, o2, l2, e2, rfl, hown5, hown6, hext5, hl1, hl2⟩
  have HRW := Lib.hid (rowE (HE2.out.trans hext5) HR1.out)
  obtain ⟨k1, k2, k3, k4⟩ := row2_cells HRW.out
  have z1 := HE2.out.size
  have HO5 := Lib.hid ((hown5.set2 (.slice o1 l1 e1) (.slice o2 l2 e2) (by omega : w.heap.size < w2.heap.size)).mono (by omega : w.heap.size ≤ w2.heap.size))
  have HO6 := Lib.hid ((hown6.set2 (.slice o1 l1 e1) (.slice o2 l2 e2) (by omega : w.heap.size < w2.heap.size)).mono (by omega : w.heap.size ≤ w2.heap.size))
  have HEF := Lib.hid (set2_ext (HE1.out.trans (HE2.out.trans hext5)) (Nat.le_refl w.heap.size) (.slice o1 l1 e1) (.slice o2 l2 e2))
  clear hown5 hown6 hext5
  go_wp2_with fail
  try simp only [Exit.inBlock, Exit.then]
  refine bodyPost_ret (results_box1 rfl _ _ _ _ rfl (load_rat (set2_row HRW.out _ _))) rfl ?_
  exact ⟨_, _, _, _, _, _, rfl, HO5.out, HO6.out, HEF.out, hl1, hl2⟩

end Go.Proofs.YtnfjfgfkeigkiaaGreatDoor
