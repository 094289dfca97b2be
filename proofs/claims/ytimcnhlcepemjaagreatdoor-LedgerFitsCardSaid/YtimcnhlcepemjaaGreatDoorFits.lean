/- gleanlaw24.LedgerFits: the walk. -/
import Derived.Test.YtimcnhlcepemjaaGreatDoorMJ
import Derived.Test.YtimcnhlcepemjaaGreatDoorRefF
namespace Go.Proofs.YtimcnhlcepemjaaGreatDoor
open Go.RowKit Go.Lib

set_option maxHeartbeats 16000000 in
set_option maxRecDepth 100000 in
theorem lfitsl_law {a1 b1 a0 : Option Addr} {m1 c1 n1 d1 m0 c0 : Nat} {xs1 ys1 xs0 : List Nat} {w : World} (h1 : Sl w a1 m1 c1 xs1) (h2 : Sl w b1 n1 d1 ys1) {nn : Nat} (hnn : nn < B64) (h0 : Sl w a0 m0 c0 xs0) {p k : Int} (hp : -9223372036854775808 ≤ p ∧ p ≤ 9223372036854775807) (hk : -9223372036854775808 ≤ k ∧ k ≤ 9223372036854775807) (htz : TzTab w) (hM : MaxL w) :
    Calls Tryz.prog 4 #[RatV a1 m1 c1 b1 n1 d1, .int .u64 (nn : Int), DecV a0 m0 c0, .int .i64 p, .int .i64 k] w (RetE (.bool true) w) := by
  obtain ⟨eq, he⟩ : ∃ e, ((val xs1, val ys1) : Nat × Nat) = e := ⟨_, rfl⟩
  have HE_ : Hid (RG w a1 m1 c1 b1 n1 d1 eq) := Lib.hid ⟨xs1, ys1, h1, h2, by rw [← he], by rw [← he]⟩
  have HQ_ := Lib.hid h0; have HN := Lib.hid hnn; have HP_ := Lib.hid hp; have HK_ := Lib.hid hk; have HTZ := Lib.hid htz; have HM := Lib.hid hM
  clear he h1 h2 h0 hnn hp hk htz hM
  go_enter Tryz.func4, Tryz.ntmps4
  obtain ⟨V1, hV⟩ : ∃ V, w.alloc (.cells #[.slice a1 m1 c1, .slice b1 n1 d1] 40) = V := ⟨_, rfl⟩
  have R1 := Lib.hid (show V1.heap[w.heap.size]? = some (.cells #[.slice a1 m1 c1, .slice b1 n1 d1] 40 (0, 0)) by rw [← hV]; exact heap_alloc_new w _)
  have x1 : Ext w V1 := by rw [← hV]; exact (Ext.refl _).alloc _
  have HV1 := Lib.hid hV
  clear hV
  have D1 := Lib.hid (Ext.lk x1)
  have EX1 := Lib.hid (Ext.trans (Ext.refl _) x1)
  clear x1
  obtain ⟨V2, hV⟩ : ∃ V, V1.alloc (.cells #[.slice a0 m0 c0] 35) = V := ⟨_, rfl⟩
  have R2 := Lib.hid (show V2.heap[V1.heap.size]? = some (.cells #[.slice a0 m0 c0] 35 (0, 0)) by rw [← hV]; exact heap_alloc_new V1 _)
  have x2 : Ext V1 V2 := by rw [← hV]; exact (Ext.refl _).alloc _
  have HV2 := Lib.hid hV
  clear hV
  have D2 := Lib.hid (Ext.lk x2)
  have EX2 := Lib.hid (Ext.trans EX1.out x2)
  clear x2
  have C3 := Lib.hid (knownL_calls V2 (HTZ.out.lk (Lk.trans D1.out D2.out)) (HM.out.lk (Lk.trans D1.out D2.out)))
  go_wp2_with (first | rw [HV1.out] | rw [HV2.out])
  refine C3.out.mono ?_
  rintro e w3 ⟨rfl, x3⟩
  have D3 := Lib.hid (Ext.lk x3)
  have EX3 := Lib.hid (Ext.trans EX2.out x3)
  clear x3
  clear C3
  by_cases h_m1 : m1 ≤ 20
  rotate_left
  · have g_m1 : (20 : Int) < (m1 : Int) := by omega
    have je1 := (row2_cells (rowK (Lk.trans D2.out D3.out) R1.out)).1; have je2 := (row2_cells (rowK (Lk.trans D2.out D3.out) R1.out)).2.1
    have jq := drow_cell (rowK D3.out R2.out)
    go_wp2_with fail
    go_ret
    exact ⟨rfl, EX3.out⟩
  have g_m1 : ¬ (20 : Int) < (m1 : Int) := by omega
  by_cases h_n1 : n1 ≤ 20
  rotate_left
  · have g_n1 : (20 : Int) < (n1 : Int) := by omega
    have je1 := (row2_cells (rowK (Lk.trans D2.out D3.out) R1.out)).1; have je2 := (row2_cells (rowK (Lk.trans D2.out D3.out) R1.out)).2.1
    have jq := drow_cell (rowK D3.out R2.out)
    go_wp2_with fail
    go_ret
    exact ⟨rfl, EX3.out⟩
  have g_n1 : ¬ (20 : Int) < (n1 : Int) := by omega
  by_cases h_m0 : m0 ≤ 20
  rotate_left
  · have g_m0 : (20 : Int) < (m0 : Int) := by omega
    have je1 := (row2_cells (rowK (Lk.trans D2.out D3.out) R1.out)).1; have je2 := (row2_cells (rowK (Lk.trans D2.out D3.out) R1.out)).2.1
    have jq := drow_cell (rowK D3.out R2.out)
    go_wp2_with fail
    go_ret
    exact ⟨rfl, EX3.out⟩
  have g_m0 : ¬ (20 : Int) < (m0 : Int) := by omega
  have HM1 := Lib.hid (show m1 ≤ 1000 by omega); have HM2 := Lib.hid (show n1 ≤ 1000 by omega); have HM3 := Lib.hid (show m0 ≤ 1000 by omega)
  obtain ⟨P, hP⟩ : ∃ P : Nat, max p 0 = (P : Int) := ⟨(max p 0).toNat, by omega⟩
  obtain ⟨K, hK⟩ : ∃ K : Nat, max k 0 = (K : Int) := ⟨(max k 0).toNat, by omega⟩
  have HPB := Lib.hid (show P < 9223372036854775808 by have := HP_.out; omega); have HKB := Lib.hid (show K < 9223372036854775808 by have := HK_.out; omega)
  have HPP := Lib.hid hP; have HKK := Lib.hid hK; clear hP hK
  obtain ⟨r0, h_r0⟩ : ∃ x, fitsB eq nn (val xs0) P K = x := ⟨_, rfl⟩
  have HR0 := Lib.hid h_r0; clear h_r0
  have je1 := (row2_cells (rowK (Lk.trans D2.out D3.out) R1.out)).1; have je2 := (row2_cells (rowK (Lk.trans D2.out D3.out) R1.out)).2.1
  have jq := drow_cell (rowK D3.out R2.out)
  have H4 : Hid (∀ w', Lk w3 w' → w'.cell? ⟨w.heap.size, 0, none⟩ = some (.slice a1 m1 c1) ∧ w'.cell? ⟨w.heap.size, 1, none⟩ = some (.slice b1 n1 d1) ∧ w'.cell? ⟨V1.heap.size, 0, none⟩ = some (.slice a0 m0 c0)) := Lib.hid (fun w' h => ⟨(row2_cells (rowK (Lk.trans (Lk.trans D2.out D3.out) h) R1.out)).1, (row2_cells (rowK (Lk.trans (Lk.trans D2.out D3.out) h) R1.out)).2.1, drow_cell (rowK (Lk.trans D3.out h) R2.out)⟩)
  go_wp2_with fail
  go_region_held3 (fun w' => w'.cell? ⟨w.heap.size, 0, none⟩ = some (.slice a1 m1 c1) ∧ w'.cell? ⟨w.heap.size, 1, none⟩ = some (.slice b1 n1 d1) ∧ w'.cell? ⟨V1.heap.size, 0, none⟩ = some (.slice a0 m0 c0))
    (first | exact H4.out _ (Ext.refl _).drew.lk | exact H4.out _ (by assumption))
    (first
      | (go_at_call 31; refine (fits_as (r := r0) (lfits_calls (HE_.out.lk (Lk.trans (Lk.trans D1.out (Lk.trans D2.out D3.out)) (Ext.refl w3).drew.lk)) HM1.out HM2.out HN.out (HQ_.out.lk (Lk.trans (Lk.trans D1.out (Lk.trans D2.out D3.out)) (Ext.refl w3).drew.lk)) HM3.out HPP.out HKK.out HPB.out HKB.out (HTZ.out.lk (Lk.trans (Lk.trans D1.out (Lk.trans D2.out D3.out)) (Ext.refl w3).drew.lk))) HR0.out).mono ?_; rintro e u4_0 ⟨rfl, x4_0⟩; have y4_0 := Ext.lk x4_0; have K4_0 : Lk w3 u4_0 := Lk.trans (Ext.refl w3).drew.lk y4_0; have E4_0 := Ext.trans (EX3.out.drew) x4_0)
      | (go_at_call 32; refine (fits_as (r := r0) (frfits_calls (HE_.out.lk (Lk.trans (Lk.trans D1.out (Lk.trans D2.out D3.out)) K4_0)) HM1.out HM2.out HN.out (HQ_.out.lk (Lk.trans (Lk.trans D1.out (Lk.trans D2.out D3.out)) K4_0)) HM3.out HPP.out HKK.out HPB.out HKB.out) HR0.out).mono ?_; rintro e u4_1 ⟨rfl, x4_1⟩; have y4_1 := Ext.lk x4_1; have K4_1 : Lk w3 u4_1 := Lk.trans K4_0 y4_1; have E4_1 := Ext.trans E4_0 x4_1))
  have xk4 := K4_1; have xe4 := E4_1
  clear x4_0 y4_0 K4_0 E4_0 x4_1 y4_1 K4_1 E4_1
  have D4 := Lib.hid xk4; have EX4 := Lib.hid xe4; clear xk4 xe4
  go_wp2_with fail
  go_ret
  exact ⟨by first | rfl | simp, EX4.out⟩

end Go.Proofs.YtimcnhlcepemjaaGreatDoor
