/- From the walks to the rows: a []uint64. -/
import Derived.Test.YtdafjajleglccaaGreatDoorWrapD
namespace Go.Proofs.YtdafjajleglccaaGreatDoor
open Go.ChangeShapes Go.WideShapes Go.ChangeAt Go.RowKit

theorem sl_of_trodU {H : Type} {enc : TypeId × Value → H} {W : World} {fuel : Nat} {a : Option Addr} {n c : Nat} {y : DataW H × List MemPlace} (hsp : ∀ ad, a = some ad → ad.spot = none)
    (h : DataW.trod enc Tryz.prog W 0 (fun _ => true) true fuel 22 [.slice a n c] = some y) : ∃ xs, Sl W a n c xs := by
  rcases open_ints Tryz.underlying22 Tryz.underlying26 (by kernel_rfl) h with ⟨hcs, -⟩ | ⟨ad, len, cap, zs, hcs, -, hl, hm, hz, -, hcell, hw⟩
  · simp only [List.cons.injEq, Value.slice.injEq, and_true] at hcs
    obtain ⟨rfl, rfl, rfl⟩ := hcs
    exact ⟨[], Sl.nil W⟩
  · simp only [List.cons.injEq, Value.slice.injEq, and_true] at hcs
    obtain ⟨rfl, rfl, rfl⟩ := hcs
    simp only [if_true] at hz
    have hspot := hsp ad rfl
    have hbnd : ∀ i, i < zs.length → 0 ≤ zs.getD i 0 ∧ zs.getD i 0 < 18446744073709551616 := by
      intro i hi
      have hmem : zs.getD i 0 ∈ zs := by
        rw [List.getD_eq_getElem?_getD, List.getElem?_eq_getElem hi]; exact List.getElem_mem hi
      have := hw _ hmem
      simp only [Lit.wf, Bool.and_eq_true, decide_eq_true_eq] at this
      have e1 : IntKind.u64.min = 0 := by decide
      have e2 : IntKind.u64.max = 18446744073709551615 := by decide
      rw [e1, e2] at this
      exact ⟨this.1, by omega⟩
    refine ⟨(zs.take n).map Int.toNat, ⟨?_, hl, ?_, ?_, .inr ⟨ad.block, ad.off, ?_, ?_⟩⟩⟩
    · rw [List.length_map, List.length_take]; omega
    · unfold maxLen at hm; omega
    · intro x hx
      obtain ⟨z, hz', rfl⟩ := List.mem_map.1 hx
      obtain ⟨i, hi, rfl⟩ := List.getElem_of_mem (List.mem_of_mem_take hz')
      have := hbnd i hi
      rw [List.getD_eq_getElem?_getD, List.getElem?_eq_getElem hi] at this
      simp only [Option.getD_some] at this
      rw [B64_eq]; omega
    · obtain ⟨b, o, s⟩ := ad
      simp only at hspot
      rw [hspot]
    · intro i hi
      have h1 := hcell i (by omega)
      have hadd : ad.add i = ⟨ad.block, ad.off + i, none⟩ := by
        obtain ⟨b, o, s⟩ := ad
        simp only at hspot
        subst hspot
        unfold Addr.add
        split
        · rename_i h0; subst h0; rfl
        · rfl
      rw [hadd] at h1
      rw [h1]
      have hb := hbnd i (by omega)
      have e1 : ((zs.take n).map Int.toNat).getD i 0 = (zs.getD i 0).toNat := by
        rw [List.getD_eq_getElem?_getD, List.getD_eq_getElem?_getD, List.getElem?_map, List.getElem?_take, if_pos hi, List.getElem?_eq_getElem (by omega)]
        rfl
      rw [e1, Int.toNat_of_nonneg hb.1]
theorem sl_of_trodU0 {H : Type} {enc : TypeId × Value → H} {W : World} {fuel : Nat} {a : Option Addr} {n c : Nat} {y : DataW H × List MemPlace}
    (h : DataW.trod enc Tryz.prog W 0 (fun _ => true) true fuel 22 [.slice a n c] = some y) : ∃ xs, Sl W a n c xs := by
  rcases open_ints Tryz.underlying22 Tryz.underlying26 (by kernel_rfl) h with ⟨hcs, -⟩ | ⟨ad, len, cap, zs, hcs, -, hl, hm, hz, -, hcell, -⟩
  · simp only [List.cons.injEq, Value.slice.injEq, and_true] at hcs
    obtain ⟨rfl, rfl, rfl⟩ := hcs
    exact ⟨[], Sl.nil W⟩
  · simp only [List.cons.injEq, Value.slice.injEq, and_true] at hcs
    obtain ⟨rfl, rfl, rfl⟩ := hcs
    simp only [if_true] at hz
    rcases Nat.eq_zero_or_pos c with h0 | h0
    · subst h0
      obtain rfl : n = 0 := by omega
      exact ⟨[], ⟨rfl, Nat.le_refl _, by decide, Bd.nil _, .inl ⟨rfl, rfl⟩⟩⟩
    · refine sl_of_trodU (fun ad' e => ?_) h
      obtain rfl : ad = ad' := Option.some.inj e
      exact spot_of_cell (hcell 0 (by omega))
set_option maxRecDepth 100000 in
theorem open_nums {H : Type} {enc : TypeId × Value → H} {W : World} {base : Nat} {v : Value} {d : DataW H} {p : List MemPlace} (hv : Value.okWide Tryz.prog W .any base 22 v)
    (h : DataW.Trod enc Tryz.prog W 0 (fun _ => true) true 22 v d p) : ∃ a n c xs, v = .slice a n c ∧ Sl W a n c xs := by
  have hu : Tryz.prog.underlying 22 = _ := Tryz.underlying22
  have hok := hv
  simp only [Value.okWide, hu] at hok
  simp only [Cell.okWide, hu] at hok
  obtain ⟨fuel, hf⟩ := h
  cases v with
  | slice a n c =>
    obtain ⟨xs, hs⟩ := sl_of_trodU0 (enc := enc) (W := W) (fuel := fuel) (a := a) (n := n) (c := c) (y := (d, p)) hf
    exact ⟨a, n, c, xs, rfl, hs⟩
  | _ => simp [Cell.ok, hu] at hok

end Go.Proofs.YtdafjajleglccaaGreatDoor
