/- An argument of the type []Dec. -/
import Derived.Test.YtpfhifjkecoahaaDoorWrap
import Derived.Test.YtpfhifjkecoahaaDoorHelp
import Derived.Deep.Slices
namespace Go.Proofs.YtpfhifjkecoahaaDoor
open Go.ChangeShapes Go.WideShapes Go.ChangeAt Go.RowKit Go.Deep

theorem spot_of_cell {W : World} {ad : Addr} {u : Value} (h : W.cell? ad = some u) : ad.spot = none := by
  unfold World.cell? at h
  split at h
  · split at h
    · cases h
    · rename_i hs; simpa using hs
  · cases h

/-- Whatever the reading, and wherever a slice without room points: a slice of limbs. -/
theorem sl_of_trod0 {H : Type} {enc : TypeId × Value → H} {W : World} {fuel : Nat} {a : Option Addr} {n c : Nat} {y : DataW H × List MemPlace}
    (h : DataW.trod enc Tryd.prog W 0 (fun _ => true) true fuel 24 [.slice a n c] = some y) : ∃ xs, Sl W a n c xs := by
  rcases open_ints Tryd.underlying24 Tryd.underlying22 (by kernel_rfl) h with ⟨hcs, -⟩ | ⟨ad, len, cap, zs, hcs, -, hl, hm, hz, -, hcell, -⟩
  · simp only [List.cons.injEq, Value.slice.injEq, and_true] at hcs
    obtain ⟨rfl, rfl, rfl⟩ := hcs
    exact ⟨[], Sl.nil W⟩
  · simp only [List.cons.injEq, Value.slice.injEq, and_true] at hcs
    obtain ⟨rfl, rfl, rfl⟩ := hcs
    simp only [if_true] at hz
    rcases Nat.eq_zero_or_pos c with h0 | h0
    · subst h0
      obtain rfl : n = 0 := by omega
      exact ⟨[], ⟨rfl, Nat.le_refl _, by decide, Bd.nil _, .inl ⟨rfl, rfl⟩⟩⟩
    · refine sl_of_trod (fun ad' e => ?_) h
      obtain rfl : ad = ad' := Option.some.inj e
      exact spot_of_cell (hcell 0 (by omega))

set_option maxRecDepth 100000 in
theorem open_decs {H : Type} {enc : TypeId × Value → H} {W : World} {base : Nat} {v : Value} {d : DataW H} {p : List MemPlace} (hv : Value.okWide Tryd.prog W .any base 38 v)
    (h : DataW.Trod enc Tryd.prog W 0 (fun _ => true) true 38 v d p) :
    ∃ (a : Option Addr) (n c : Nat) (vs : List (Option Addr × Nat × Nat)) (ps : List Nat), v = .slice a n c ∧ DSl W a n c vs ∧ ps.length = n ∧
      ∀ (k : Nat) (x : Option Addr × Nat × Nat), vs[k]? = some x → ∃ xs, Sl W x.1 x.2.1 x.2.2 xs ∧ val xs = ps.getD k 0 := by
  have hu : Tryd.prog.underlying 38 = _ := Tryd.underlying38
  have hue : Tryd.prog.underlying 26 = _ := Tryd.underlying26
  have hok := hv
  simp only [Value.okWide, hu] at hok
  simp only [Cell.okWide, hu] at hok
  obtain ⟨fuel, hf⟩ := h
  cases v with
  | slice a n c =>
    rcases open_slice1 (cs := [.slice a n c]) hu (by kernel_rfl) hf with ⟨hcs, -⟩ | ⟨ad, len, cap, m, fl, V, D, Pl, hcs, -, hl, hm, hmm, -, hx⟩
    · simp only [List.cons.injEq, Value.slice.injEq, and_true] at hcs
      obtain ⟨rfl, rfl, rfl⟩ := hcs
      exact ⟨none, 0, 0, [], [], rfl, ⟨rfl, Nat.le_refl _, by decide, .inl ⟨rfl, rfl, rfl⟩⟩, rfl, fun k x hk => by simp at hk⟩
    · simp only [List.cons.injEq, Value.slice.injEq, and_true] at hcs
      obtain ⟨rfl, rfl, rfl⟩ := hcs
      have hsp : ad.spot = none := by
        simp only [Cell.ok, hu] at hok
        exact hok.2.2.2.1
      simp only [if_true] at hmm
      have hadd : ∀ i, ad.add i = ⟨ad.block, ad.off + i, none⟩ := by
        intro i
        obtain ⟨b, o, s⟩ := ad
        simp only at hsp
        subst hsp
        unfold Addr.add
        split
        · rename_i h0; subst h0; rfl
        · rfl
      have each : ∀ i, i < n → ∃ x : (Option Addr × Nat × Nat) × Nat, W.cell? ⟨ad.block, ad.off + i, none⟩ = some (.slice x.1.1 x.1.2.1 x.1.2.2) ∧ ∃ xs, Sl W x.1.1 x.1.2.1 x.1.2.2 xs ∧ val xs = x.2 := by
        intro i hi
        obtain ⟨h1, h2⟩ := hx i (by omega)
        obtain ⟨y0, n0, -, -, hf0⟩ := trod_struct1 hue h2
        have hsz : Tryd.prog.cellsOf 24 = 1 := by kernel_rfl
        simp only [List.drop_zero, hsz] at hf0
        have hf1 : DataW.trod enc Tryd.prog W 0 (fun _ => true) true n0 24 [V i] = some y0 := by simpa using hf0
        obtain ⟨b, k, q, hV⟩ : ∃ b k q, V i = .slice b k q := by
          rcases open_ints Tryd.underlying24 Tryd.underlying22 (by kernel_rfl) hf1 with ⟨hcs, -⟩ | ⟨ad', len', cap', zs, hcs, -⟩
          · exact ⟨_, _, _, (List.cons.inj hcs).1⟩
          · exact ⟨_, _, _, (List.cons.inj hcs).1⟩
        rw [hV] at hf1
        obtain ⟨xs, hxs⟩ := sl_of_trod0 hf1
        exact ⟨((b, k, q), val xs), by rw [← hadd, h1, hV], xs, hxs, rfl⟩
      obtain ⟨F, hF⟩ := choose_lt each
      refine ⟨some ad, n, c, (List.range n).map (fun i => (F i).1), (List.range n).map (fun i => (F i).2), rfl, ⟨by simp, hl, ?_, .inr ⟨ad.block, ad.off, ?_, ?_⟩⟩, by simp, ?_⟩
      · unfold maxLen at hm; omega
      · obtain ⟨b, o, s⟩ := ad
        simp only at hsp
        rw [hsp]
      · intro i v hi
        obtain ⟨hlt, hv⟩ := List.getElem?_eq_some_iff.1 hi
        simp only [List.length_map, List.length_range] at hlt
        simp only [List.getElem_map, List.getElem_range] at hv
        rw [← hv]
        exact (hF i hlt).1
      · intro i v hi
        obtain ⟨hlt, hv⟩ := List.getElem?_eq_some_iff.1 hi
        simp only [List.length_map, List.length_range] at hlt
        simp only [List.getElem_map, List.getElem_range] at hv
        obtain ⟨xs, hs, hval⟩ := (hF i hlt).2
        refine ⟨xs, by rw [← hv]; exact hs, ?_⟩
        rw [hval, List.getD_eq_getElem?_getD, List.getElem?_map, List.getElem?_range hlt]
        rfl
  | _ => simp [Cell.ok, hu] at hok

end Go.Proofs.YtpfhifjkecoahaaDoor
