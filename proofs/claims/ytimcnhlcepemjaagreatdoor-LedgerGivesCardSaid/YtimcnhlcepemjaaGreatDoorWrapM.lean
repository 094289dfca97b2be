/- An argument that is a slice of decimals. -/
import Derived.Test.YtimcnhlcepemjaaGreatDoorWrapL
import Derived.Test.YtimcnhlcepemjaaGreatDoorHeld
import Derived.Deep.Slices
namespace Go.Proofs.YtimcnhlcepemjaaGreatDoor
open Go.ChangeShapes Go.WideShapes Go.ChangeAt Go.RowKit Go.Deep

set_option maxRecDepth 100000 in
theorem open_decs {H : Type} {enc : TypeId × Value → H} {W : World} {base : Nat} {v : Value} {d : DataW H} {p : List MemPlace} (hv : Value.okWide Tryz.prog W .any base 55 v)
    (h : DataW.Trod enc Tryz.prog W 0 (fun _ => true) true 55 v d p) :
    ∃ (a : Option Addr) (n c : Nat) (vs : List (Option Addr × Nat × Nat)) (ps : List Nat), v = .slice a n c ∧ DSl W a n c vs ∧ ps.length = n ∧
      ∀ (k : Nat) (x : Option Addr × Nat × Nat), vs[k]? = some x → ∃ xs, Sl W x.1 x.2.1 x.2.2 xs ∧ val xs = ps.getD k 0 := by
  have hu : Tryz.prog.underlying 55 = _ := Tryz.underlying55
  have hue : Tryz.prog.underlying 35 = _ := Tryz.underlying35
  have hok := hv
  simp only [Value.okWide, hu] at hok
  simp only [Cell.okWide, hu] at hok
  obtain ⟨fuel, hf⟩ := h
  cases v with
  | slice a n c =>
    rcases open_slice1 (cs := [.slice a n c]) hu (by kernel_rfl) hf with ⟨hcs, -⟩ | ⟨ad, len, cap, m, fl, V, D, Pl, hcs, -, hl, hm, hmm, -, hx⟩
    · simp only [List.cons.injEq, Value.slice.injEq, and_true] at hcs
      obtain ⟨rfl, rfl, rfl⟩ := hcs
      exact ⟨none, 0, 0, [], [], rfl, ⟨rfl, Nat.le_refl _, by decide, .inl ⟨rfl, rfl, rfl⟩⟩, rfl, fun k x hk => by simp at hk⟩
    · simp only [List.cons.injEq, Value.slice.injEq, and_true] at hcs
      obtain ⟨rfl, rfl, rfl⟩ := hcs
      have hsp : ad.spot = none := by
        simp only [Cell.ok, hu] at hok
        exact hok.2.2.2.1
      simp only [if_true] at hmm
      have hadd : ∀ i, ad.add i = ⟨ad.block, ad.off + i, none⟩ := by
        intro i
        obtain ⟨b, o, s⟩ := ad
        simp only at hsp
        subst hsp
        unfold Addr.add
        split
        · rename_i h0; subst h0; rfl
        · rfl
      have each : ∀ i, i < n → ∃ x : (Option Addr × Nat × Nat) × Nat, W.cell? ⟨ad.block, ad.off + i, none⟩ = some (.slice x.1.1 x.1.2.1 x.1.2.2) ∧ ∃ xs, Sl W x.1.1 x.1.2.1 x.1.2.2 xs ∧ val xs = x.2 := by
        intro i hi
        obtain ⟨h1, h2⟩ := hx i (by omega)
        obtain ⟨y0, n0, -, -, hf0⟩ := trod_struct1 hue h2
        have hsz : Tryz.prog.cellsOf 33 = 1 := by kernel_rfl
        simp only [List.drop_zero, hsz] at hf0
        have hf1 : DataW.trod enc Tryz.prog W 0 (fun _ => true) true n0 33 [V i] = some y0 := by simpa using hf0
        obtain ⟨b, k, q, hV⟩ : ∃ b k q, V i = .slice b k q := by
          rcases open_ints Tryz.underlying33 Tryz.underlying31 (by kernel_rfl) hf1 with ⟨hcs, -⟩ | ⟨ad', len', cap', zs, hcs, -⟩
          · exact ⟨_, _, _, (List.cons.inj hcs).1⟩
          · exact ⟨_, _, _, (List.cons.inj hcs).1⟩
        rw [hV] at hf1
        obtain ⟨xs, hxs⟩ := sl_of_trod0 hf1
        exact ⟨((b, k, q), val xs), by rw [← hadd, h1, hV], xs, hxs, rfl⟩
      obtain ⟨F, hF⟩ := choose_lt each
      refine ⟨some ad, n, c, (List.range n).map (fun i => (F i).1), (List.range n).map (fun i => (F i).2), rfl, ⟨by simp, hl, ?_, .inr ⟨ad.block, ad.off, ?_, ?_⟩⟩, by simp, ?_⟩
      · unfold maxLen at hm; omega
      · obtain ⟨b, o, s⟩ := ad
        simp only at hsp
        rw [hsp]
      · intro i v hi
        obtain ⟨hlt, hv⟩ := List.getElem?_eq_some_iff.1 hi
        simp only [List.length_map, List.length_range] at hlt
        simp only [List.getElem_map, List.getElem_range] at hv
        rw [← hv]
        exact (hF i hlt).1
      · intro i v hi
        obtain ⟨hlt, hv⟩ := List.getElem?_eq_some_iff.1 hi
        simp only [List.length_map, List.length_range] at hlt
        simp only [List.getElem_map, List.getElem_range] at hv
        obtain ⟨xs, hs, hval⟩ := (hF i hlt).2
        refine ⟨xs, by rw [← hv]; exact hs, ?_⟩
        rw [hval, List.getD_eq_getElem?_getD, List.getElem?_map, List.getElem?_range hlt]
        rfl
  | _ => simp [Cell.ok, hu] at hok

set_option maxRecDepth 100000 in
theorem decs_of {w : World} {a : Option Addr} {n c : Nat} {vs : List (Option Addr × Nat × Nat)} (h : DSl w a n c vs) (hx : ∀ (k : Nat) (x : Option Addr × Nat × Nat), vs[k]? = some x → ∃ xs, Sl w x.1 x.2.1 x.2.2 xs) :
    ∃ xs, Decs w a n c vs xs := by
  have key : ∀ k, k < n → ∃ xs : List Nat, ∀ v, vs[k]? = some v → Sl w v.1 v.2.1 v.2.2 xs := fun k hk => by
    obtain ⟨v, hv⟩ : ∃ v, vs[k]? = some v := ⟨_, List.getElem?_eq_getElem (by rw [h.len]; exact hk)⟩
    obtain ⟨xs, h⟩ := hx k v hv
    exact ⟨xs, fun v' hv' => by rw [hv] at hv'; cases hv'; exact h⟩
  obtain ⟨F, hF⟩ := choose_lt key
  refine ⟨(List.range n).map F, h, by simp, fun i v x hv hx => ?_⟩
  obtain ⟨hlt, hv2⟩ := List.getElem?_eq_some_iff.1 hx
  simp only [List.length_map, List.length_range] at hlt
  simp only [List.getElem_map, List.getElem_range] at hv2
  rw [← hv2]
  exact hF i hlt v hv
set_option maxRecDepth 100000 in
theorem open_decsL {H : Type} {enc : TypeId × Value → H} {W : World} {base : Nat} {v : Value} {d : DataW H} {p : List MemPlace} (hv : Value.okWide Tryz.prog W .any base 55 v)
    (h : DataW.Trod enc Tryz.prog W 0 (fun _ => true) true 55 v d p) : ∃ a n c vs xs, v = .slice a n c ∧ Decs W a n c vs xs := by
  obtain ⟨a, n, c, vs, ps, hv, hd, -, hx⟩ := open_decs hv h
  obtain ⟨xs, hxs⟩ := decs_of hd fun k x hk => by obtain ⟨xs, h1, -⟩ := hx k x hk; exact ⟨xs, h1⟩
  exact ⟨a, n, c, vs, xs, hv, hxs⟩

end Go.Proofs.YtimcnhlcepemjaaGreatDoor
