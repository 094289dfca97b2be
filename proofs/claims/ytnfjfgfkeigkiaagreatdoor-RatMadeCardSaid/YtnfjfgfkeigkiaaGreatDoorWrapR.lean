/- From the walks to the rows: fractions, slices of fractions, ints; the other table. -/
import Derived.Test.YtnfjfgfkeigkiaaGreatDoorWrapG
import Derived.Test.YtnfjfgfkeigkiaaGreatDoorSpR
import Derived.Deep.SlicePairs
namespace Go.Proofs.YtnfjfgfkeigkiaaGreatDoor
open Go.ChangeShapes Go.WideShapes Go.ChangeAt Go.RowKit Go.Deep

theorem spot_of_cell {W : World} {ad : Addr} {u : Value} (h : W.cell? ad = some u) : ad.spot = none := by
  unfold World.cell? at h
  split at h
  · split at h
    · cases h
    · rename_i hs; simpa using hs
  · cases h

/-- Whatever the reading, and wherever a slice without room points: a slice of limbs. -/
theorem sl_of_trod0 {H : Type} {enc : TypeId × Value → H} {W : World} {fuel : Nat} {a : Option Addr} {n c : Nat} {y : DataW H × List MemPlace}
    (h : DataW.trod enc Tryz.prog W 0 (fun _ => true) true fuel 23 [.slice a n c] = some y) : ∃ xs, Sl W a n c xs := by
  rcases open_ints Tryz.underlying23 Tryz.underlying48 (by kernel_rfl) h with ⟨hcs, -⟩ | ⟨ad, len, cap, zs, hcs, -, hl, hm, hz, -, hcell, -⟩
  · simp only [List.cons.injEq, Value.slice.injEq, and_true] at hcs
    obtain ⟨rfl, rfl, rfl⟩ := hcs
    exact ⟨[], Sl.nil W⟩
  · simp only [List.cons.injEq, Value.slice.injEq, and_true] at hcs
    obtain ⟨rfl, rfl, rfl⟩ := hcs
    simp only [if_true] at hz
    rcases Nat.eq_zero_or_pos c with h0 | h0
    · subst h0
      obtain rfl : n = 0 := by omega
      exact ⟨[], ⟨rfl, Nat.le_refl _, by decide, Bd.nil _, .inl ⟨rfl, rfl⟩⟩⟩
    · refine sl_of_trod (fun ad' e => ?_) h
      obtain rfl : ad = ad' := Option.some.inj e
      exact spot_of_cell (hcell 0 (by omega))
/-- A cell that is read as limbs. -/
theorem cell_sl {H : Type} {enc : TypeId × Value → H} {W : World} {fuel : Nat} {v : Value} {y : DataW H × List MemPlace}
    (h : DataW.trod enc Tryz.prog W 0 (fun _ => true) true fuel 23 [v] = some y) : ∃ a n c xs, v = .slice a n c ∧ Sl W a n c xs := by
  obtain ⟨b, k, q, rfl⟩ : ∃ b k q, v = .slice b k q := by
    rcases open_ints Tryz.underlying23 Tryz.underlying48 (by kernel_rfl) h with ⟨hcs, -⟩ | ⟨ad', len', cap', zs, hcs, -⟩
    · exact ⟨_, _, _, (List.cons.inj hcs).1⟩
    · exact ⟨_, _, _, (List.cons.inj hcs).1⟩
  obtain ⟨xs, hxs⟩ := sl_of_trod0 h
  exact ⟨b, k, q, xs, rfl, hxs⟩

set_option maxRecDepth 100000 in
/-- An argument of the type Rat. -/
theorem open_rat {H : Type} {enc : TypeId × Value → H} {W : World} {base : Nat} {v : Value} {d : DataW H} {p : List MemPlace} (hv : Value.okWide Tryz.prog W .any base 25 v)
    (h : DataW.Trod enc Tryz.prog W 0 (fun _ => true) true 25 v d p) : ∃ a n c b m e xs ys, v = RatV a n c b m e ∧ Sl W a n c xs ∧ Sl W b m e ys := by
  have hu : Tryz.prog.underlying 25 = _ := Tryz.underlying25
  have hok := hv
  simp only [Value.okWide, hu] at hok
  obtain ⟨cs, rfl, hcs, -⟩ := hok
  have hc1 : Tryz.prog.cellsOf 25 = 2 := by kernel_rfl
  rw [hc1] at hcs
  obtain ⟨u, v, rfl⟩ : ∃ u v, cs = #[u, v] := by
    obtain ⟨l⟩ := cs
    match l, hcs with
    | [u, v], _ => exact ⟨u, v, rfl⟩
  obtain ⟨fuel, hf⟩ := h
  obtain ⟨y0, y1, n0, -, -, hf0, hf1⟩ := trod_struct2 hu hf
  have hsz : Tryz.prog.cellsOf 23 = 1 := by kernel_rfl
  simp only [Value.cells, List.drop_zero, hsz] at hf0 hf1
  obtain ⟨a, n, c, xs, rfl, hs⟩ := cell_sl (by simpa using hf0)
  obtain ⟨b, m, e, ys, rfl, hs2⟩ := cell_sl (by simpa using hf1)
  exact ⟨a, n, c, b, m, e, xs, ys, rfl, hs, hs2⟩

set_option maxRecDepth 100000 in
/-- An argument of the type int. -/
theorem open_i64 {H : Type} {enc : TypeId × Value → H} {W : World} {base : Nat} {v : Value} {d : DataW H} {p : List MemPlace} (hv : Value.okWide Tryz.prog W .any base 3 v)
    (h : DataW.Trod enc Tryz.prog W 0 (fun _ => true) true 3 v d p) : ∃ n : Int, v = .int .i64 n ∧ -9223372036854775808 ≤ n ∧ n ≤ 9223372036854775807 := by
  obtain ⟨n, rfl, -, -, hw⟩ := open_int Tryz.underlying3 hv h
  simp only [Lit.wf, Bool.and_eq_true, decide_eq_true_eq] at hw
  have e1 : IntKind.i64.min = -9223372036854775808 := by decide
  have e2 : IntKind.i64.max = 9223372036854775807 := by decide
  rw [e1, e2] at hw
  exact ⟨n, rfl, hw.1, hw.2⟩

set_option maxRecDepth 100000 in
/-- An argument of the type []Rat. -/
theorem open_rats {H : Type} {enc : TypeId × Value → H} {W : World} {base : Nat} {v : Value} {d : DataW H} {p : List MemPlace} (hv : Value.okWide Tryz.prog W .any base 36 v)
    (h : DataW.Trod enc Tryz.prog W 0 (fun _ => true) true 36 v d p) :
    ∃ (a : Option Addr) (n c : Nat) (vs : List (Part × Part)) (ps : List (Nat × Nat)), v = .slice a n c ∧ RSl W a n c vs ∧ RVal0 W vs ps := by
  have hu : Tryz.prog.underlying 36 = _ := Tryz.underlying36
  have hue : Tryz.prog.underlying 25 = _ := Tryz.underlying25
  have hok := hv
  simp only [Value.okWide, hu] at hok
  simp only [Cell.okWide, hu] at hok
  obtain ⟨fuel, hf⟩ := h
  cases v with
  | slice a n c =>
    rcases open_slice_pairs (cs := [.slice a n c]) hu hue (by kernel_rfl) rfl rfl (by kernel_rfl) (by kernel_rfl) hf with ⟨hcs, -⟩ | ⟨ad, len, cap, m, fl, V0, V1, D0, D1, P0, P1, hcs, -, hl, hm, hmm, -, hx⟩
    · simp only [List.cons.injEq, Value.slice.injEq, and_true] at hcs
      obtain ⟨rfl, rfl, rfl⟩ := hcs
      exact ⟨none, 0, 0, [], [], rfl, ⟨rfl, Nat.le_refl _, by decide, .inl rfl⟩, rfl, fun k x q hk => by simp at hk⟩
    · simp only [List.cons.injEq, Value.slice.injEq, and_true] at hcs
      obtain ⟨rfl, rfl, rfl⟩ := hcs
      have hsp : ad.spot = none := by
        simp only [Cell.ok, hu] at hok
        exact hok.2.2.2.1
      simp only [if_true] at hmm
      have hadd : ∀ i, ad.add i = ⟨ad.block, ad.off + i, none⟩ := by
        intro i
        obtain ⟨b, o, s⟩ := ad
        simp only at hsp
        subst hsp
        unfold Addr.add
        split
        · rename_i h0; subst h0; rfl
        · rfl
      have each : ∀ i, i < n → ∃ x : (Part × Part) × (Nat × Nat), (W.cell? ⟨ad.block, ad.off + i * 2, none⟩ = some (.slice x.1.1.1 x.1.1.2.1 x.1.1.2.2) ∧ W.cell? ⟨ad.block, ad.off + i * 2 + 1, none⟩ = some (.slice x.1.2.1 x.1.2.2.1 x.1.2.2.2)) ∧
          SlV W x.1.1.1 x.1.1.2.1 x.1.1.2.2 x.2.1 ∧ SlV W x.1.2.1 x.1.2.2.1 x.1.2.2.2 x.2.2 := by
        intro i hi
        obtain ⟨h1, h2, hf0, hf1⟩ := hx i (by omega)
        obtain ⟨b, k, q, xs, hV, hs⟩ := cell_sl hf0
        obtain ⟨b', k', q', ys, hV', hs'⟩ := cell_sl hf1
        refine ⟨(((b, k, q), (b', k', q')), (val xs, val ys)), ⟨?_, ?_⟩, ⟨xs, hs, rfl⟩, ⟨ys, hs', rfl⟩⟩
        · rw [← hadd, h1, hV]
        · rw [Nat.add_assoc, ← hadd, h2, hV']
      obtain ⟨F, hF⟩ := choose_lt each
      refine ⟨some ad, n, c, (List.range n).map (fun i => (F i).1), (List.range n).map (fun i => (F i).2), rfl, ⟨by simp, hl, ?_, .inr ⟨ad.block, ad.off, ?_, ?_⟩⟩, by simp, ?_⟩
      · unfold maxLen at hm; omega
      · obtain ⟨b, o, s⟩ := ad
        simp only at hsp
        rw [hsp]
      · intro i v hi
        obtain ⟨hlt, hv⟩ := List.getElem?_eq_some_iff.1 hi
        simp only [List.length_map, List.length_range] at hlt
        simp only [List.getElem_map, List.getElem_range] at hv
        rw [← hv]
        exact (hF i hlt).1
      · intro i v q hi hq
        obtain ⟨hlt, hv⟩ := List.getElem?_eq_some_iff.1 hi
        simp only [List.length_map, List.length_range] at hlt
        simp only [List.getElem_map, List.getElem_range] at hv
        obtain ⟨hlt2, hq'⟩ := List.getElem?_eq_some_iff.1 hq
        simp only [List.getElem_map, List.getElem_range] at hq'
        rw [← hv, ← hq']
        exact (hF i hlt).2
  | _ => simp [Cell.ok, hu] at hok

/-- The table that math/bits reads. -/
theorem gTzType : (Tryz.prog.globals[0]?).map (·.type) = some 153 := by kernel_rfl
theorem tz_of_laid {W : World} {laid : List (String × DataW Unit)} (h : laidMetH Tryz.prog laid W)
    (e : laid.filter (fun x => x.1 == "math/bits.deBruijn64tab") = [("math/bits.deBruijn64tab", Lib.tabData .u8 (Lib.deBruijn64tab.map fun x : Nat => (x : Int)))]) : TzTab W := by
  have h1 := laidMetH.filter (fun x => x.1 == "math/bits.deBruijn64tab") h
  rw [e] at h1
  exact Lib.tabIs_of_head (rest := []) gTz gTzType Tryz.underlying153 Tryz.underlying5 (by kernel_rfl) (by kernel_rfl) h1
end Go.Proofs.YtnfjfgfkeigkiaaGreatDoor
