
/- An argument that is a script: a slice of steps. -/
import Derived.Test.YtimcnhlcepemjaaGreatDoorMN
import Derived.Test.YtimcnhlcepemjaaGreatDoorPlW
import Derived.Deep.Slices
namespace Go.Proofs.YtimcnhlcepemjaaGreatDoor
open Go.ChangeShapes Go.WideShapes Go.ChangeAt Go.RowKit Go.Deep

instance : Inhabited StepV := ⟨⟨0, 0, 0, 0, 0, (none, 0, 0), (none, 0, 0), [], []⟩⟩
theorem cell_u64 {H : Type} {enc : TypeId × Value → H} {W : World} {fuel : Nat} {v : Value} {y : DataW H × List MemPlace}
    (h : DataW.trod enc Tryz.prog W 0 (fun _ => true) true fuel 31 [v] = some y) : ∃ n : Nat, v = .int .u64 (n : Int) ∧ n < B64 := by
  obtain ⟨n, hc, -, hw⟩ := DataW.trod_int Tryz.underlying31 h
  have hv : v = .int .u64 n := (List.cons.inj hc).1
  have := wf_u64.1 hw
  exact ⟨n.toNat, by rw [hv, Int.toNat_of_nonneg this.1], by have := B64_eq; omega⟩
theorem cell_i64 {H : Type} {enc : TypeId × Value → H} {W : World} {fuel : Nat} {v : Value} {y : DataW H × List MemPlace}
    (h : DataW.trod enc Tryz.prog W 0 (fun _ => true) true fuel 3 [v] = some y) : ∃ n : Int, v = .int .i64 n := by
  obtain ⟨n, hc, -, -⟩ := DataW.trod_int Tryz.underlying3 h
  exact ⟨n, (List.cons.inj hc).1⟩
theorem cell_dec {H : Type} {enc : TypeId × Value → H} {W : World} {fuel : Nat} {v : Value} {y : DataW H × List MemPlace}
    (h : DataW.trod enc Tryz.prog W 0 (fun _ => true) true fuel 35 [v] = some y) : ∃ a n c xs, v = .slice a n c ∧ Sl W a n c xs := by
  obtain ⟨y0, n0, -, -, hf0⟩ := trod_struct1 Tryz.underlying35 h
  have hsz : Tryz.prog.cellsOf 33 = 1 := by kernel_rfl
  simp only [List.drop_zero, hsz] at hf0
  exact cell_sl (by simpa using hf0)
set_option maxRecDepth 100000 in
theorem step_of {H : Type} {enc : TypeId × Value → H} {W : World} {fuel : Nat} {cs : List Value} {x : DataW H × List MemPlace}
    (h : DataW.trod enc Tryz.prog W 0 (fun _ => true) true fuel 37 cs = some x) :
    ∃ s : StepV, cs = [.int .i64 s.q, .int .u64 (s.v : Int), .int .u64 (s.u : Int), .int .u64 (s.n : Int), .int .u64 (s.m : Int), .slice s.d.1 s.d.2.1 s.d.2.2, .slice s.e.1 s.e.2.1 s.e.2.2] ∧
      s.v < B64 ∧ s.u < B64 ∧ s.n < B64 ∧ s.m < B64 ∧ Sl W s.d.1 s.d.2.1 s.d.2.2 s.xs ∧ Sl W s.e.1 s.e.2.1 s.e.2.2 s.ys := by
  have hu : Tryz.prog.underlying 37 = _ := Tryz.underlying37
  obtain ⟨xs, n, -, -, hl, hlen, hf⟩ := DataW.trod_struct hu h
  have hc7 : Tryz.prog.cellsOf 37 = 7 := by kernel_rfl
  rw [hc7] at hl
  match cs, hl with
  | [c0, c1, c2, c3, c4, c5, c6], _ =>
    match xs, hlen with
    | [y0, y1, y2, y3, y4, y5, y6], _ =>
      have f0 := hf 0 _ rfl; have f1 := hf 1 _ rfl; have f2 := hf 2 _ rfl; have f3 := hf 3 _ rfl; have f4 := hf 4 _ rfl; have f5 := hf 5 _ rfl; have f6 := hf 6 _ rfl
      obtain ⟨q, rfl⟩ := cell_i64 f0
      obtain ⟨v, rfl, hv⟩ := cell_u64 f1
      obtain ⟨u, rfl, hu2⟩ := cell_u64 f2
      obtain ⟨k, rfl, hk⟩ := cell_u64 f3
      obtain ⟨m, rfl, hm⟩ := cell_u64 f4
      obtain ⟨a1, n1, c1', xs1, rfl, h1⟩ := cell_dec f5
      obtain ⟨a2, n2, c2', xs2, rfl, h2⟩ := cell_dec f6
      exact ⟨⟨q, v, u, k, m, (a1, n1, c1'), (a2, n2, c2'), xs1, xs2⟩, rfl, hv, hu2, hk, hm, h1, h2⟩
set_option maxRecDepth 100000 in
theorem open_steps {H : Type} {enc : TypeId × Value → H} {W : World} {base : Nat} {v : Value} {d : DataW H} {p : List MemPlace} (hv : Value.okWide Tryz.prog W .any base 22 v)
    (h : DataW.Trod enc Tryz.prog W 0 (fun _ => true) true 22 v d p) : ∃ a n c ss, v = .slice a n c ∧ StSl W a n c ss := by
  have hu : Tryz.prog.underlying 22 = _ := Tryz.underlying22
  have hok := hv
  simp only [Value.okWide, hu] at hok
  simp only [Cell.okWide, hu] at hok
  obtain ⟨fuel, hf⟩ := h
  cases v with
  | slice a n c =>
    rcases open_slice (cs := [.slice a n c]) hu hf with ⟨hcs, -⟩ | ⟨ad, len, cap, m, fl, D, Pl, hcs, -, hl, hm, hmm, -, hx⟩
    · simp only [List.cons.injEq, Value.slice.injEq, and_true] at hcs
      obtain ⟨rfl, rfl, rfl⟩ := hcs
      exact ⟨none, 0, 0, [], rfl, ⟨rfl, Nat.le_refl _, by decide, .inl ⟨rfl, rfl, rfl⟩⟩⟩
    · simp only [List.cons.injEq, Value.slice.injEq, and_true] at hcs
      obtain ⟨rfl, rfl, rfl⟩ := hcs
      have hsp : ad.spot = none := by
        simp only [Cell.ok, hu] at hok
        exact hok.2.2.2.1
      simp only [if_true] at hmm
      have hadd : ∀ i, ad.add i = ⟨ad.block, ad.off + i, none⟩ := by
        intro i
        obtain ⟨b, o, s⟩ := ad
        simp only at hsp
        subst hsp
        unfold Addr.add
        split
        · rename_i h0; subst h0; rfl
        · rfl
      have hc7 : Tryz.prog.cellsOf 37 = 7 := by kernel_rfl
      have each : ∀ i, i < n → ∃ s : StepV, StepAt W ad.block (ad.off + i * 7) s := by
        intro i hi
        obtain ⟨cs', h1, h2⟩ := hx i (by omega)
        rw [hc7] at h1
        obtain ⟨s, rfl, k1, k2, k3, k4, k5, k6⟩ := step_of h2
        obtain ⟨-, -, hc⟩ := World.cells?_some h1
        have hcell : ∀ j, j < 7 → W.cell? ⟨ad.block, ad.off + i * 7 + j, none⟩ = ([.int .i64 s.q, .int .u64 (s.v : Int), .int .u64 (s.u : Int), .int .u64 (s.n : Int), .int .u64 (s.m : Int), .slice s.d.1 s.d.2.1 s.d.2.2, .slice s.e.1 s.e.2.1 s.e.2.2] : List Value)[j]? := fun j hj => by
          rw [← hc j hj, hadd, Addr.add_lit]
        exact ⟨s, hcell 0 (by decide), hcell 1 (by decide), hcell 2 (by decide), hcell 3 (by decide), hcell 4 (by decide), hcell 5 (by decide), hcell 6 (by decide), k1, k2, k3, k4, k5, k6⟩
      obtain ⟨F, hF⟩ := choose_lt each
      refine ⟨some ad, n, c, (List.range n).map F, rfl, ⟨by simp, hl, by unfold maxLen at hm; omega, .inr ⟨ad.block, ad.off, ?_, fun i s hi => ?_⟩⟩⟩
      · obtain ⟨b, o, s⟩ := ad
        simp only at hsp
        rw [hsp]
      · obtain ⟨hlt, hv⟩ := List.getElem?_eq_some_iff.1 hi
        simp only [List.length_map, List.length_range] at hlt
        simp only [List.getElem_map, List.getElem_range] at hv
        rw [← hv]
        exact hF i hlt
  | _ => simp [Cell.ok, hu] at hok

end Go.Proofs.YtimcnhlcepemjaaGreatDoor
