/- A slice of decimals: each cell holds a slice. -/
import Derived.Test.YtimcnhlcepemjaaGreatDoorMG
namespace Go.Proofs.YtimcnhlcepemjaaGreatDoor
open Go.RowKit

/-- A slice of numbers with places: each cell holds a slice. -/
structure DSl (w : World) (a : Option Addr) (n c : Nat) (vs : List (Option Addr × Nat × Nat)) : Prop where
  len : vs.length = n
  cap : n ≤ c
  big : c ≤ 9223372036854775807
  at_ : (a = none ∧ n = 0 ∧ c = 0) ∨ ∃ b off, a = some ⟨b, off, none⟩ ∧ ∀ i v, vs[i]? = some v → w.cell? ⟨b, off + i, none⟩ = some (.slice v.1 v.2.1 v.2.2)
theorem DSl.old {w w' : World} {a : Option Addr} {n c : Nat} {vs : List (Option Addr × Nat × Nat)} (h : DSl w a n c vs) (hg : Ext w w') : DSl w' a n c vs := by
  refine ⟨h.len, h.cap, h.big, ?_⟩
  rcases h.at_ with hn | ⟨b, off, rfl, hc⟩
  · exact .inl hn
  · exact .inr ⟨b, off, rfl, fun i v hi => hg.cell (hc i v hi)⟩
theorem DSl.ix {w : World} {a : Option Addr} {n c : Nat} {vs : List (Option Addr × Nat × Nat)} (h : DSl w a n c vs) {P : Program} {T E : TypeId} {i : TypeInfo}
    (hT : P.underlying T = some (.slice E)) (hi : P.info? E = some i) (hs : i.size = 1) :
    ∃ b off, (∀ k, k < n → ∀ w' : World, (Instr.indexAt T (.slice a n c) (.int .i64 (k : Int))).run P w' = .ok (.pointer (some ⟨b, off + k, none⟩)) w') ∧
      (∀ k v, vs[k]? = some v → w.cell? ⟨b, off + k, none⟩ = some (.slice v.1 v.2.1 v.2.2)) := by
  rcases h.at_ with ⟨rfl, rfl, rfl⟩ | ⟨b, off, rfl, hc⟩
  · refine ⟨0, 0, fun k hk => absurd hk (by omega), fun k v hk => ?_⟩
    have hl := h.len
    rw [List.eq_nil_of_length_eq_zero hl] at hk
    simp at hk
  · refine ⟨b, off, fun k hk w' => ?_, hc⟩
    have hr := run_sizeOf hi w'
    rw [hs] at hr
    simp only [Instr.indexAt, Sem.run_bind, run_underlying hT, Result.andThen_ok, asIntOf, Sem.run_pure]
    have h1 : (0 : Int) ≤ (k : Int) ∧ (k : Int) < (n : Int) := ⟨by omega, by omega⟩
    simp [hk, hr, Addr.add]

theorem infoDec : (Tryz.prog.info? 35).map (fun i => (i.size, i.bytes)) = some (1, 24) := by kernel_rfl

end Go.Proofs.YtimcnhlcepemjaaGreatDoor
