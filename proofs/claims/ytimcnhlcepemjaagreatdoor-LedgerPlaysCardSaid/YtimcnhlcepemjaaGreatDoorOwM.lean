
/- What is owed and held in all, as numbers; what settling leaves. -/
import Derived.Test.YtimcnhlcepemjaaGreatDoorHeld
namespace Go.Proofs.YtimcnhlcepemjaaGreatDoor
open Go.RowKit

theorem sz_nil : sz (0, 0) = 1 := by unfold sz; simp only [ln_zero]; omega
theorem lowes_as {w : World} {b N H : Nat} {M : Stakes} (h : Led w b N M) (hN : N ≤ 1000000) {p : Nat} (hp : w.cell? ⟨p, 0, none⟩ = some (.map (some b))) {v : Nat} (hv : v < B64) (htz : TzTab w) (hH : H ≤ 10000) (hNH : N * (H + 1) ≤ 90000) (hok : ∀ d s, M v d = some s → sz s.o ≤ H)
    {q : Nat × Nat} (hq : ∀ ds, Dels M v ds → ds.foldl (fun a d => uOwes a (got M v d)) (0, 1) = q) : Calls Tryz.prog 29 #[.pointer (some ⟨p, 0, none⟩), .int .u64 (v : Int)] w (MQ w b N M q) :=
  (lowes_calls h hN hp hv htz hH hNH hok).mono fun _ _ ⟨ds, hd, r⟩ => by rw [hq ds hd] at r; exact r
theorem lstakes_as {w : World} {b N H : Nat} {M : Stakes} (h : Led w b N M) (hN : N ≤ 1000000) {p : Nat} (hp : w.cell? ⟨p, 0, none⟩ = some (.map (some b))) {v : Nat} (hv : v < B64) (htz : TzTab w) (hH : H ≤ 10000) (hNH : N * (H + 1) ≤ 90000) (hok : ∀ d s, M v d = some s → sz s.h ≤ H)
    {q : Nat × Nat} (hq : ∀ ds, Dels M v ds → ds.foldl (fun a d => uStakes a (got M v d)) (0, 1) = q) : Calls Tryz.prog 27 #[.pointer (some ⟨p, 0, none⟩), .int .u64 (v : Int)] w (MQ w b N M q) :=
  (lstakes_calls h hN hp hv htz hH hNH hok).mono fun _ _ ⟨ds, hd, r⟩ => by rw [hq ds hd] at r; exact r
theorem lsettle_as {w : World} {b N : Nat} {M : Stakes} (h : Led w b N M) (hN : N ≤ 1000000) {p : Nat} (hp : w.cell? ⟨p, 0, none⟩ = some (.map (some b))) {v d : Nat} (hv : v < B64) (hd : d < B64) (hsz : sz (got M v d).o ≤ 90000) (htz : TzTab w)
    {M1 : Stakes} {q : Nat × Nat} {pp kk : Int} (e1 : settleM M v d = M1) (e2 : canQ (got M v d).o = q) (e3 : settleP M v d = pp) (e4 : (got M v d).k = kk) :
    Calls Tryz.prog 14 #[.pointer (some ⟨p, 0, none⟩), .int .u64 (v : Int), .int .u64 (d : Int)] w (MS w b N M1 q pp kk) := by
  rw [← e1, ← e2, ← e3, ← e4]
  exact lsettle_calls h hN hp hv hd hsz htz
end Go.Proofs.YtimcnhlcepemjaaGreatDoor
