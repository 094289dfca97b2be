/- LedgerFits: what fits is what the document says, for every payment against what is owed. Condition: none beyond the row's own list of tables of Go's library. -/
import Derived.Test.YtimcnhlcepemjaaGreatDoorFits
import Derived.Test.YtimcnhlcepemjaaGreatDoorWrapL
namespace Go.Proofs.YtimcnhlcepemjaaGreatDoor.ledgerFits
open Go.ChangeShapes Go.WideShapes Go.ChangeAt Go.RowKit

set_option maxRecDepth 100000 in
theorem contract (H : Type) (enc : TypeId × Value → H) (W : World) (base : Nat) (args : Array Value) (ds gs : List (DataW H)) (before : List MemPlace)
    (hval : ∀ (j : Nat) t v, Tryz.f4.params[j]? = some t → args[j]? = some v → Value.okWide Tryz.prog W .any base t v)
    (hW : DataW.Whole enc Tryz.prog Tryz.f4.params.toList Rows.ledgerFitsSpec.vars false W args.toList ds gs before) (hL : laidMetH Tryz.prog Rows.ledgerFitsRow.laid W) (hsh : W.ShapedOpen Tryz.prog) :
    Calls Tryz.prog 4 args W fun e W' => ∃ v, e = .returned v ∧ Rows.ledgerFitsSpec.post enc Tryz.prog Tryz.f4 false true false false W args v W' := by
  have hW' := hW
  obtain ⟨p, q, hA0, hV, rfl, hfz, hnd⟩ := hW
  have hA : DataW.TrodAll enc Tryz.prog W 0 (fun _ => true) true Tryz.f4.params.toList args.toList ds p := hA0
  rw [Tryz.params4] at hA hval
  obtain ⟨v0, vs0, d0, ds0, p0, q0, hargs, rfl, rfl, h0, r0⟩ := trodAll_cons hA
  obtain ⟨v1, vs1, d1, ds1, p1, q1, rfl, rfl, rfl, h1, r1⟩ := trodAll_cons r0
  obtain ⟨v2, vs2, d2, ds2, p2, q2, rfl, rfl, rfl, h2, r2⟩ := trodAll_cons r1
  obtain ⟨v3, vs3, d3, ds3, p3, q3, rfl, rfl, rfl, h3, r3⟩ := trodAll_cons r2
  obtain ⟨v4, vs4, d4, ds4, p4, q4, rfl, rfl, rfl, h4, r4⟩ := trodAll_cons r3
  obtain ⟨rfl, rfl, rfl⟩ := trodAll_nil r4
  obtain rfl : args = #[v0, v1, v2, v3, v4] := by cases args; simp_all
  obtain ⟨rfl, rfl⟩ := trodVars_none hV
  obtain ⟨a0, m0, c0, b0, n0, e0, xs0, ys0, rfl, hS0, hT0⟩ := open_rat (hval 0 _ v0 rfl rfl) h0
  obtain ⟨n1, rfl, hn1⟩ := open_u64 (hval 1 _ v1 rfl rfl) h1
  obtain ⟨a2, m2, c2, xs2, rfl, hS2⟩ := open_dec (hval 2 _ v2 rfl rfl) h2
  obtain ⟨n3, rfl, hn3⟩ := open_i64 (hval 3 _ v3 rfl rfl) h3
  obtain ⟨n4, rfl, hn4⟩ := open_i64 (hval 4 _ v4 rfl rfl) h4
  refine (lfitsl_law hS0 hT0 hn1 hS2 hn3 hn4 (tz_of_laid hL (by kernel_rfl)) (maxL_of_shape hsh)).mono ?_
  rintro e W' ⟨rfl, hE⟩
  exact ⟨_, rfl, post_law rfl (of_decide_eq_true (by kernel_rfl)) rfl hW' ⟨rfl, rfl, rfl⟩ hE⟩

theorem laid_met (os : Os) : laidMet Tryz.prog Rows.ledgerFitsRow.laid ((laidWorld os).forCall (fun _ _ => 0) ⟨#[], #[.agg #[.slice none 0 0, .slice none 0 0], .int .u64 0, .agg #[.slice none 0 0], .int .i64 0, .int .i64 0], []⟩).memory :=
  laidMet_of_run' 8 (by kernel_rfl) (by kernel_rfl)
theorem reads (os : Os) {H : Type} (enc : TypeId × Value → H) : ∃ places, DataW.whole enc Tryz.prog ((laidWorld os).forCall (fun _ _ => 0) ⟨#[], #[.agg #[.slice none 0 0, .slice none 0 0], .int .u64 0, .agg #[.slice none 0 0], .int .i64 0, .int .i64 0], []⟩).memory Tryz.f4.params.toList Rows.ledgerFitsSpec.vars false #[(.agg #[.slice none 0 0, .slice none 0 0] : Value), .int .u64 0, .agg #[.slice none 0 0], .int .i64 0, .int .i64 0].toList 8 = some ([.agg [.nil, .nil], .lit (.int .u64 0), .agg [.nil], .lit (.int .i64 0), .lit (.int .i64 0)], [], places) :=
  ⟨[], by kernel_rfl⟩

set_option maxRecDepth 100000 in
theorem lifted (os : Os) (started : os.Started) (H : Type) (enc : TypeId × Value → H) (F : Stop.Interp) :
    ReturnsInHanded {} Tryz.checked os 4 .any ((OpenSpec.ofChange Rows.ledgerFitsSpec).preRow enc Tryz.prog Tryz.f4 Rows.ledgerFitsRow.domain false Rows.ledgerFitsRow.laid) (((OpenSpec.ofChange Rows.ledgerFitsSpec).at F).post enc Tryz.prog Tryz.f4 false true false false) := by
  obtain ⟨places, hx⟩ := reads os enc
  refine returnsInHanded_of_row (C := Tryz.checked) (s := OpenSpec.ofChange Rows.ledgerFitsSpec) own_knob started (by kernel_rfl) Tryz.func4
    (witness_row_at (enc := enc) (C := Tryz.checked) false (laidWorld os) #[.agg #[.slice none 0 0, .slice none 0 0], .int .u64 0, .agg #[.slice none 0 0], .int .i64 0, .int .i64 0] rfl (by kernel_rfl) (by kernel_rfl) (by kernel_rfl)
      (OpenSpec.preRow_of_cond 8 hx (by kernel_rfl) (fun k hk => by cases hk) (by kernel_rfl) (laid_met os))) ?_
  intro W base args ds gs before hval hW _ _ _ hL hsh _
  exact contract H enc W base args ds gs before hval hW hL hsh

theorem said : Rows.LedgerFitsSaid :=
  OpenClaim.holds_of_cond 4 Tryz.f4 rfl rfl rfl rfl rfl rfl rfl ⟨rfl, rfl, rfl, rfl, rfl⟩ rfl rfl rfl rfl rfl (by kernel_rfl) Tryz.func4 (by kernel_rfl)
    (of_decide_eq_true (by kernel_rfl)) (by unfold Func.isWrapper; first | (rw [if_pos (by decide +kernel)]; kernel_rfl) | (rw [if_neg (by decide +kernel)]; exact ⟨rfl, rfl⟩))
    (fun os started H enc _ F => by rw [OpenClaim.pre_eq_preRow]; exact lifted os started H enc F)

/-- No parameter wants a stand-in; the program's own looks are on. -/
theorem plain (f : FuncId) (fn : Func) (hf : Tryz.pinned.checked.prog.funcNamed "glean/gleanlaw24.LedgerFits" = some f) (hfn : Tryz.pinned.checked.prog.funcs[f]? = some fn) :
    true = Tryz.pinned.checked.prog.looks [] ∧ ∀ (j : Nat) t, fn.params[j]? = some t → Tryz.pinned.checked.prog.wantsStandIn t = false := by
  obtain rfl : f = 4 := Option.some.inj ((show Tryz.prog.funcNamed "glean/gleanlaw24.LedgerFits" = some 4 by kernel_rfl).symm.trans hf) |>.symm
  obtain rfl : fn = Tryz.f4 := (Option.some.inj (Tryz.func4.symm.trans hfn)).symm
  refine ⟨by kernel_rfl, fun j t ht => ?_⟩
  have hall : ∀ t ∈ Tryz.f4.params.toList, Tryz.prog.wantsStandIn t = false := of_decide_eq_true (by kernel_rfl)
  exact hall t (by simpa using Array.mem_of_getElem? ht)

theorem card : Rows.LedgerFitsCardSaid :=
  Claim7.holds_tied_plain_at .later [] _ _ _ _ said (fun _ h => by cases h) (by kernel_rfl) (fun _ h => by cases h) ledgerFits_row_tie rfl ⟨rfl, rfl⟩ (by kernel_rfl) rfl plain (by kernel_rfl)
end Go.Proofs.YtimcnhlcepemjaaGreatDoor.ledgerFits
