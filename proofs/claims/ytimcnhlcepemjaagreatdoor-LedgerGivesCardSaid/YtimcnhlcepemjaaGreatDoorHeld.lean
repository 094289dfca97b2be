/- gleanlaw24.held: a ledger of some stakes. -/
import Derived.Test.YtimcnhlcepemjaaGreatDoorMJ
import Derived.Test.YtimcnhlcepemjaaGreatDoorDSl
namespace Go.Proofs.YtimcnhlcepemjaaGreatDoor
open Go.RowKit

theorem DSl.lk {w w' : World} {a : Option Addr} {n c : Nat} {vs : List (Option Addr × Nat × Nat)} (h : DSl w a n c vs) (hg : Lk w w') : DSl w' a n c vs := by
  refine ⟨h.len, h.cap, h.big, ?_⟩
  rcases h.at_ with hn | ⟨b, off, rfl, hc⟩
  · exact .inl hn
  · exact .inr ⟨b, off, rfl, fun i v hi => hg.cell (hc i v hi)⟩
/-- Decimals in a slice. -/
structure Decs (w : World) (a : Option Addr) (n c : Nat) (vs : List (Option Addr × Nat × Nat)) (xs : List (List Nat)) : Prop where
  sl : DSl w a n c vs
  len : xs.length = n
  at_ : ∀ (i : Nat) v x, vs[i]? = some v → xs[i]? = some x → Sl w v.1 v.2.1 v.2.2 x
theorem Decs.lk {w w' : World} {a : Option Addr} {n c : Nat} {vs : List (Option Addr × Nat × Nat)} {xs : List (List Nat)} (h : Decs w a n c vs xs) (hg : Lk w w') : Decs w' a n c vs xs :=
  ⟨h.sl.lk hg, h.len, fun i v x hv hx => (h.at_ i v x hv hx).lk hg⟩
theorem dec_info : ∃ i, Tryz.prog.info? 35 = some i ∧ i.size = 1 := by
  have h := infoDec
  cases hq : Tryz.prog.info? 35 with
  | none => simp [hq] at h
  | some i => simp [hq] at h; exact ⟨i, rfl, h.1⟩

/-- A stake that was never given to. -/
def heldS (X S n : Nat) : Stk := ⟨holdQ X S n, (0, 0), 0, 0⟩
/-- The first k delegators of the validator 16 hold. -/
def heldK (xs : List (List Nat)) (S n k : Nat) : Stakes := fun v d => if v = 16 ∧ d < k then some (heldS (val (xs.getD d [])) S n) else none
theorem heldK_zero (xs : List (List Nat)) (S n : Nat) : heldK xs S n 0 = noStakes := by
  funext v d
  unfold heldK
  rw [if_neg (fun h => absurd h.2 (by omega))]
theorem heldK_none (xs : List (List Nat)) (S n k : Nat) : heldK xs S n k 16 k = none := by
  unfold heldK
  rw [if_neg (fun h => absurd h.2 (by omega))]
theorem heldK_put {xs : List (List Nat)} {S n k : Nat} {x : List Nat} (hx : xs[k]? = some x) : putM (heldK xs S n k) 16 k (heldStk (heldK xs S n k) 16 k (val x) S n) = heldK xs S n (k + 1) := by
  have e : heldStk (heldK xs S n k) 16 k (val x) S n = heldS (val (xs.getD k [])) S n := by
    unfold heldStk heldS got
    rw [heldK_none, List.getD_eq_getElem?_getD, hx]
    rfl
  rw [e]
  funext v d
  unfold putM heldK
  by_cases h : v = 16 ∧ d = k
  · obtain ⟨rfl, rfl⟩ := h
    rw [if_pos ⟨rfl, rfl⟩, if_pos ⟨rfl, by omega⟩]
  · rw [if_neg h]
    by_cases h2 : v = 16 ∧ d < k
    · rw [if_pos h2, if_pos ⟨h2.1, by omega⟩]
    · rw [if_neg h2, if_neg]
      rintro ⟨h3, h4⟩
      exact h2 ⟨h3, by have : d ≠ k := fun e => h ⟨h3, e⟩; omega⟩
/-- .. and the validator 17 has one stake. -/
def heldM (xs : List (List Nat)) (S n : Nat) : Stakes := putM (heldK xs S n xs.length) 17 0 (heldS U36 U36 1)
def HeldL (w : World) (N : Nat) (M : Stakes) (e : Ending) (w' : World) : Prop :=
  ∃ p b, e = .returned (.pointer (some ⟨p, 0, none⟩)) ∧ Led w' b N M ∧ w'.cell? ⟨p, 0, none⟩ = some (.map (some b)) ∧ w.heap.size ≤ b ∧ Ext w w'
theorem heldM_put {xs : List (List Nat)} {k : Nat} (hk : k = xs.length) (S n : Nat) {u : List Nat} (hu : val u = U36) : putM (heldK xs S n k) 17 0 (heldStk (heldK xs S n k) 17 0 (val u) (val u) 1) = heldM xs S n := by
  subst hk
  rw [hu]
  rfl
theorem val_one36 : val (lim 1000000000000000000000000000000000000) = U36 := by rw [val_lim]; decide +kernel
def HeldRel (w1 : World) (b n : Nat) (xs : List (List Nat)) (S t : Nat) (iv : Value) (wr : World) : Prop :=
  ∃ k : Nat, k ≤ n ∧ iv = .int .i64 (k : Int) ∧ Led wr b k (heldK xs S t k) ∧ w1.grownBy wr (some b)

set_option maxHeartbeats 8000000 in
set_option maxRecDepth 100000 in
theorem held_calls {w : World} {a : Option Addr} {n c : Nat} {vs : List (Option Addr × Nat × Nat)} {xs : List (List Nat)} (hx : Decs w a n c vs xs) (hn : n ≤ 1000) (hsm : ∀ (i : Nat) v, vs[i]? = some v → v.2.1 ≤ 1000)
    {a0 : Option Addr} {m0 c0 : Nat} {ys : List Nat} (ha : Sl w a0 m0 c0 ys) (hm : m0 ≤ 1000) {t : Nat} (ht : t < B64) (htz : TzTab w) :
    Calls Tryz.prog 38 #[.slice a n c, DecV a0 m0 c0, .int .u64 (t : Int)] w (HeldL w (n + 1) (heldM xs (val ys) t)) := by
  obtain ⟨i0, hi, hs⟩ := dec_info
  obtain ⟨S, hS⟩ : ∃ x, val ys = x := ⟨_, rfl⟩
  obtain ⟨X, hX⟩ : ∃ X, w.alloc (.cells #[.slice a0 m0 c0] 35) = X := ⟨_, rfl⟩
  have EX : Ext w X := by rw [← hX]; exact (Ext.refl w).alloc _
  have hr0 : X.heap[w.heap.size]? = some (.cells #[.slice a0 m0 c0] 35 (0, 0)) := by rw [← hX]; exact heap_alloc_new w _
  have H1 := Lib.hid hi; have H3 := Lib.hid hs; have HX := Lib.hid hX; have HEX := Lib.hid EX; have HR0 := Lib.hid hr0; have HS := Lib.hid hS
  have HA := Lib.hid ha; have HXS := Lib.hid hx; have HSM := Lib.hid hsm; have HT := Lib.hid ht; have HTZ := Lib.hid htz; have HM := Lib.hid hm
  have C1 := Lib.hid (lnew_calls X)
  clear hi hs hX EX hr0 hS ha hx hsm ht htz hm
  go_enter Tryz.func38, Tryz.ntmps38
  go_wp2_with (rw [HX.out])
  refine C1.out.mono ?_
  rintro e w1 ⟨p, b, rfl, hled, hpc, hb, x1⟩
  have HST := Lib.hid (show HeldRel w1 b n xs S t (.int .i64 0) w1 from ⟨0, Nat.zero_le _, rfl, by rw [heldK_zero]; exact hled, (Ext.refl w1).by_ _⟩)
  have HMB := Lib.hid hled.isMapB; have HPC := Lib.hid hpc; have HB := Lib.hid hb; have HE1 := Lib.hid x1
  clear hled hpc hb x1 C1
  go_wp2_with fail
  go_loopw [8] (fun iv wr => HeldRel w1 b n xs S t iv wr) (fun iv _ => n - (RowKit.intOf iv).toNat)
  case atStart => exact HST.out
  case round =>
    obtain ⟨k, hk, rfl, hled, hg⟩ := hrel
    have HLED := Lib.hid hled; have HG := Lib.hid hg; have HK := Lib.hid (HMB.out.lk hg); have HEW := Lib.hid (Ext.mx HE1.out HB.out hg)
    clear hled hg
    have HK0 := Lib.hid (Lk.trans HE1.out.lk HK.out)
    have HTW := Lib.hid (HTZ.out.lk (Lk.trans HEX.out.lk HK0.out))
    by_cases hkn : k = n
    · subst hkn
      have C2 := Lib.hid (dof_at 1 1000000000000000000000000000000000000 (by decide) (by decide +kernel) wr)
      go_wp2_with fail
      refine C2.out.mono ?_
      rintro e w2 ⟨p2, n2, c2, rfl, o2, x2, l2⟩
      have S2 := Lib.hid o2.sl; have HX2 := Lib.hid x2; have HL2 := Lib.hid l2
      clear o2 x2 l2 C2
      have C3 := Lib.hid (dof_at 1 1000000000000000000000000000000000000 (by decide) (by decide +kernel) w2)
      go_wp2_with fail
      refine C3.out.mono ?_
      rintro e w3 ⟨p3, n3, c3, rfl, o3, x3, l3⟩
      have S3 := Lib.hid o3.sl; have HX3 := Lib.hid x3; have HL3 := Lib.hid l3
      clear o3 x3 l3 C3
      have hlen : k = xs.length := HXS.out.len.symm
      have C4 := Lib.hid (lhold_calls ((HLED.out.old HX2.out).old HX3.out) (by omega) (HX3.out.cell (HX2.out.cell (HK.out.cell HPC.out))) (v := 17) (d := 0) (by decide) (by decide) (S2.out.old HX3.out) S3.out (by have := HL2.out; omega) (by have := HL3.out; omega) (k := 1) (by decide) (N' := k + 1) (by split <;> omega) ((HTW.out.lk HX2.out.lk).lk HX3.out.lk))
      clear hlen
      go_wp2_with fail
      refine C4.out.mono ?_
      rintro e w4 ⟨rfl, h4, g4⟩
      have HF := Lib.hid h4; have HG4 := Lib.hid g4
      clear h4 g4 C4
      go_wp2_with fail
      go_ret
      refine ⟨p, b, rfl, ?_, ((HLED.out.old HX2.out).old HX3.out).isMapB.lk HG4.out |>.cell (HX3.out.cell (HX2.out.cell (HK.out.cell HPC.out))), Nat.le_trans HEX.out.size HB.out, Ext.mx (Ext.trans (Ext.trans (Ext.mx (HEX.out.trans HE1.out) (Nat.le_trans HEX.out.size HB.out) HG.out) HX2.out) HX3.out) (Nat.le_trans HEX.out.size HB.out) HG4.out⟩
      have hf := HF.out
      rw [heldM_put HXS.out.len.symm S t val_one36] at hf
      rw [HS.out]
      exact hf
    · have hlt : (k : Int) < (n : Int) := by omega
      obtain ⟨v, hv⟩ : ∃ v, vs[k]? = some v := ⟨_, List.getElem?_eq_getElem (by rw [HXS.out.sl.len]; omega)⟩
      obtain ⟨x, hxk⟩ : ∃ x, xs[k]? = some x := ⟨_, List.getElem?_eq_getElem (by rw [HXS.out.len]; omega)⟩
      have hsx := (HXS.out.at_ k v x hv hxk).lk (Lk.trans HEX.out.lk HK0.out)
      have hvm := HSM.out k v hv
      obtain ⟨ba, oa, hixa, hca⟩ := (HXS.out.sl.lk (Lk.trans HEX.out.lk HK0.out)).ix (P := Tryz.prog) Tryz.underlying55 H1.out H3.out
      have x1 := hixa k (by omega)
      have x2 := hca k v hv
      obtain ⟨v1, v2, v3⟩ := v
      simp only at x2 hsx hvm
      have HBC := Lib.hid (fun w' (h : Lk wr w') => (show w'.cell? ⟨ba, oa + k, none⟩ = some (.slice v1 v2 v3) ∧ w'.cell? ⟨w.heap.size, 0, none⟩ = some (.slice a0 m0 c0)
        from ⟨h.cell x2, drow_cell (rowK (Lk.trans HK0.out h) HR0.out)⟩))
      have HSX := Lib.hid hsx; have HVM := Lib.hid hvm; have HXK := Lib.hid hxk
      have hwr : IntKind.u64.wrap (k : Int) = (k : Int) := IntWalk.u64_in _ (by omega)
      clear hsx hvm hixa hca hv hxk x2
      go_wp2_with fail
      go_region_held3 (fun w' => w'.cell? ⟨ba, oa + k, none⟩ = some (.slice v1 v2 v3) ∧ w'.cell? ⟨w.heap.size, 0, none⟩ = some (.slice a0 m0 c0))
        (first | exact HBC.out _ (Ext.refl _).drew.lk | exact HBC.out _ (by assumption))
        ((go_at_call 17; refine (lhold_calls (HLED.out.old (Ext.refl _).drew) (by omega) ((Lk.trans HK.out (Ext.refl wr).drew.lk).cell HPC.out) (v := 16) (d := k) (by decide) (by have := B64_eq; omega) (HSX.out.old (Ext.refl _).drew) (HA.out.lk (Lk.trans (Lk.trans HEX.out.lk HK0.out) (Ext.refl wr).drew.lk)) (by have := HVM.out; omega) (by have := HM.out; omega) HT.out (N' := k + 1) (by split <;> omega) (HTW.out.lk (Ext.refl wr).drew.lk)).mono ?_; rintro e w4 ⟨rfl, h4, g4⟩; have y4 : Lk wr w4 := Lk.trans (Ext.refl wr).drew.lk ((HLED.out.old (Ext.refl _).drew).isMapB.lk g4)))
      rw [HS.out, heldK_put HXK.out] at h4
      go_wp2_with fail
      go_roundw
      case rel => exact ⟨k + 1, by omega, by go_num, h4, grownBy_trans (grownBy_trans HG.out ((Ext.refl wr).drew.by_ _)) g4⟩
      case measure => simp only [RowKit.intOf]; omega

end Go.Proofs.YtimcnhlcepemjaaGreatDoor
