
/- gleanref24.Settle. -/
import Derived.Test.YtimcnhlcepemjaaGreatDoorML
import Derived.Test.YtimcnhlcepemjaaGreatDoorPlN
import Derived.Test.YtimcnhlcepemjaaGreatDoorMH
namespace Go.Proofs.YtimcnhlcepemjaaGreatDoor
open Go.RowKit

/-- A ledger whose own rows are as they were. -/
theorem RLed.kept {w w' : World} {lp : Nat} {gb : Option Nat} {o : Option Addr} {n c : Nat} {es : List Ent} (h : RLed w lp gb o n c es) (L : LimK w w') (h1 : w'.heap[lp]? = w.heap[lp]?) (h2 : ∀ g, gb = some g → w'.heap[g]? = w.heap[g]?) : RLed w' lp gb o n c es := by
  refine ⟨by rw [h1]; exact h.row, h.len, h.big, ?_⟩
  rcases h.at_ with k | ⟨g, k1, k2, k3⟩
  · exact .inl k
  · obtain ⟨cur, r1, r2, r3, r4, r5⟩ := k3.ents
    exact .inr ⟨g, k1, k2, RRow.of (by rw [h2 g k1]; exact r1) r2 r3 (r4.limK L) r5⟩
theorem RLed.llt {w : World} {lp : Nat} {gb : Option Nat} {o : Option Addr} {n c : Nat} {es : List Ent} (h : RLed w lp gb o n c es) : lp < w.heap.size := (Array.getElem?_eq_some_iff.1 h.row).1
theorem RLed.glt' {w : World} {lp : Nat} {gb : Option Nat} {o : Option Addr} {n c : Nat} {es : List Ent} (h : RLed w lp gb o n c es) : ∀ g, gb = some g → g < w.heap.size := fun g hg => by subst hg; exact h.glt
/-- Two cells of a variable that lies behind are written. -/
theorem RMod.box {w wr : World} {lp : Nat} {gb : Option Nat} {o : Option Addr} {n c : Nat} {es : List Ent} (h : RMod w lp gb o n c es wr) {B : Nat} (hB : w.heap.size ≤ B) (hlp : lp < w.heap.size) (hg : ∀ g, gb = some g → g < w.heap.size)
    {o1 : Option Addr} {n1 c1 : Nat} {o2 : Option Addr} {n2 c2 : Nat} {T : TypeId} (hr : wr.heap[B]? = some (.cells #[.slice o1 n1 c1, .slice o2 n2 c2] T (0, 0))) (u v : Value) :
    RMod w lp gb o n c es ((wr.setCell ⟨B, 0, none⟩ u).setCell ⟨B, 1, none⟩ v) ∧ Ln wr ((wr.setCell ⟨B, 0, none⟩ u).setCell ⟨B, 1, none⟩ v) := by
  have LN : Ln wr ((wr.setCell ⟨B, 0, none⟩ u).setCell ⟨B, 1, none⟩ v) :=
    ((Tn.cell1 (xb := B) (i := 0) (Ext.refl wr) u none).cell2 (i := 1) v).ln (noNum2 hr) (fun o h => by cases h)
  have g := set2_by wr B u v
  obtain ⟨h1, h2, h3⟩ := h
  have hs := h2.size
  refine ⟨⟨h1.kept LN.limK (g.block _ h1.llt (fun e => by have := Option.some.inj e; omega)) (fun q hq => g.block _ (h1.glt' q hq) (fun e => by have := Option.some.inj e; have := hg q hq; omega)), ?_, h3.trans LN⟩, LN⟩
  exact ⟨g.os.trans h2.os, g.tape.trans h2.tape, g.output.trans h2.output, Nat.le_trans h2.size g.size, fun k hk hb => by
    rw [g.block k (Nat.lt_of_lt_of_le hk h2.size) (fun e => by have := Option.some.inj e; omega)]
    exact h2.block k hk hb⟩
theorem RMod.ext {w wr w' : World} {lp : Nat} {gb : Option Nat} {o : Option Addr} {n c : Nat} {es : List Ent} (h : RMod w lp gb o n c es wr) (E : Ext wr w') : RMod w lp gb o n c es w' :=
  ⟨h.1.lk E.lk, grownBy_trans h.2.1 (E.by_ gb), h.2.2.trans E.lk.ln⟩
theorem RMod.pre {w X wr : World} {lp : Nat} {gb : Option Nat} {o : Option Addr} {n c : Nat} {es : List Ent} (h : RMod X lp gb o n c es wr) (E : Ext w X) : RMod w lp gb o n c es wr :=
  ⟨h.1, grownBy_trans (E.by_ gb) h.2.1, E.lk.ln.trans h.2.2⟩
/-- What Settle tells and leaves. -/
def RSet (w : World) (lp : Nat) (gb : Option Nat) (o : Option Addr) (n c : Nat) (es : List Ent) (q : Nat × Nat) (pp kk : Int) (e : Ending) (w' : World) : Prop :=
  ∃ a m x b m' y, e = .returned (.tuple #[RatV a m x b m' y, .int .i64 pp, .int .i64 kk]) ∧ RA w' a m x b m' y q ∧ RMod w lp gb o n c es w'
set_option maxHeartbeats 8000000 in
set_option maxRecDepth 100000 in
theorem rlsettle_calls {w : World} {lp : Nat} {gb : Option Nat} {o : Option Addr} {n c : Nat} {es : List Ent} (h : RLed w lp gb o n c es) {v d : Nat} :
    Calls Tryz.prog 15 #[.pointer (some ⟨lp, 0, none⟩), .int .u64 (v : Int), .int .u64 (d : Int)] w
      (RSet w lp gb o n c (rSettle es v d) (((rgot (rmap fSettle v es) v d).map (·.o)).getD (0, 1)) (((rgot (rmap fSettle v es) v d).map (·.p)).getD 0) (((rgot (rmap fSettle v es) v d).map (·.k)).getD 0)) := by
  have hbig : (n : Int) ≤ 9223372036854775807 := by have := h.big; have := h.le; omega
  obtain ⟨X0, hX0⟩ : ∃ X, w.alloc (.cells #[.slice none 0 0, .slice none 0 0] 40) = X := ⟨_, rfl⟩
  have E0 : Ext w X0 := by rw [← hX0]; exact (Ext.refl w).alloc _
  have hr0 : X0.heap[w.heap.size]? = some (.cells #[.slice none 0 0, .slice none 0 0] 40 (0, 0)) := by rw [← hX0]; exact heap_alloc_new w _
  have HX0 := Lib.hid hX0; have HE0 := Lib.hid E0; have HR0 := Lib.hid hr0
  have HL := Lib.hid h
  have HST := Lib.hid (show RModRel X0 lp gb o n c v fSettle es (.int .i64 0) X0 from ⟨0, Nat.zero_le _, rfl, by rw [rpart_zero]; exact h.lk E0.lk, (Ext.refl X0).by_ _, Ln.refl X0⟩)
  have k0 : X0.cell? ⟨lp, 0, none⟩ = some (.slice o n c) := drow_cell (h.lk E0.lk).row
  clear h hX0 E0 hr0
  go_enter Tryz.func15, Tryz.ntmps15
  go_wp2_with (rw [HX0.out])
  clear k0
  go_loopw [9] (fun iv wr => RModRel X0 lp gb o n c v fSettle es iv wr) (fun iv _ => n - (RowKit.intOf iv).toNat)
  case atStart => exact HST.out
  case round =>
    obtain ⟨k, hk, rfl, hled, hgr, hln⟩ := hrel
    have k0 : wr.cell? ⟨lp, 0, none⟩ = some (.slice o n c) := drow_cell hled.row
    have HLR := Lib.hid hled; have HGR := Lib.hid hgr; have HLN := Lib.hid hln
    clear hled hgr hln
    by_cases hkn : k = n
    · have hge : ¬ ((k : Int) < (n : Int)) := by omega
      have hW : rpart fSettle v k es = rmap fSettle v es := by rw [hkn, ← HL.out.len]; exact rpart_all _ _ _
      have HMD := Lib.hid (show RMod w lp gb o n c (rmap fSettle v es) wr from RMod.pre ⟨by rw [← hW]; exact HLR.out, HGR.out, HLN.out⟩ HE0.out)
      have HRX := Lib.hid (show wr.heap[w.heap.size]? = some (.cells #[.slice none 0 0, .slice none 0 0] 40 (0, 0)) by
        rw [HGR.out.block _ (Array.getElem?_eq_some_iff.1 HR0.out).1 (fun e => by have := HL.out.glt' _ e.symm; omega)]; exact HR0.out)
      have C1 := rlat_calls HMD.out.1 (v := v) (d := d)
      have HLLT := Lib.hid HL.out.llt; have HGLT := Lib.hid HL.out.glt'
      clear hkn hk hW HLR HGR HLN HST
      cases hi : ixOf (rmap fSettle v es) v d with
      | none =>
        rw [hi, show ixI none = -1 from rfl] at C1
        have HC1 := Lib.hid C1
        have C2 := Lib.hid (rnothing_q wr)
        have HRS := Lib.hid (show rSettle es v d = rmap fSettle v es ∧ rgot (rmap fSettle v es) v d = none from ⟨by unfold rSettle; rw [hi], by unfold rgot; rw [find_ix, hi]; rfl⟩)
        clear C1 hi
        go_wp2_with fail
        refine HC1.out.mono ?_
        rintro e w' ⟨rfl, rfl⟩
        go_wp2_with fail
        refine C2.out.mono ?_
        rintro e w2 ⟨o1, n1, c1, o2, n2, c2, rfl, h1, h2, hx2⟩
        have HRW := Lib.hid (rowE hx2 HRX.out)
        obtain ⟨k1, k2, k3, k4⟩ := row2_cells HRW.out
        have HM2 := Lib.hid ((HMD.out.ext hx2).box (Nat.le_refl _) HLLT.out HGLT.out HRW.out (.slice o1 n1 c1) (.slice o2 n2 c2))
        have HQ := Lib.hid (show RA w2 o1 n1 c1 o2 n2 c2 (0, 1) from ⟨h1.sl, h2.sl⟩)
        clear h1 h2 hx2
        go_wp2_with fail
        try simp only [Exit.inBlock, Exit.then]
        refine bodyPost_ret (results_box4 rfl _ _ _ _ rfl (load_rat (set2_row HRW.out _ _))) rfl ?_
        rw [HRS.out.1, HRS.out.2]
        exact ⟨_, _, _, _, _, _, rfl, HQ.out.ln HM2.out.2, HM2.out.1⟩
      | some i =>
        rw [hi, show ixI (some i) = (i : Int) from rfl] at C1
        have hin : i < n := by
          have := (List.findIdx?_eq_some_iff_getElem.1 hi).1
          rw [← HMD.out.1.len]
          exact this
        obtain ⟨g, e, hgb, ho, he, hrow, hix⟩ := HMD.out.1.ix hin
        subst hgb
        obtain ⟨hv, hd, a1, m1, c1, b1, n1, d1, a2, m2, c2, b2, n2, d2, h6, x0, x1, x2, x3, x4, x5, x6, x7⟩ := hrow.look he
        have hbig : (i : Int) < (n : Int) := by omega
        have hnn : ¬ ((i : Int) < 0) := by omega
        have HRS := Lib.hid (show rSettle es v d = (rmap fSettle v es).set i ⟨v, d, ⟨e.s.h, (0, 1), 0, 0⟩⟩ ∧ rgot (rmap fSettle v es) v d = some e.s from ⟨by unfold rSettle; rw [hi]; simp only [he, Option.map_some, Option.getD_some], by unfold rgot; rw [find_ix, hi]; simp [he]⟩)
        have hev : e.v = v ∧ e.d = d := by
          obtain ⟨z1, z2, -⟩ := List.findIdx?_eq_some_iff_getElem.1 hi
          rw [List.getElem?_eq_getElem z1] at he
          cases he
          exact isAt_iff.1 z2
        have HC1 := Lib.hid C1; have HI := Lib.hid hi; have HE := Lib.hid he; have HROW := Lib.hid hrow; have H6 := Lib.hid h6; have HEV := Lib.hid hev
        have HS := Lib.hid (fun w' (F : Ext wr w') => (show w'.cell? ⟨lp, 0, none⟩ = some (.slice o n c) ∧ w'.cell? ⟨g, 8 * i + 4, none⟩ = some (.slice a2 m2 c2) ∧ w'.cell? ⟨g, 8 * i + 5, none⟩ = some (.slice b2 n2 d2) ∧ w'.cell? ⟨g, 8 * i + 6, none⟩ = some (.int .i64 e.s.p) ∧ w'.cell? ⟨g, 8 * i + 7, none⟩ = some (.int .i64 e.s.k) from
          ⟨F.cell k0, F.cell x4, F.cell x5, F.cell x6, F.cell x7⟩))
        clear C1 hi ho he hrow hv hd h6 hin hev x0 x1 x2 x3
        go_wp2_with fail
        refine HC1.out.mono ?_
        rintro e' w' ⟨rfl, rfl⟩
        go_wp2_with fail
        go_upto_region 9 with (fail)
        go_cut [11, 12, 13] from 51 to 74 (fun v11 v12 v13 wx => ∃ B : Nat, v11 = .pointer (some ⟨B, 0, none⟩) ∧ v12 = .int .i64 e.s.p ∧ v13 = .int .i64 e.s.k ∧ wx.heap[B]? = some (.cells #[.slice a2 m2 c2, .slice b2 n2 d2] 40 (0, 0)) ∧ Ext wr wx ∧ wr.heap.size ≤ B)
        case first =>
          obtain ⟨u0, hu0⟩ : ∃ u, wr.drew = u := ⟨_, rfl⟩
          have HE0_ := Lib.hid (show Ext wr u0 by rw [← hu0]; exact (Ext.refl _).drew)
          refine wp_region_held_drew (S := fun w' => w'.cell? ⟨lp, 0, none⟩ = some (.slice o n c) ∧ w'.cell? ⟨g, 8 * i + 4, none⟩ = some (.slice a2 m2 c2) ∧ w'.cell? ⟨g, 8 * i + 5, none⟩ = some (.slice b2 n2 d2) ∧ w'.cell? ⟨g, 8 * i + 6, none⟩ = some (.int .i64 e.s.p) ∧ w'.cell? ⟨g, 8 * i + 7, none⟩ = some (.int .i64 e.s.k)) (by kernel_rfl) (HS.out _ (Ext.refl _).drew) (fun hHeld => ?_)
          rw [hu0] at hHeld ⊢
          clear hu0
          refine takeW (i := 0) (v := ?_) rfl (by kernel_rfl) (by kernel_rfl) (by kernel_rfl) (fun _ _ _ h => h) (Or.inl ⟨by rfl, ?_⟩) (by assumption) ?_
          rotate_left
          · (intro wz hSw; (try dsimp only at hSw); go_simp <;> with_reducible rfl)
          try simp only [Act.put, List.setIfInBounds_toArray, List.set_cons_zero, List.set_cons_succ]
          refine takeW (i := 1) (v := ?_) rfl (by kernel_rfl) (by kernel_rfl) (by kernel_rfl) (fun _ _ _ h => h) (Or.inl ⟨by rfl, ?_⟩) (by assumption) ?_
          rotate_left
          · (intro wz hSw; (try dsimp only at hSw); go_simp <;> with_reducible rfl)
          try simp only [Act.put, List.setIfInBounds_toArray, List.set_cons_zero, List.set_cons_succ]
          refine takeW (i := 2) (v := ?_) rfl (by kernel_rfl) (by kernel_rfl) (by kernel_rfl) (fun _ _ _ h => h) (Or.inl ⟨by rfl, ?_⟩) (by assumption) ?_
          rotate_left
          · (intro wz hSw; (try dsimp only at hSw); go_simp <;> with_reducible rfl)
          try simp only [Act.put, List.setIfInBounds_toArray, List.set_cons_zero, List.set_cons_succ]
          refine takeW (i := 3) (v := ?_) rfl (by kernel_rfl) (by kernel_rfl) (by kernel_rfl) (fun _ _ _ h => h) (Or.inl ⟨by rfl, ?_⟩) (by assumption) ?_
          rotate_left
          · (intro wz hSw; (try dsimp only at hSw); go_simp <;> with_reducible rfl)
          try simp only [Act.put, List.setIfInBounds_toArray, List.set_cons_zero, List.set_cons_succ]
          refine takeW (i := 4) (v := ?_) rfl (by kernel_rfl) (by kernel_rfl) (by kernel_rfl) (fun _ _ _ h => h) (Or.inl ⟨by rfl, ?_⟩) (by assumption) ?_
          rotate_left
          · (intro wz hSw; (try dsimp only at hSw); go_simp <;> with_reducible rfl)
          try simp only [Act.put, List.setIfInBounds_toArray, List.set_cons_zero, List.set_cons_succ]
          refine takeW (i := 5) (v := ?_) rfl (by kernel_rfl) (by kernel_rfl) (by kernel_rfl) (fun _ _ _ h => h) (Or.inl ⟨by rfl, ?_⟩) (by assumption) ?_
          rotate_left
          · (intro wz hSw; (try dsimp only at hSw); go_simp <;> with_reducible rfl)
          try simp only [Act.put, List.setIfInBounds_toArray, List.set_cons_zero, List.set_cons_succ]
          refine takeW (i := 6) (v := ?_) rfl (by kernel_rfl) (by kernel_rfl) (by kernel_rfl) (fun _ _ _ h => h) (Or.inl ⟨by rfl, ?_⟩) (by assumption) ?_
          rotate_left
          · (intro wz hSw; (try dsimp only at hSw); go_simp <;> with_reducible rfl)
          try simp only [Act.put, List.setIfInBounds_toArray, List.set_cons_zero, List.set_cons_succ]
          refine takeW (i := 7) (v := ?_) rfl (by kernel_rfl) (by kernel_rfl) (by kernel_rfl) (fun _ _ _ h => h) (Or.inl ⟨by rfl, ?_⟩) (by assumption) ?_
          rotate_left
          · (intro wz hSw; (try dsimp only at hSw); go_simp <;> with_reducible rfl)
          try simp only [Act.put, List.setIfInBounds_toArray, List.set_cons_zero, List.set_cons_succ]
          refine takeW (i := 8) (v := ?_) rfl (by kernel_rfl) (by kernel_rfl) (by kernel_rfl) (fun _ _ _ h => h) (Or.inl ⟨by rfl, ?_⟩) (by assumption) ?_
          rotate_left
          · (intro wz hSw; (try dsimp only at hSw); go_simp <;> with_reducible rfl)
          try simp only [Act.put, List.setIfInBounds_toArray, List.set_cons_zero, List.set_cons_succ]
          refine takeW (i := 9) (v := ?_) rfl (by kernel_rfl) (by kernel_rfl) (by kernel_rfl) (fun _ _ _ h => h) (Or.inl ⟨by rfl, ?_⟩) (by assumption) ?_
          rotate_left
          · (intro wz hSw; (try dsimp only at hSw); go_simp <;> with_reducible rfl)
          try simp only [Act.put, List.setIfInBounds_toArray, List.set_cons_zero, List.set_cons_succ]
          refine takeW (i := 10) (v := ?_) rfl (by kernel_rfl) (by kernel_rfl) (by kernel_rfl) (fun _ _ _ h => h) (Or.inl ⟨by rfl, ?_⟩) (by assumption) ?_
          rotate_left
          · (intro wz hSw; (try dsimp only at hSw); go_simp <;> with_reducible rfl)
          try simp only [Act.put, List.setIfInBounds_toArray, List.set_cons_zero, List.set_cons_succ]
          refine takeW (i := 11) (v := ?_) rfl (by kernel_rfl) (by kernel_rfl) (by kernel_rfl) (fun _ _ _ h => h) (Or.inl ⟨by rfl, ?_⟩) (by assumption) ?_
          rotate_left
          · (intro wz hSw; (try dsimp only at hSw); go_simp <;> with_reducible rfl)
          try simp only [Act.put, List.setIfInBounds_toArray, List.set_cons_zero, List.set_cons_succ]
          refine takeW (i := 12) (v := ?_) rfl (by kernel_rfl) (by kernel_rfl) (by kernel_rfl) (fun _ _ _ h => h) (Or.inl ⟨by rfl, ?_⟩) (by assumption) ?_
          rotate_left
          · (intro wz hSw; (try dsimp only at hSw); go_simp <;> with_reducible rfl)
          try simp only [Act.put, List.setIfInBounds_toArray, List.set_cons_zero, List.set_cons_succ]
          refine takeW (i := 13) (v := ?_) rfl (by kernel_rfl) (by kernel_rfl) (by kernel_rfl) (fun _ _ _ h => h) (Or.inl ⟨by rfl, ?_⟩) (by assumption) ?_
          rotate_left
          · (intro wz hSw; (try dsimp only at hSw); go_simp <;> with_reducible rfl)
          try simp only [Act.put, List.setIfInBounds_toArray, List.set_cons_zero, List.set_cons_succ]
          refine takeW (i := 14) (v := ?_) rfl (by kernel_rfl) (by kernel_rfl) (by kernel_rfl) (fun _ _ _ h => h) (Or.inl ⟨by rfl, ?_⟩) (by assumption) ?_
          rotate_left
          · (intro wz hSw; (try dsimp only at hSw); go_simp <;> with_reducible rfl)
          try simp only [Act.put, List.setIfInBounds_toArray, List.set_cons_zero, List.set_cons_succ]
          refine takeW (i := 15) (v := ?_) rfl (by kernel_rfl) (by kernel_rfl) (by kernel_rfl) (fun _ _ _ h => h) (Or.inl ⟨by rfl, ?_⟩) (by assumption) ?_
          rotate_left
          · (intro wz hSw; (try dsimp only at hSw); go_simp <;> with_reducible rfl)
          try simp only [Act.put, List.setIfInBounds_toArray, List.set_cons_zero, List.set_cons_succ]
          refine takeW (i := 16) (v := ?_) rfl (by kernel_rfl) (by kernel_rfl) (by kernel_rfl) (fun _ _ _ h => h) (Or.inl ⟨by rfl, ?_⟩) (by assumption) ?_
          rotate_left
          · (intro wz hSw; (try dsimp only at hSw); go_simp <;> with_reducible rfl)
          try simp only [Act.put, List.setIfInBounds_toArray, List.set_cons_zero, List.set_cons_succ]
          refine takeW (i := 17) (v := ?_) rfl (by kernel_rfl) (by kernel_rfl) (by kernel_rfl) (fun _ _ _ h => h) (Or.inl ⟨by rfl, ?_⟩) (by assumption) ?_
          rotate_left
          · (intro wz hSw; (try dsimp only at hSw); go_simp <;> with_reducible rfl)
          try simp only [Act.put, List.setIfInBounds_toArray, List.set_cons_zero, List.set_cons_succ]
          refine takeW (i := 18) (v := ?_) rfl (by kernel_rfl) (by kernel_rfl) (by kernel_rfl) (fun _ _ _ h => h) (Or.inl ⟨by rfl, ?_⟩) (by assumption) ?_
          rotate_left
          · (intro wz hSw; (try dsimp only at hSw); go_simp <;> with_reducible rfl)
          try simp only [Act.put, List.setIfInBounds_toArray, List.set_cons_zero, List.set_cons_succ]
          refine takeW (i := 19) (v := ?_) rfl (by kernel_rfl) (by kernel_rfl) (by kernel_rfl) (fun _ _ _ h => h) (Or.inl ⟨by rfl, ?_⟩) (by assumption) ?_
          rotate_left
          · (intro wz hSw; (try dsimp only at hSw); go_simp <;> with_reducible rfl)
          try simp only [Act.put, List.setIfInBounds_toArray, List.set_cons_zero, List.set_cons_succ]
          refine takeW (i := 20) (v := ?_) rfl (by kernel_rfl) (by kernel_rfl) (by kernel_rfl) (fun _ _ _ h => h) (Or.inl ⟨by rfl, ?_⟩) (by assumption) ?_
          rotate_left
          · (intro wz hSw; (try dsimp only at hSw); go_simp <;> with_reducible rfl)
          try simp only [Act.put, List.setIfInBounds_toArray, List.set_cons_zero, List.set_cons_succ]
          refine takeW (i := 21) (v := ?_) rfl (by kernel_rfl) (by kernel_rfl) (by kernel_rfl) (fun _ _ _ h => h) (Or.inl ⟨by rfl, ?_⟩) (by assumption) ?_
          rotate_left
          · (intro wz hSw; (try dsimp only at hSw); go_simp <;> with_reducible rfl)
          try simp only [Act.put, List.setIfInBounds_toArray, List.set_cons_zero, List.set_cons_succ]
          refine takeW (i := 22) (v := ?_) rfl (by kernel_rfl) (by kernel_rfl) (by kernel_rfl) (fun _ _ _ h => h) (Or.inl ⟨by rfl, ?_⟩) (by assumption) ?_
          rotate_left
          · (intro wz hSw; (try dsimp only at hSw); go_simp <;> with_reducible rfl)
          try simp only [Act.put, List.setIfInBounds_toArray, List.set_cons_zero, List.set_cons_succ]
          refine takeW (i := 23) (v := ?_) rfl (by kernel_rfl) (by kernel_rfl) (by kernel_rfl) (fun _ _ _ h => h) (Or.inl ⟨by rfl, ?_⟩) (by assumption) ?_
          rotate_left
          · (intro wz hSw; (try dsimp only at hSw); go_simp <;> with_reducible rfl)
          try simp only [Act.put, List.setIfInBounds_toArray, List.set_cons_zero, List.set_cons_succ]
          refine wpAnyH_ready (rs := [24]) (by kernel_rfl) (by simp) ?_
          refine consW rfl (fun K hK => ?_) AllReadyH.nil
          obtain ⟨u1, hu⟩ : ∃ u, u0.alloc (.cells #[.slice none 0 0, .slice none 0 0] 40) = u := ⟨_, rfl⟩
          have HE1_ := Lib.hid (HE0_.out.trans (show Ext u0 u1 by rw [← hu]; exact (Ext.refl _).alloc _))
          have HB := Lib.hid (show u1.heap[u0.heap.size]? = some (.cells #[.slice none 0 0, .slice none 0 0] 40 (0, 0)) by rw [← hu]; exact heap_alloc_new u0 _)
          have HU := Lib.hid hu; clear hu
          go_simp
          rw [HU.out]
          clear HU
          refine hK.out _ _ ?_ (fun hHeld => ?_)
          · (try dsimp only); exact (HS.out _ HE1_.out)
          clear hK K
          try simp only [Act.put, List.setIfInBounds_toArray, List.set_cons_zero, List.set_cons_succ]
          refine wpAnyH_ready (rs := [25]) (by kernel_rfl) (by simp) ?_
          refine consW rfl (fun K hK => ?_) AllReadyH.nil
          obtain ⟨g1, g2, g3, g4⟩ := row2_cells HB.out; have HBS := Lib.hid (show wr.heap.size ≤ u0.heap.size from HE0_.out.size)
          go_simp
          clear g1 g2 g3 g4
          refine hK.out _ _ ?_ (fun hHeld => ?_)
          · (try dsimp only); exact (HS.out _ (set2_ext HE1_.out HBS.out (.slice a2 m2 c2) (.slice b2 n2 d2)))
          clear hK K
          try simp only [Act.put, List.setIfInBounds_toArray, List.set_cons_zero, List.set_cons_succ]
          refine takeW (i := 26) (v := ?_) rfl (by kernel_rfl) (by kernel_rfl) (by kernel_rfl) (fun _ _ _ h => h) (Or.inl ⟨by rfl, ?_⟩) (by assumption) ?_
          rotate_left
          · (intro wz hSw; (try dsimp only at hSw); go_simp <;> with_reducible rfl)
          try simp only [Act.put, List.setIfInBounds_toArray, List.set_cons_zero, List.set_cons_succ]
          refine takeW (i := 27) (v := ?_) rfl (by kernel_rfl) (by kernel_rfl) (by kernel_rfl) (fun _ _ _ h => h) (Or.inl ⟨by rfl, ?_⟩) (by assumption) ?_
          rotate_left
          · (intro wz hSw; (try dsimp only at hSw); go_simp <;> with_reducible rfl)
          try simp only [Act.put, List.setIfInBounds_toArray, List.set_cons_zero, List.set_cons_succ]
          refine wpAnyH_done (by kernel_rfl) ?_ _
          go_wp2_with fail
          go_meet
          case rel => exact ⟨_, rfl, rfl, rfl, set2_row HB.out _ _, set2_ext HE1_.out HBS.out (.slice a2 m2 c2) (.slice b2 n2 d2), HBS.out⟩
        case rest =>
          obtain ⟨B, rfl, rfl, rfl, hbr, hext, hB⟩ := hcut
          revert hbr hext hB; revert wc; intro wb hbr hext hB
          have HBR := Lib.hid hbr; have HEX := Lib.hid hext; have HBS := Lib.hid hB
          have HM1 := Lib.hid (HMD.out.ext hext)
          have HRW := Lib.hid (HROW.out.lk hext.lk)
          have HLP := Lib.hid (fun w' (F : Ext wb w') => (show w'.cell? ⟨lp, 0, none⟩ = some (.slice o n c) from F.cell (hext.cell k0)))
          have HY := Lib.hid (fun w' (F : Ext wb w') => (show (w'.cell? ⟨g, 8 * i + 4, none⟩ = some (.slice a2 m2 c2) ∧ w'.cell? ⟨g, 8 * i + 5, none⟩ = some (.slice b2 n2 d2)) from ⟨F.cell (hext.cell x4), F.cell (hext.cell x5)⟩))
          have HI1 := Lib.hid (show i < (rmap fSettle v es).length from (List.getElem?_eq_some_iff.1 HE.out).1)
          clear hbr hext hB x4 x5 x6 x7 k0
          go_upto_region 10 with (fail)
          go_cut [] from 75 to 96 (fun wx => RMod w lp (some g) o n c (rSettle es v d) wx ∧ wx.heap[B]? = some (.cells #[.slice a2 m2 c2, .slice b2 n2 d2] 40 (0, 0)) ∧ wx.heap[w.heap.size]? = some (.cells #[.slice none 0 0, .slice none 0 0] 40 (0, 0)) ∧ RA wx a2 m2 c2 b2 n2 d2 e.s.o)
          case first =>
            obtain ⟨u0, hu0⟩ : ∃ u, wb.drew = u := ⟨_, rfl⟩
            have HE0_ := Lib.hid (show Ext wb u0 by rw [← hu0]; exact (Ext.refl _).drew)
            refine wp_region_held_drew (S := fun w' => w'.cell? ⟨lp, 0, none⟩ = some (.slice o n c)) (by kernel_rfl) (HLP.out _ (Ext.refl _).drew) (fun hHeld => ?_)
            rw [hu0] at hHeld ⊢
            clear hu0
            refine takeW (i := 0) (v := ?_) rfl (by kernel_rfl) (by kernel_rfl) (by kernel_rfl) (fun _ _ _ h => h) (Or.inl ⟨by rfl, ?_⟩) (by assumption) ?_
            rotate_left
            · (intro wz hSw; (try dsimp only at hSw); go_simp <;> with_reducible rfl)
            try simp only [Act.put, List.setIfInBounds_toArray, List.set_cons_zero, List.set_cons_succ]
            refine takeW (i := 1) (v := ?_) rfl (by kernel_rfl) (by kernel_rfl) (by kernel_rfl) (fun _ _ _ h => h) (Or.inl ⟨by rfl, ?_⟩) (by assumption) ?_
            rotate_left
            · (intro wz hSw; (try dsimp only at hSw); go_simp <;> with_reducible rfl)
            try simp only [Act.put, List.setIfInBounds_toArray, List.set_cons_zero, List.set_cons_succ]
            refine takeW (i := 2) (v := ?_) rfl (by kernel_rfl) (by kernel_rfl) (by kernel_rfl) (fun _ _ _ h => h) (Or.inl ⟨by rfl, ?_⟩) (by assumption) ?_
            rotate_left
            · (intro wz hSw; (try dsimp only at hSw); go_simp <;> with_reducible rfl)
            try simp only [Act.put, List.setIfInBounds_toArray, List.set_cons_zero, List.set_cons_succ]
            refine takeW (i := 3) (v := ?_) rfl (by kernel_rfl) (by kernel_rfl) (by kernel_rfl) (fun _ _ _ h => h) (Or.inl ⟨by rfl, ?_⟩) (by assumption) ?_
            rotate_left
            · (intro wz hSw; (try dsimp only at hSw); go_simp <;> with_reducible rfl)
            try simp only [Act.put, List.setIfInBounds_toArray, List.set_cons_zero, List.set_cons_succ]
            refine takeW (i := 4) (v := ?_) rfl (by kernel_rfl) (by kernel_rfl) (by kernel_rfl) (fun _ _ _ h => h) (Or.inl ⟨by rfl, ?_⟩) (by assumption) ?_
            rotate_left
            · (intro wz hSw; (try dsimp only at hSw); go_simp <;> with_reducible rfl)
            try simp only [Act.put, List.setIfInBounds_toArray, List.set_cons_zero, List.set_cons_succ]
            refine takeW (i := 5) (v := ?_) rfl (by kernel_rfl) (by kernel_rfl) (by kernel_rfl) (fun _ _ _ h => h) (Or.inl ⟨by rfl, ?_⟩) (by assumption) ?_
            rotate_left
            · (intro wz hSw; (try dsimp only at hSw); go_simp <;> with_reducible rfl)
            try simp only [Act.put, List.setIfInBounds_toArray, List.set_cons_zero, List.set_cons_succ]
            refine takeW (i := 6) (v := ?_) rfl (by kernel_rfl) (by kernel_rfl) (by kernel_rfl) (fun _ _ _ h => h) (Or.inl ⟨by rfl, ?_⟩) (by assumption) ?_
            rotate_left
            · (intro wz hSw; (try dsimp only at hSw); go_simp <;> with_reducible rfl)
            try simp only [Act.put, List.setIfInBounds_toArray, List.set_cons_zero, List.set_cons_succ]
            refine takeW (i := 7) (v := ?_) rfl (by kernel_rfl) (by kernel_rfl) (by kernel_rfl) (fun _ _ _ h => h) (Or.inl ⟨by rfl, ?_⟩) (by assumption) ?_
            rotate_left
            · (intro wz hSw; (try dsimp only at hSw); go_simp <;> with_reducible rfl)
            try simp only [Act.put, List.setIfInBounds_toArray, List.set_cons_zero, List.set_cons_succ]
            refine takeW (i := 8) (v := ?_) rfl (by kernel_rfl) (by kernel_rfl) (by kernel_rfl) (fun _ _ _ h => h) (Or.inl ⟨by rfl, ?_⟩) (by assumption) ?_
            rotate_left
            · (intro wz hSw; (try dsimp only at hSw); go_simp <;> with_reducible rfl)
            try simp only [Act.put, List.setIfInBounds_toArray, List.set_cons_zero, List.set_cons_succ]
            refine takeW (i := 9) (v := ?_) rfl (by kernel_rfl) (by kernel_rfl) (by kernel_rfl) (fun _ _ _ h => h) (Or.inl ⟨by rfl, ?_⟩) (by assumption) ?_
            rotate_left
            · (intro wz hSw; (try dsimp only at hSw); go_simp <;> with_reducible rfl)
            try simp only [Act.put, List.setIfInBounds_toArray, List.set_cons_zero, List.set_cons_succ]
            refine takeW (i := 10) (v := ?_) rfl (by kernel_rfl) (by kernel_rfl) (by kernel_rfl) (fun _ _ _ h => h) (Or.inl ⟨by rfl, ?_⟩) (by assumption) ?_
            rotate_left
            · (intro wz hSw; (try dsimp only at hSw); go_simp <;> with_reducible rfl)
            try simp only [Act.put, List.setIfInBounds_toArray, List.set_cons_zero, List.set_cons_succ]
            refine takeW (i := 11) (v := ?_) rfl (by kernel_rfl) (by kernel_rfl) (by kernel_rfl) (fun _ _ _ h => h) (Or.inl ⟨by rfl, ?_⟩) (by assumption) ?_
            rotate_left
            · (intro wz hSw; (try dsimp only at hSw); go_simp <;> with_reducible rfl)
            try simp only [Act.put, List.setIfInBounds_toArray, List.set_cons_zero, List.set_cons_succ]
            refine takeW (i := 12) (v := ?_) rfl (by kernel_rfl) (by kernel_rfl) (by kernel_rfl) (fun _ _ _ h => h) (Or.inl ⟨by rfl, ?_⟩) (by assumption) ?_
            rotate_left
            · (intro wz hSw; (try dsimp only at hSw); go_simp <;> with_reducible rfl)
            try simp only [Act.put, List.setIfInBounds_toArray, List.set_cons_zero, List.set_cons_succ]
            refine takeW (i := 13) (v := ?_) rfl (by kernel_rfl) (by kernel_rfl) (by kernel_rfl) (fun _ _ _ h => h) (Or.inl ⟨by rfl, ?_⟩) (by assumption) ?_
            rotate_left
            · (intro wz hSw; (try dsimp only at hSw); go_simp <;> with_reducible rfl)
            try simp only [Act.put, List.setIfInBounds_toArray, List.set_cons_zero, List.set_cons_succ]
            refine takeW (i := 14) (v := ?_) rfl (by kernel_rfl) (by kernel_rfl) (by kernel_rfl) (fun _ _ _ h => h) (Or.inl ⟨by rfl, ?_⟩) (by assumption) ?_
            rotate_left
            · (intro wz hSw; (try dsimp only at hSw); go_simp <;> with_reducible rfl)
            try simp only [Act.put, List.setIfInBounds_toArray, List.set_cons_zero, List.set_cons_succ]
            refine wpAnyH_ready (rs := [15]) (by kernel_rfl) (by simp) ?_
            refine consW rfl (fun K hK => ?_) AllReadyH.nil
            go_simp
            go_at_call 61
            refine (rnothing_q u0).mono ?_
            rintro e' u1 ⟨p1, r1, s1, p2, r2, s2, rfl, h1, h2, hx⟩
            have HQN := Lib.hid (show RA u1 p1 r1 s1 p2 r2 s2 (0, 1) from ⟨h1.sl, h2.sl⟩); have HE1_ := Lib.hid (HE0_.out.trans hx)
            clear h1 h2 hx
            try go_wp2_with fail
            have HM2 := Lib.hid (HM1.out.ext HE1_.out); have HR2 := Lib.hid (HRW.out.lk HE1_.out.lk); have HBX := Lib.hid (rowE HE1_.out HBR.out); have HRX1 := Lib.hid (rowE HEX.out HRX.out); have HRX2 := Lib.hid (rowE HE1_.out HRX1.out); have HO2 := Lib.hid (show RA u1 a2 m2 c2 b2 n2 d2 e.s.o from ⟨H6.out.s3.old (HEX.out.trans HE1_.out), H6.out.s4.old (HEX.out.trans HE1_.out)⟩)
            refine hK.out _ _ ?_ (fun hHeld => ?_)
            · (try dsimp only); exact (HLP.out _ HE1_.out)
            clear hK K
            try simp only [Act.put, List.setIfInBounds_toArray, List.set_cons_zero, List.set_cons_succ]
            refine takeW (i := 16) (v := ?_) rfl (by kernel_rfl) (by kernel_rfl) (by kernel_rfl) (fun _ _ _ h => h) (Or.inl ⟨by rfl, ?_⟩) (by assumption) ?_
            rotate_left
            · (intro wz hSw; (try dsimp only at hSw); go_simp <;> with_reducible rfl)
            try simp only [Act.put, List.setIfInBounds_toArray, List.set_cons_zero, List.set_cons_succ]
            refine takeW (i := 17) (v := ?_) rfl (by kernel_rfl) (by kernel_rfl) (by kernel_rfl) (fun _ _ _ h => h) (Or.inl ⟨by rfl, ?_⟩) (by assumption) ?_
            rotate_left
            · (intro wz hSw; (try dsimp only at hSw); go_simp <;> with_reducible rfl)
            try simp only [Act.put, List.setIfInBounds_toArray, List.set_cons_zero, List.set_cons_succ]
            refine wpAnyH_ready (rs := [18]) (by kernel_rfl) (by simp) ?_
            refine consW rfl (fun K hK => ?_) AllReadyH.nil
            obtain ⟨y4, y5⟩ := HY.out _ HE1_.out; have f4 := HR2.out.free (8 * i + 4); have f5 := HR2.out.free (8 * i + 5)
            obtain ⟨l1, g1_, rr1⟩ := (show Ln u1 ((u1.setCell ⟨g, 8 * i + 4, none⟩ (.slice p1 r1 s1)).setCell ⟨g, 8 * i + 5, none⟩ (.slice p2 r2 s2)) ∧ u1.grownBy ((u1.setCell ⟨g, 8 * i + 4, none⟩ (.slice p1 r1 s1)).setCell ⟨g, 8 * i + 5, none⟩ (.slice p2 r2 s2)) (some g) ∧ RRow ((u1.setCell ⟨g, 8 * i + 4, none⟩ (.slice p1 r1 s1)).setCell ⟨g, 8 * i + 5, none⟩ (.slice p2 r2 s2)) g c ((rmap fSettle v es).set i ⟨e.v, e.d, ⟨e.s.h, (0, 1), e.s.p, e.s.k⟩⟩) from HR2.out.setQ HE.out true rfl HQN.out)
            obtain ⟨u2, hu⟩ : ∃ u, (u1.setCell ⟨g, 8 * i + 4, none⟩ (.slice p1 r1 s1)).setCell ⟨g, 8 * i + 5, none⟩ (.slice p2 r2 s2) = u := ⟨_, rfl⟩
            rw [hu] at l1 g1_ rr1
            have d1_ := HM2.out.1.turn g1_ rr1 (by simp)
            have HM3 := Lib.hid (show RMod w lp (some g) o n c _ u2 from ⟨d1_, grownBy_trans HM2.out.2.1 g1_, HM2.out.2.2.trans l1⟩)
            have HR3 := Lib.hid rr1
            have HBX2 := Lib.hid (show u2.heap[B]? = some (.cells #[.slice a2 m2 c2, .slice b2 n2 d2] 40 (0, 0)) by rw [g1_.block B (Array.getElem?_eq_some_iff.1 HBX.out).1 (fun e => by have h1 := Option.some.inj e; have h2 := HGLT.out g rfl; have h3 := HBS.out; have h4 := HMD.out.2.1.size; omega)]; exact HBX.out)
            have HRX3 := Lib.hid (show u2.heap[w.heap.size]? = some (.cells #[.slice none 0 0, .slice none 0 0] 40 (0, 0)) by rw [g1_.block _ (Array.getElem?_eq_some_iff.1 HRX2.out).1 (fun e => by have h1 := Option.some.inj e; have h2 := HGLT.out g rfl; omega)]; exact HRX2.out)
            have HO3 := Lib.hid (HO2.out.ln l1)
            have HU := Lib.hid hu; clear hu l1 g1_ rr1 d1_
            go_simp
            rw [HU.out]
            clear HU y4 y5 f4 f5
            refine hK.out _ _ ?_ (fun hHeld => ?_)
            · (try dsimp only); exact (drow_cell HM3.out.1.row)
            clear hK K
            try simp only [Act.put, List.setIfInBounds_toArray, List.set_cons_zero, List.set_cons_succ]
            refine takeW (i := 19) (v := ?_) rfl (by kernel_rfl) (by kernel_rfl) (by kernel_rfl) (fun _ _ _ h => h) (Or.inl ⟨by rfl, ?_⟩) (by assumption) ?_
            rotate_left
            · (intro wz hSw; (try dsimp only at hSw); go_simp <;> with_reducible rfl)
            try simp only [Act.put, List.setIfInBounds_toArray, List.set_cons_zero, List.set_cons_succ]
            refine takeW (i := 20) (v := ?_) rfl (by kernel_rfl) (by kernel_rfl) (by kernel_rfl) (fun _ _ _ h => h) (Or.inl ⟨by rfl, ?_⟩) (by assumption) ?_
            rotate_left
            · (intro wz hSw; (try dsimp only at hSw); go_simp <;> with_reducible rfl)
            try simp only [Act.put, List.setIfInBounds_toArray, List.set_cons_zero, List.set_cons_succ]
            refine wpAnyH_ready (rs := [21]) (by kernel_rfl) (by simp) ?_
            refine consW rfl (fun K hK => ?_) AllReadyH.nil
            obtain ⟨-, -, i1, i2, i3, i4, i5, i6, i7, i8, i9, i10, i11, i12, -, -, -, -, -, -, -, xp, xk⟩ := HR3.out.look (List.getElem?_set_self HI1.out)
            have f6 := HR3.out.free (8 * i + 6)
            obtain ⟨l1, g1_, rr1⟩ := (show Ln u2 (u2.setCell ⟨g, 8 * i + 6, none⟩ (.int .i64 0)) ∧ u2.grownBy (u2.setCell ⟨g, 8 * i + 6, none⟩ (.int .i64 0)) (some g) ∧ RRow (u2.setCell ⟨g, 8 * i + 6, none⟩ (.int .i64 0)) g c ((rmap fSettle v es).set i ⟨e.v, e.d, ⟨e.s.h, (0, 1), 0, e.s.k⟩⟩) from by have := HR3.out.setI (List.getElem?_set_self HI1.out) false (off := 6) rfl 0; rw [List.set_set] at this; exact this)
            obtain ⟨u3, hu⟩ : ∃ u, u2.setCell ⟨g, 8 * i + 6, none⟩ (.int .i64 0) = u := ⟨_, rfl⟩
            rw [hu] at l1 g1_ rr1
            have d1_ := HM3.out.1.turn g1_ rr1 (by simp)
            have HM4 := Lib.hid (show RMod w lp (some g) o n c _ u3 from ⟨d1_, grownBy_trans HM3.out.2.1 g1_, HM3.out.2.2.trans l1⟩)
            have HR4 := Lib.hid rr1
            have HBX3 := Lib.hid (show u3.heap[B]? = some (.cells #[.slice a2 m2 c2, .slice b2 n2 d2] 40 (0, 0)) by rw [g1_.block B (Array.getElem?_eq_some_iff.1 HBX2.out).1 (fun e => by have h1 := Option.some.inj e; have h2 := HGLT.out g rfl; have h3 := HBS.out; have h4 := HMD.out.2.1.size; omega)]; exact HBX2.out)
            have HRX4 := Lib.hid (show u3.heap[w.heap.size]? = some (.cells #[.slice none 0 0, .slice none 0 0] 40 (0, 0)) by rw [g1_.block _ (Array.getElem?_eq_some_iff.1 HRX3.out).1 (fun e => by have h1 := Option.some.inj e; have h2 := HGLT.out g rfl; omega)]; exact HRX3.out)
            have HO4 := Lib.hid (HO3.out.ln l1)
            have HU := Lib.hid hu; clear hu l1 g1_ rr1 d1_
            go_simp
            rw [HU.out]
            clear HU xp xk f6
            refine hK.out _ _ ?_ (fun hHeld => ?_)
            · (try dsimp only); exact (drow_cell HM4.out.1.row)
            clear hK K
            try simp only [Act.put, List.setIfInBounds_toArray, List.set_cons_zero, List.set_cons_succ]
            refine takeW (i := 22) (v := ?_) rfl (by kernel_rfl) (by kernel_rfl) (by kernel_rfl) (fun _ _ _ h => h) (Or.inl ⟨by rfl, ?_⟩) (by assumption) ?_
            rotate_left
            · (intro wz hSw; (try dsimp only at hSw); go_simp <;> with_reducible rfl)
            try simp only [Act.put, List.setIfInBounds_toArray, List.set_cons_zero, List.set_cons_succ]
            refine takeW (i := 23) (v := ?_) rfl (by kernel_rfl) (by kernel_rfl) (by kernel_rfl) (fun _ _ _ h => h) (Or.inl ⟨by rfl, ?_⟩) (by assumption) ?_
            rotate_left
            · (intro wz hSw; (try dsimp only at hSw); go_simp <;> with_reducible rfl)
            try simp only [Act.put, List.setIfInBounds_toArray, List.set_cons_zero, List.set_cons_succ]
            refine wpAnyH_ready (rs := [24]) (by kernel_rfl) (by simp) ?_
            refine consW rfl (fun K hK => ?_) AllReadyH.nil
            obtain ⟨-, -, i1, i2, i3, i4, i5, i6, i7, i8, i9, i10, i11, i12, -, -, -, -, -, -, -, xp, xk⟩ := HR4.out.look (List.getElem?_set_self HI1.out)
            have f6 := HR4.out.free (8 * i + 7)
            obtain ⟨l1, g1_, rr1⟩ := (show Ln u3 (u3.setCell ⟨g, 8 * i + 7, none⟩ (.int .i64 0)) ∧ u3.grownBy (u3.setCell ⟨g, 8 * i + 7, none⟩ (.int .i64 0)) (some g) ∧ RRow (u3.setCell ⟨g, 8 * i + 7, none⟩ (.int .i64 0)) g c ((rmap fSettle v es).set i ⟨e.v, e.d, ⟨e.s.h, (0, 1), 0, 0⟩⟩) from by have := HR4.out.setI (List.getElem?_set_self HI1.out) true (off := 7) rfl 0; rw [List.set_set] at this; exact this)
            obtain ⟨u4, hu⟩ : ∃ u, u3.setCell ⟨g, 8 * i + 7, none⟩ (.int .i64 0) = u := ⟨_, rfl⟩
            rw [hu] at l1 g1_ rr1
            have d1_ := HM4.out.1.turn g1_ rr1 (by simp)
            have HM5 := Lib.hid (show RMod w lp (some g) o n c _ u4 from ⟨d1_, grownBy_trans HM4.out.2.1 g1_, HM4.out.2.2.trans l1⟩)
            have HR5 := Lib.hid rr1
            have HBX4 := Lib.hid (show u4.heap[B]? = some (.cells #[.slice a2 m2 c2, .slice b2 n2 d2] 40 (0, 0)) by rw [g1_.block B (Array.getElem?_eq_some_iff.1 HBX3.out).1 (fun e => by have h1 := Option.some.inj e; have h2 := HGLT.out g rfl; have h3 := HBS.out; have h4 := HMD.out.2.1.size; omega)]; exact HBX3.out)
            have HRX5 := Lib.hid (show u4.heap[w.heap.size]? = some (.cells #[.slice none 0 0, .slice none 0 0] 40 (0, 0)) by rw [g1_.block _ (Array.getElem?_eq_some_iff.1 HRX4.out).1 (fun e => by have h1 := Option.some.inj e; have h2 := HGLT.out g rfl; omega)]; exact HRX4.out)
            have HO5 := Lib.hid (HO4.out.ln l1)
            have HU := Lib.hid hu; clear hu l1 g1_ rr1 d1_
            go_simp
            rw [HU.out]
            clear HU xp xk f6
            refine hK.out _ _ ?_ (fun hHeld => ?_)
            · (try dsimp only); exact (drow_cell HM5.out.1.row)
            clear hK K
            try simp only [Act.put, List.setIfInBounds_toArray, List.set_cons_zero, List.set_cons_succ]
            refine wpAnyH_done (by kernel_rfl) ?_ _
            go_wp2_with fail
            go_meet
            case rel => exact ⟨by have h := HM5.out; rw [HEV.out.1, HEV.out.2] at h; rw [HRS.out.1]; exact h, HBX4.out, HRX5.out, HO5.out⟩
          case rest =>
            obtain ⟨hm, hb, hx, hq⟩ := hcut
            obtain ⟨j0, j1, -, -⟩ := row2_cells hb
            obtain ⟨k1, k2, k3, k4⟩ := row2_cells hx
            have HXR := Lib.hid hx
            have HM2 := Lib.hid (hm.box (Nat.le_refl _) HLLT.out HGLT.out hx (.slice a2 m2 c2) (.slice b2 n2 d2)); have HQ := Lib.hid hq
            clear hm hb hx hq
            go_wp2_with fail
            try simp only [Exit.inBlock, Exit.then]
            refine bodyPost_ret (results_box4 rfl _ _ _ _ rfl (load_rat (set2_row HXR.out _ _))) rfl ?_
            rw [HRS.out.2]
            exact ⟨_, _, _, _, _, _, rfl, HQ.out.ln HM2.out.2, HM2.out.1⟩
    · have hlt : (k : Int) < (n : Int) := by omega
      obtain ⟨e, he⟩ : ∃ e, es[k]? = some e := ⟨_, List.getElem?_eq_getElem (by rw [HL.out.len]; omega)⟩
      have her := rpart_at (f := fSettle) (v := v) he
      obtain ⟨g, e', rfl, ho, he', hrr, hix⟩ := HLR.out.ix (k := k) (by omega)
      rw [her] at he'
      cases he'
      obtain ⟨hv, hd, a1, m1, c1, b1, n1, d1, a2, m2, c2, b2, n2, d2, h6, x0, x1, x2, x3, x4, x5, x6, x7⟩ := hrr.look her
      have HRR := Lib.hid hrr; have HER := Lib.hid her
      have HTK := Lib.hid (rpart_step (f := fSettle) (v := v) he)
      clear hrr he her hv hd h6 ho
      by_cases e1 : e.v = v
      · have g1 : ((e.v : Int) == (v : Int)) = true := by rw [beq_iff_eq]; omega
        have g1' : (e.v : Int) = (v : Int) := by omega
        have hT := HTK.out
        rw [if_pos e1] at hT
        have HT2 := Lib.hid hT
        clear e1 hT
        have A1 := HRR.out.setI HER.out false (off := 6) rfl (wrap64 (e.s.p + 1))
        obtain ⟨W1, hW1⟩ : ∃ x, wr.setCell ⟨g, 8 * k + 6, none⟩ (.int .i64 (wrap64 (e.s.p + 1))) = x := ⟨_, rfl⟩
        rw [hW1] at A1
        obtain ⟨l1, g1_, rr1⟩ := A1
        have d1_ := HLR.out.turn g1_ rr1 (List.length_set ..)
        have f6 := HRR.out.free (8 * k + 6)
        have HF := Lib.hid (show RMod X0 lp (some g) o n c (rpart fSettle v (k + 1) es) W1 from ⟨by rw [HT2.out]; exact d1_, grownBy_trans HGR.out g1_, HLN.out.trans l1⟩)
        have HW1 := Lib.hid hW1
        clear hW1 l1 g1_ rr1 d1_
        go_wp2_with (rw [HW1.out])
        go_roundw
        case rel => exact ⟨k + 1, by omega, by go_num, HF.out⟩
        case measure => simp only [RowKit.intOf]; omega
      · have g1 : ((e.v : Int) == (v : Int)) = false := by rw [beq_eq_false_iff_ne]; omega
        have g1' : ¬ ((e.v : Int) = (v : Int)) := by omega
        have hT := HTK.out
        rw [if_neg e1, set_same HER.out] at hT
        have HT2 := Lib.hid hT
        clear e1 hT
        go_wp2_with fail
        go_roundw
        case rel => exact ⟨k + 1, by omega, by go_num, by rw [HT2.out]; exact HLR.out, HGR.out, HLN.out⟩
        case measure => simp only [RowKit.intOf]; omega

end Go.Proofs.YtimcnhlcepemjaaGreatDoor
