
/- gleanref24.Drop. -/
import Derived.Test.YtimcnhlcepemjaaGreatDoorRlJ
namespace Go.Proofs.YtimcnhlcepemjaaGreatDoor
open Go.RowKit

theorem app_zero {w : World} {o a : Option Addr} {n c d : Nat} (hn : n ≤ c) (ty : TypeId) :
    (Builtin.append_ #[28, 28] ty #[.slice o n c, .slice a 0 d]).run Tryz.prog w = .ok (.slice o n c) w := by
  obtain ⟨i, hi, hq⟩ := Option.map_eq_some_iff.1 infoStk
  have hu := Tryz.underlying28
  cases a <;> cases o <;> simp [Builtin.append_, run_underlying hu, sizeOf, typeInfo, hi, Builtin.lenOf, Builtin.firstCells, hn, loadCells, loadCellsFrom, storeCells]
/-- Appended to, be it by nothing. -/
theorem app_any {w : World} {o : Option Addr} {n c : Nat} {es : List Ent} (hs : RSt w o n c es) {a : Option Addr} {m d : Nat} {news : List Value} {xs : List Ent} (hl : news.length = 8 * m) (hxl : xs.length = m)
    (hnews : 0 < m → ∃ ad, a = some ad ∧ ∀ j u, news[j]? = some u → w.cell? (ad.add j) = some u) (hx : Ents w (fun j => news[j]?) xs) (hsz : n + m ≤ 1000000) (ty : TypeId) :
    ∃ o' c' w', (Builtin.append_ #[28, 28] ty #[.slice o n c, .slice a m d]).run Tryz.prog w = .ok (.slice o' (n + m) c') w' ∧
      RSt w' o' (n + m) c' (es ++ xs) ∧ LimK w w' ∧ w.grownBy w' (blk o) ∧ (blk o' = blk o ∨ ∃ k, blk o' = some k ∧ w.heap.size ≤ k) := by
  by_cases hm : m = 0
  · subst hm
    obtain rfl : xs = [] := List.eq_nil_of_length_eq_zero hxl
    have hnc : n ≤ c := by
      obtain ⟨h1, -, h3⟩ := hs
      rcases h3 with ⟨-, h4, h5⟩ | ⟨g, -, h4⟩
      · omega
      · obtain ⟨cur, -, -, h5, -⟩ := h4.ents
        omega
    exact ⟨o, c, w, app_zero hnc ty, by rw [List.append_nil]; exact hs, LimK.refl w, (Ext.refl w).by_ _, .inl rfl⟩
  · obtain ⟨ad, rfl, hn⟩ := hnews (by omega)
    obtain ⟨g', c', w', h1, h2, h3, h4, h5⟩ := app_run (c2 := d) hs hl hxl hn hx (by omega) hsz ty
    refine ⟨some ⟨g', 0, none⟩, c', w', h1, h2, h3, ?_, ?_⟩
    · rcases h5 with ⟨k1, k2⟩ | ⟨k1, k2⟩
      · rw [k1]; exact k2
      · exact k2.by_ _
    · rcases h5 with ⟨k1, k2⟩ | ⟨k1, k2⟩
      · exact .inl (by rw [k1])
      · exact .inr ⟨g', rfl, k1⟩
theorem ents_part {w : World} {cur : Array Value} {es : List Ent} (h : Ents w (fun j => cur[j]?) es) (hs : 8 * es.length ≤ cur.size) (a b : Nat) (hb : a + b ≤ es.length) :
    ((cur.toList.drop (8 * a)).take (8 * b)).length = 8 * b ∧ ((es.drop a).take b).length = b ∧ Ents w (fun j => ((cur.toList.drop (8 * a)).take (8 * b))[j]?) ((es.drop a).take b) ∧ ∀ j, j < 8 * b → ((cur.toList.drop (8 * a)).take (8 * b))[j]? = cur[8 * a + j]? := by
  have hat : ∀ j, j < 8 * b → ((cur.toList.drop (8 * a)).take (8 * b))[j]? = cur[8 * a + j]? := fun j hj => by
    rw [List.getElem?_take, if_pos hj, List.getElem?_drop, Array.getElem?_toList]
  refine ⟨by rw [List.length_take, List.length_drop, Array.length_toList]; omega, by rw [List.length_take, List.length_drop]; omega, fun i e he => ?_, hat⟩
  rw [List.getElem?_take] at he
  split at he
  · rename_i hi
    rw [List.getElem?_drop] at he
    obtain ⟨x, y, a1, m1, c1, b1, n1, d1, a2, m2, c2, b2, n2, d2, u, v⟩ := h _ e he
    refine ⟨x, y, a1, m1, c1, b1, n1, d1, a2, m2, c2, b2, n2, d2, fun j hj => ?_, v⟩
    simp only
    rw [hat _ (by omega), show 8 * a + (8 * i + j) = 8 * (a + i) + j by omega]
    exact u j hj
  · cases he
theorem app_part {u : World} {lp : Nat} {gb : Option Nat} {o : Option Addr} {n c : Nat} {es : List Ent} (h : RLed u lp gb o n c es) {a b : Nat} (hab : a + b ≤ n) {so : Option Addr} (hso : 0 < b → so = o.map (·.add (a * 8))) {o1 : Option Addr} {n1 c1 d : Nat} {es1 : List Ent} (hs : RSt u o1 n1 c1 es1) (hsz : n1 + b ≤ 1000000) (ty : TypeId) :
    ∃ o' c' w', (Builtin.append_ #[28, 28] ty #[.slice o1 n1 c1, .slice so b d]).run Tryz.prog u = .ok (.slice o' (n1 + b) c') w' ∧
      RSt w' o' (n1 + b) c' (es1 ++ (es.drop a).take b) ∧ LimK u w' ∧ u.grownBy w' (blk o1) ∧ (blk o' = blk o1 ∨ ∃ k, blk o' = some k ∧ u.heap.size ≤ k) := by
  rcases h.at_ with ⟨-, -, h1, h2⟩ | ⟨g, -, h2, h3⟩
  · obtain rfl : b = 0 := by omega
    have := app_any (w := u) hs (a := so) (m := 0) (d := d) (news := []) (xs := []) rfl rfl (fun h => by omega) (fun i e h => by cases h) hsz ty
    rw [List.take_zero]
    exact this
  · obtain ⟨cur, r1, r2, r3, r4, r5⟩ := h3.ents
    have hl := h.len
    obtain ⟨p1, p2, p3, p4⟩ := ents_part r4 (by omega) a b (by omega)
    refine app_any hs p1 p2 (fun hb => ⟨⟨g, a * 8, none⟩, by rw [hso hb, h2]; show some ((⟨g, 0, none⟩ : Addr).add (a * 8)) = _; rw [Addr.add_lit, Nat.zero_add], fun j w hj => ?_⟩) p3 hsz ty
    have hjl : j < 8 * b := by
      have := (List.getElem?_eq_some_iff.1 hj).1
      rw [p1] at this
      exact this
    rw [p4 j hjl] at hj
    rw [Addr.add_lit, cell_of_row _ _ _ _ _ _ r1, Nat.mul_comm]
    exact hj
/-- What Drop leaves. -/
def RDrp (w : World) (lp : Nat) (gb : Option Nat) (n : Nat) (es' : List Ent) (e : Ending) (w' : World) : Prop :=
  e = .returned (.tuple #[]) ∧ ∃ (gb' : Option Nat) (o' : Option Addr) (n' c' : Nat), RLed w' lp gb' o' n' c' es' ∧ (∀ g, gb' = some g → gb = some g ∨ w.heap.size ≤ g) ∧ Tn w w' lp none ∧ Ln w w' ∧ n' ≤ n
theorem drop_end {w w2 : World} {lp : Nat} {gb : Option Nat} {o : Option Addr} {n c : Nat} {es es' : List Ent} (h : RLed w lp gb o n c es) (E : Ext w w2) {o2 : Option Addr} {n2 c2 : Nat} (hs : RSt w2 o2 n2 c2 es') (hb : ∀ k, blk o2 = some k → w.heap.size ≤ k) (hn : n2 ≤ n) :
    w2.cell? ⟨lp, 0, none⟩ = some (.slice o n c) ∧ w2.frozen? ⟨lp, 0, none⟩ = false ∧ RDrp w lp gb n es' (.returned (.tuple #[])) (w2.setCell ⟨lp, 0, none⟩ (.slice o2 n2 c2)) := by
  have hrow := rowE E h.row
  obtain ⟨LN, gb', hl, rfl⟩ := RLed.head hrow hs
  refine ⟨drow_cell hrow, frozen_of_row _ _ _ _ _ hrow, rfl, _, o2, n2, c2, hl, fun g hg => .inr (hb g hg), ?_, E.lk.ln.trans LN, hn⟩
  exact ⟨E.os, E.tape, E.output, by simp; exact E.size, fun k hk h1 h2 => by
    rw [heap_setCell_other _ _ _ _ (by exact h1), E.block k hk]⟩

theorem rslice_lo {o : Option Addr} {n c i : Nat} (hi : i ≤ c) (W : World) : (Instr.slice 28 (.slice o n c) none (some (.int .i64 (i : Int))) none).run Tryz.prog W = .ok (.slice o i c) W := by
  obtain ⟨j, h1, h3⟩ := stake_info
  have hr := run_sizeOf h1 W
  have hc : (0 : Int) ≤ (i : Int) ∧ (i : Int) ≤ (c : Int) := ⟨by omega, by omega⟩
  simp [Instr.slice, run_underlying Tryz.underlying28, Instr.sliceBounds, Instr.sliceBound, asIntOf, hi, hr, opt_add_zero]
theorem rslice_hi {o : Option Addr} {n c i : Nat} (hi : i ≤ n) (W : World) : (Instr.slice 28 (.slice o n c) (some (.int .i64 (i : Int))) none none).run Tryz.prog W = .ok (.slice (if c = i then o else o.map (·.add (i * 8))) (n - i) (c - i)) W := by
  obtain ⟨j, h1, h3⟩ := stake_info
  have hr := run_sizeOf h1 W
  rw [h3] at hr
  have hc : (0 : Int) ≤ (i : Int) ∧ (i : Int) ≤ (n : Int) := ⟨by omega, by omega⟩
  simp [Instr.slice, run_underlying Tryz.underlying28, Instr.sliceBounds, Instr.sliceBound, asIntOf, hi, hr]

set_option maxHeartbeats 8000000 in
set_option maxRecDepth 100000 in
theorem rldrop_calls {w : World} {lp : Nat} {gb : Option Nat} {o : Option Addr} {n c : Nat} {es : List Ent} (h : RLed w lp gb o n c es) (hn : n ≤ 1000) {v d : Nat} :
    Calls Tryz.prog 20 #[.pointer (some ⟨lp, 0, none⟩), .int .u64 (v : Int), .int .u64 (d : Int)] w (RDrp w lp gb n (rDrop es v d)) := by
  have C1 := rlat_calls h (v := v) (d := d)
  have HL := Lib.hid h; have HN := Lib.hid hn
  unfold rDrop
  clear h hn
  cases hi : ixOf es v d with
  | none =>
    rw [hi, show ixI none = -1 from rfl] at C1
    have HC1 := Lib.hid C1
    clear C1 hi
    go_enter Tryz.func20, Tryz.ntmps20
    go_wp2_with fail
    refine HC1.out.mono ?_
    rintro e' w' ⟨rfl, rfl⟩
    go_wp2_with fail
    go_end0
    exact ⟨rfl, gb, o, n, c, HL.out, fun g hg => .inl hg, Tn.refl _ _ _, Ln.refl _, Nat.le_refl _⟩
  | some i =>
    rw [hi, show ixI (some i) = (i : Int) from rfl] at C1
    have hin : i < n := by
      have := (List.findIdx?_eq_some_iff_getElem.1 hi).1
      rw [← HL.out.len]; exact this
    have HC1 := Lib.hid C1; have HIN := Lib.hid hin
    have hge : (0 : Int) ≤ (i : Int) := by omega
    have k0 : w.cell? ⟨lp, 0, none⟩ = some (.slice o n c) := drow_cell HL.out.row
    have hs1 := fun W => rslice_lo (o := o) (n := n) (c := c) (i := i) (by have := HL.out.le; omega) W
    have hs2 := fun W => rslice_hi (o := o) (n := n) (c := c) (i := i + 1) (by omega) W
    obtain ⟨so, hso⟩ : ∃ x, (if c = i + 1 then o else o.map (·.add ((i + 1) * 8))) = x := ⟨_, rfl⟩
    rw [hso] at hs2
    have hwi : IntKind.i64.wrap ((i : Int) + 1) = (i : Int) + 1 := IntWalk.i64_in _ (by have := HN.out; omega)
    have hc1 : (0 : Int) ≤ (i : Int) + 1 := by omega
    have hc2 : (i : Int) + 1 ≤ (n : Int) := by omega
    have HSO := Lib.hid (show 0 < n - (i + 1) → so = o.map (·.add ((i + 1) * 8)) from fun hp => by
      have := HL.out.le
      rw [← hso, if_neg (by omega)])
    clear C1 hi hin
    go_enter Tryz.func20, Tryz.ntmps20
    go_wp2_with fail
    refine HC1.out.mono ?_
    rintro e' w' ⟨rfl, rfl⟩
    clear HC1
    go_upto_region 2 with (fail)
    obtain ⟨u0, hu0⟩ : ∃ u, w.drew = u := ⟨_, rfl⟩
    have HE0_ := Lib.hid (show Ext w u0 by rw [← hu0]; exact (Ext.refl _).drew)
    refine wp_region_held_drew (S := fun _ => True) (by kernel_rfl) trivial (fun hHeld => ?_)
    rw [hu0]
    clear hu0
    refine takeW (i := 0) (v := ?_) rfl (by kernel_rfl) (by kernel_rfl) (by kernel_rfl) (fun _ _ _ h => h) (Or.inl ⟨by rfl, ?_⟩) (by assumption) ?_
    rotate_left
    · (intro wz hSw; (try dsimp only at hSw); go_simp <;> with_reducible rfl)
    try simp only [Act.put, List.setIfInBounds_toArray, List.set_cons_zero, List.set_cons_succ]
    refine takeW (i := 1) (v := ?_) rfl (by kernel_rfl) (by kernel_rfl) (by kernel_rfl) (fun _ _ _ h => h) (Or.inl ⟨by rfl, ?_⟩) (by assumption) ?_
    rotate_left
    · (intro wz hSw; (try dsimp only at hSw); go_simp <;> with_reducible rfl)
    try simp only [Act.put, List.setIfInBounds_toArray, List.set_cons_zero, List.set_cons_succ]
    refine takeW (i := 2) (v := ?_) rfl (by kernel_rfl) (by kernel_rfl) (by kernel_rfl) (fun _ _ _ h => h) (Or.inl ⟨by rfl, ?_⟩) (by assumption) ?_
    rotate_left
    · (intro wz hSw; (try dsimp only at hSw); go_simp <;> with_reducible rfl)
    try simp only [Act.put, List.setIfInBounds_toArray, List.set_cons_zero, List.set_cons_succ]
    refine takeW (i := 3) (v := ?_) rfl (by kernel_rfl) (by kernel_rfl) (by kernel_rfl) (fun _ _ _ h => h) (Or.inl ⟨by rfl, ?_⟩) (by assumption) ?_
    rotate_left
    · (intro wz hSw; (try dsimp only at hSw); go_simp <;> with_reducible rfl)
    try simp only [Act.put, List.setIfInBounds_toArray, List.set_cons_zero, List.set_cons_succ]
    refine takeW (i := 5) (v := ?_) rfl (by kernel_rfl) (by kernel_rfl) (by kernel_rfl) (fun _ _ _ h => h) (Or.inl ⟨by rfl, ?_⟩) (by assumption) ?_
    rotate_left
    · (intro wz hSw; (try dsimp only at hSw); go_simp <;> with_reducible rfl)
    try simp only [Act.put, List.setIfInBounds_toArray, List.set_cons_zero, List.set_cons_succ]
    refine takeW (i := 8) (v := ?_) rfl (by kernel_rfl) (by kernel_rfl) (by kernel_rfl) (fun _ _ _ h => h) (Or.inl ⟨by rfl, ?_⟩) (by assumption) ?_
    rotate_left
    · (intro wz hSw; (try dsimp only at hSw); go_simp <;> with_reducible rfl)
    try simp only [Act.put, List.setIfInBounds_toArray, List.set_cons_zero, List.set_cons_succ]
    refine takeW (i := 9) (v := ?_) rfl (by kernel_rfl) (by kernel_rfl) (by kernel_rfl) (fun _ _ _ h => h) (Or.inl ⟨by rfl, ?_⟩) (by assumption) ?_
    rotate_left
    · (intro wz hSw; (try dsimp only at hSw); go_simp <;> with_reducible rfl)
    try simp only [Act.put, List.setIfInBounds_toArray, List.set_cons_zero, List.set_cons_succ]
    refine takeW (i := 10) (v := ?_) rfl (by kernel_rfl) (by kernel_rfl) (by kernel_rfl) (fun _ _ _ h => h) (Or.inl ⟨by rfl, ?_⟩) (by assumption) ?_
    rotate_left
    · (intro wz hSw; (try dsimp only at hSw); go_simp <;> with_reducible rfl)
    try simp only [Act.put, List.setIfInBounds_toArray, List.set_cons_zero, List.set_cons_succ]
    refine takeW (i := 12) (v := ?_) rfl (by kernel_rfl) (by kernel_rfl) (by kernel_rfl) (fun _ _ _ h => h) (Or.inl ⟨by rfl, ?_⟩) (by assumption) ?_
    rotate_left
    · (intro wz hSw; (try dsimp only at hSw); go_simp <;> with_reducible rfl)
    try simp only [Act.put, List.setIfInBounds_toArray, List.set_cons_zero, List.set_cons_succ]
    refine takeW (i := 13) (v := ?_) rfl (by kernel_rfl) (by kernel_rfl) (by kernel_rfl) (fun _ _ _ h => h) (Or.inl ⟨by rfl, ?_⟩) (by assumption) ?_
    rotate_left
    · (intro wz hSw; (try dsimp only at hSw); go_simp <;> with_reducible rfl)
    try simp only [Act.put, List.setIfInBounds_toArray, List.set_cons_zero, List.set_cons_succ]
    refine wpAnyH_ready (rs := [4, 11]) (by kernel_rfl) (by simp) ?_
    refine consW rfl (fun K hK => ?_) ?_
    · have y0 := HE0_.out.cell k0
      go_simp
      clear y0
      refine hK.out _ _ ?_ (fun hHeld => ?_)
      · trivial
      clear hK K
      try simp only [Act.put, List.setIfInBounds_toArray, List.set_cons_zero, List.set_cons_succ]
      refine takeW (i := 6) (v := ?_) rfl (by kernel_rfl) (by kernel_rfl) (by kernel_rfl) (fun _ _ _ h => h) (Or.inl ⟨by rfl, ?_⟩) (by assumption) ?_
      rotate_left
      · (intro wz hSw; (try dsimp only at hSw); go_simp <;> with_reducible rfl)
      try simp only [Act.put, List.setIfInBounds_toArray, List.set_cons_zero, List.set_cons_succ]
      refine wpAnyH_ready (rs := [7, 11]) (by kernel_rfl) (by simp) ?_
      refine consW rfl (fun K hK => ?_) ?_
      · obtain ⟨o1, c1, u1, hrun, hr1, hl1, hg1, hb1⟩ := app_part (HL.out.lk HE0_.out.lk) (a := 0) (b := i) (by have := HIN.out; omega) (so := o) (fun _ => by cases o <;> simp [Addr.add]) (o1 := none) (n1 := 0) (c1 := 0) (d := c) (es1 := []) ⟨rfl, by decide, .inl ⟨rfl, rfl, rfl⟩⟩ (by have := HIN.out; have := HN.out; omega) 28
        rw [Nat.zero_add] at hrun hr1
        have HX1 := Lib.hid (show Ext u0 u1 from Ext.grown hg1 (fun k h => by cases h)); have HE1_ := Lib.hid (HE0_.out.trans HX1.out); have HR1 := Lib.hid hr1
        have HB1 := Lib.hid (show ∀ k, blk o1 = some k → w.heap.size ≤ k from fun k hk => by rcases hb1 with h | ⟨k', h, h2⟩; (rw [h] at hk; cases hk); (rw [h] at hk; cases hk; exact Nat.le_trans HE0_.out.size h2))
        have HRUN := Lib.hid hrun; clear hrun hr1 hl1 hg1 hb1
        refine step_append_run rfl _ _ _ rfl (by rfl) (by rfl) HRUN.out ?_
        clear HRUN
        refine hK.out _ _ ?_ (fun hHeld => ?_)
        · trivial
        clear hK K
        try simp only [Act.put, List.setIfInBounds_toArray, List.set_cons_zero, List.set_cons_succ]
        refine wpAnyH_ready (rs := [11]) (by kernel_rfl) (by simp) ?_
        refine consW rfl (fun K hK => ?_) AllReadyH.nil
        have y0 := HE1_.out.cell k0
        go_simp
        clear y0
        refine hK.out _ _ ?_ (fun hHeld => ?_)
        · trivial
        clear hK K
        try simp only [Act.put, List.setIfInBounds_toArray, List.set_cons_zero, List.set_cons_succ]
        refine takeW (i := 14) (v := ?_) rfl (by kernel_rfl) (by kernel_rfl) (by kernel_rfl) (fun _ _ _ h => h) (Or.inl ⟨by rfl, ?_⟩) (by assumption) ?_
        rotate_left
        · (intro wz hSw; (try dsimp only at hSw); go_simp <;> with_reducible rfl)
        try simp only [Act.put, List.setIfInBounds_toArray, List.set_cons_zero, List.set_cons_succ]
        refine wpAnyH_ready (rs := [15]) (by kernel_rfl) (by simp) ?_
        refine consW rfl (fun K hK => ?_) AllReadyH.nil
        obtain ⟨o2, c2, u2, hrun, hr2, hl2, hg2, hb2⟩ := app_part (HL.out.lk HE1_.out.lk) (a := i + 1) (b := n - (i + 1)) (by have := HIN.out; omega) HSO.out (d := c - (i + 1)) HR1.out (by have := HIN.out; have := HN.out; omega) 28
        have HE2_ := Lib.hid (show Ext w u2 from Below.grown HE1_.out hg2 HE1_.out.size (fun k hk => HB1.out k hk))
        have HB2 := Lib.hid (show ∀ k, blk o2 = some k → w.heap.size ≤ k from fun k hk => by rcases hb2 with h | ⟨k', h, h2⟩; (rw [h] at hk; exact HB1.out k hk); (rw [h] at hk; cases hk; exact Nat.le_trans HE1_.out.size h2))
        have HLST := Lib.hid (show (es.drop 0).take i = es.take i ∧ (es.drop (i + 1)).take (n - (i + 1)) = es.drop (i + 1) from ⟨by rw [List.drop_zero], List.take_of_length_le (by rw [List.length_drop, HL.out.len]; omega)⟩)
        rw [HLST.out.1, HLST.out.2, List.nil_append] at hr2
        have HEND := Lib.hid (drop_end HL.out HE2_.out hr2 HB2.out (by have := HIN.out; omega))
        have HRUN := Lib.hid hrun; clear hrun hr2 hl2 hg2 hb2
        refine step_append_run rfl _ _ _ rfl (by rfl) (by rfl) HRUN.out ?_
        clear HRUN
        refine hK.out _ _ ?_ (fun hHeld => ?_)
        · trivial
        clear hK K
        try simp only [Act.put, List.setIfInBounds_toArray, List.set_cons_zero, List.set_cons_succ]
        refine takeW (i := 16) (v := ?_) rfl (by kernel_rfl) (by kernel_rfl) (by kernel_rfl) (fun _ _ _ h => h) (Or.inl ⟨by rfl, ?_⟩) (by assumption) ?_
        rotate_left
        · (intro wz hSw; (try dsimp only at hSw); go_simp <;> with_reducible rfl)
        try simp only [Act.put, List.setIfInBounds_toArray, List.set_cons_zero, List.set_cons_succ]
        refine takeW (i := 17) (v := ?_) rfl (by kernel_rfl) (by kernel_rfl) (by kernel_rfl) (fun _ _ _ h => h) (Or.inl ⟨by rfl, ?_⟩) (by assumption) ?_
        rotate_left
        · (intro wz hSw; (try dsimp only at hSw); go_simp <;> with_reducible rfl)
        try simp only [Act.put, List.setIfInBounds_toArray, List.set_cons_zero, List.set_cons_succ]
        refine wpAnyH_ready (rs := [18]) (by kernel_rfl) (by simp) ?_
        refine consW rfl (fun K hK => ?_) AllReadyH.nil
        obtain ⟨y0, y1, -⟩ := HEND.out
        go_simp
        clear y0 y1
        refine hK.out _ _ ?_ (fun hHeld => ?_)
        · trivial
        clear hK K
        try simp only [Act.put, List.setIfInBounds_toArray, List.set_cons_zero, List.set_cons_succ]
        refine wpAnyH_done (by kernel_rfl) ?_ _
        go_wp2_with fail
        go_end0
        exact HEND.out.2.2
      refine consW rfl (fun K hK => ?_) AllReadyH.nil
      have y0 := HE0_.out.cell k0
      go_simp
      clear y0
      refine hK.out _ _ ?_ (fun hHeld => ?_)
      · trivial
      clear hK K
      try simp only [Act.put, List.setIfInBounds_toArray, List.set_cons_zero, List.set_cons_succ]
      refine takeW (i := 14) (v := ?_) rfl (by kernel_rfl) (by kernel_rfl) (by kernel_rfl) (fun _ _ _ h => h) (Or.inl ⟨by rfl, ?_⟩) (by assumption) ?_
      rotate_left
      · (intro wz hSw; (try dsimp only at hSw); go_simp <;> with_reducible rfl)
      try simp only [Act.put, List.setIfInBounds_toArray, List.set_cons_zero, List.set_cons_succ]
      refine wpAnyH_ready (rs := [7]) (by kernel_rfl) (by simp) ?_
      refine consW rfl (fun K hK => ?_) AllReadyH.nil
      obtain ⟨o1, c1, u1, hrun, hr1, hl1, hg1, hb1⟩ := app_part (HL.out.lk HE0_.out.lk) (a := 0) (b := i) (by have := HIN.out; omega) (so := o) (fun _ => by cases o <;> simp [Addr.add]) (o1 := none) (n1 := 0) (c1 := 0) (d := c) (es1 := []) ⟨rfl, by decide, .inl ⟨rfl, rfl, rfl⟩⟩ (by have := HIN.out; have := HN.out; omega) 28
      rw [Nat.zero_add] at hrun hr1
      have HX1 := Lib.hid (show Ext u0 u1 from Ext.grown hg1 (fun k h => by cases h)); have HE1_ := Lib.hid (HE0_.out.trans HX1.out); have HR1 := Lib.hid hr1
      have HB1 := Lib.hid (show ∀ k, blk o1 = some k → w.heap.size ≤ k from fun k hk => by rcases hb1 with h | ⟨k', h, h2⟩; (rw [h] at hk; cases hk); (rw [h] at hk; cases hk; exact Nat.le_trans HE0_.out.size h2))
      have HRUN := Lib.hid hrun; clear hrun hr1 hl1 hg1 hb1
      refine step_append_run rfl _ _ _ rfl (by rfl) (by rfl) HRUN.out ?_
      clear HRUN
      refine hK.out _ _ ?_ (fun hHeld => ?_)
      · trivial
      clear hK K
      try simp only [Act.put, List.setIfInBounds_toArray, List.set_cons_zero, List.set_cons_succ]
      refine wpAnyH_ready (rs := [15]) (by kernel_rfl) (by simp) ?_
      refine consW rfl (fun K hK => ?_) AllReadyH.nil
      obtain ⟨o2, c2, u2, hrun, hr2, hl2, hg2, hb2⟩ := app_part (HL.out.lk HE1_.out.lk) (a := i + 1) (b := n - (i + 1)) (by have := HIN.out; omega) HSO.out (d := c - (i + 1)) HR1.out (by have := HIN.out; have := HN.out; omega) 28
      have HE2_ := Lib.hid (show Ext w u2 from Below.grown HE1_.out hg2 HE1_.out.size (fun k hk => HB1.out k hk))
      have HB2 := Lib.hid (show ∀ k, blk o2 = some k → w.heap.size ≤ k from fun k hk => by rcases hb2 with h | ⟨k', h, h2⟩; (rw [h] at hk; exact HB1.out k hk); (rw [h] at hk; cases hk; exact Nat.le_trans HE1_.out.size h2))
      have HLST := Lib.hid (show (es.drop 0).take i = es.take i ∧ (es.drop (i + 1)).take (n - (i + 1)) = es.drop (i + 1) from ⟨by rw [List.drop_zero], List.take_of_length_le (by rw [List.length_drop, HL.out.len]; omega)⟩)
      rw [HLST.out.1, HLST.out.2, List.nil_append] at hr2
      have HEND := Lib.hid (drop_end HL.out HE2_.out hr2 HB2.out (by have := HIN.out; omega))
      have HRUN := Lib.hid hrun; clear hrun hr2 hl2 hg2 hb2
      refine step_append_run rfl _ _ _ rfl (by rfl) (by rfl) HRUN.out ?_
      clear HRUN
      refine hK.out _ _ ?_ (fun hHeld => ?_)
      · trivial
      clear hK K
      try simp only [Act.put, List.setIfInBounds_toArray, List.set_cons_zero, List.set_cons_succ]
      refine takeW (i := 16) (v := ?_) rfl (by kernel_rfl) (by kernel_rfl) (by kernel_rfl) (fun _ _ _ h => h) (Or.inl ⟨by rfl, ?_⟩) (by assumption) ?_
      rotate_left
      · (intro wz hSw; (try dsimp only at hSw); go_simp <;> with_reducible rfl)
      try simp only [Act.put, List.setIfInBounds_toArray, List.set_cons_zero, List.set_cons_succ]
      refine takeW (i := 17) (v := ?_) rfl (by kernel_rfl) (by kernel_rfl) (by kernel_rfl) (fun _ _ _ h => h) (Or.inl ⟨by rfl, ?_⟩) (by assumption) ?_
      rotate_left
      · (intro wz hSw; (try dsimp only at hSw); go_simp <;> with_reducible rfl)
      try simp only [Act.put, List.setIfInBounds_toArray, List.set_cons_zero, List.set_cons_succ]
      refine wpAnyH_ready (rs := [18]) (by kernel_rfl) (by simp) ?_
      refine consW rfl (fun K hK => ?_) AllReadyH.nil
      obtain ⟨y0, y1, -⟩ := HEND.out
      go_simp
      clear y0 y1
      refine hK.out _ _ ?_ (fun hHeld => ?_)
      · trivial
      clear hK K
      try simp only [Act.put, List.setIfInBounds_toArray, List.set_cons_zero, List.set_cons_succ]
      refine wpAnyH_done (by kernel_rfl) ?_ _
      go_wp2_with fail
      go_end0
      exact HEND.out.2.2
    refine consW rfl (fun K hK => ?_) AllReadyH.nil
    have y0 := HE0_.out.cell k0
    go_simp
    clear y0
    refine hK.out _ _ ?_ (fun hHeld => ?_)
    · trivial
    clear hK K
    try simp only [Act.put, List.setIfInBounds_toArray, List.set_cons_zero, List.set_cons_succ]
    refine takeW (i := 14) (v := ?_) rfl (by kernel_rfl) (by kernel_rfl) (by kernel_rfl) (fun _ _ _ h => h) (Or.inl ⟨by rfl, ?_⟩) (by assumption) ?_
    rotate_left
    · (intro wz hSw; (try dsimp only at hSw); go_simp <;> with_reducible rfl)
    try simp only [Act.put, List.setIfInBounds_toArray, List.set_cons_zero, List.set_cons_succ]
    refine wpAnyH_ready (rs := [4]) (by kernel_rfl) (by simp) ?_
    refine consW rfl (fun K hK => ?_) AllReadyH.nil
    have y0 := HE0_.out.cell k0
    go_simp
    clear y0
    refine hK.out _ _ ?_ (fun hHeld => ?_)
    · trivial
    clear hK K
    try simp only [Act.put, List.setIfInBounds_toArray, List.set_cons_zero, List.set_cons_succ]
    refine takeW (i := 6) (v := ?_) rfl (by kernel_rfl) (by kernel_rfl) (by kernel_rfl) (fun _ _ _ h => h) (Or.inl ⟨by rfl, ?_⟩) (by assumption) ?_
    rotate_left
    · (intro wz hSw; (try dsimp only at hSw); go_simp <;> with_reducible rfl)
    try simp only [Act.put, List.setIfInBounds_toArray, List.set_cons_zero, List.set_cons_succ]
    refine wpAnyH_ready (rs := [7]) (by kernel_rfl) (by simp) ?_
    refine consW rfl (fun K hK => ?_) AllReadyH.nil
    obtain ⟨o1, c1, u1, hrun, hr1, hl1, hg1, hb1⟩ := app_part (HL.out.lk HE0_.out.lk) (a := 0) (b := i) (by have := HIN.out; omega) (so := o) (fun _ => by cases o <;> simp [Addr.add]) (o1 := none) (n1 := 0) (c1 := 0) (d := c) (es1 := []) ⟨rfl, by decide, .inl ⟨rfl, rfl, rfl⟩⟩ (by have := HIN.out; have := HN.out; omega) 28
    rw [Nat.zero_add] at hrun hr1
    have HX1 := Lib.hid (show Ext u0 u1 from Ext.grown hg1 (fun k h => by cases h)); have HE1_ := Lib.hid (HE0_.out.trans HX1.out); have HR1 := Lib.hid hr1
    have HB1 := Lib.hid (show ∀ k, blk o1 = some k → w.heap.size ≤ k from fun k hk => by rcases hb1 with h | ⟨k', h, h2⟩; (rw [h] at hk; cases hk); (rw [h] at hk; cases hk; exact Nat.le_trans HE0_.out.size h2))
    have HRUN := Lib.hid hrun; clear hrun hr1 hl1 hg1 hb1
    refine step_append_run rfl _ _ _ rfl (by rfl) (by rfl) HRUN.out ?_
    clear HRUN
    refine hK.out _ _ ?_ (fun hHeld => ?_)
    · trivial
    clear hK K
    try simp only [Act.put, List.setIfInBounds_toArray, List.set_cons_zero, List.set_cons_succ]
    refine wpAnyH_ready (rs := [15]) (by kernel_rfl) (by simp) ?_
    refine consW rfl (fun K hK => ?_) AllReadyH.nil
    obtain ⟨o2, c2, u2, hrun, hr2, hl2, hg2, hb2⟩ := app_part (HL.out.lk HE1_.out.lk) (a := i + 1) (b := n - (i + 1)) (by have := HIN.out; omega) HSO.out (d := c - (i + 1)) HR1.out (by have := HIN.out; have := HN.out; omega) 28
    have HE2_ := Lib.hid (show Ext w u2 from Below.grown HE1_.out hg2 HE1_.out.size (fun k hk => HB1.out k hk))
    have HB2 := Lib.hid (show ∀ k, blk o2 = some k → w.heap.size ≤ k from fun k hk => by rcases hb2 with h | ⟨k', h, h2⟩; (rw [h] at hk; exact HB1.out k hk); (rw [h] at hk; cases hk; exact Nat.le_trans HE1_.out.size h2))
    have HLST := Lib.hid (show (es.drop 0).take i = es.take i ∧ (es.drop (i + 1)).take (n - (i + 1)) = es.drop (i + 1) from ⟨by rw [List.drop_zero], List.take_of_length_le (by rw [List.length_drop, HL.out.len]; omega)⟩)
    rw [HLST.out.1, HLST.out.2, List.nil_append] at hr2
    have HEND := Lib.hid (drop_end HL.out HE2_.out hr2 HB2.out (by have := HIN.out; omega))
    have HRUN := Lib.hid hrun; clear hrun hr2 hl2 hg2 hb2
    refine step_append_run rfl _ _ _ rfl (by rfl) (by rfl) HRUN.out ?_
    clear HRUN
    refine hK.out _ _ ?_ (fun hHeld => ?_)
    · trivial
    clear hK K
    try simp only [Act.put, List.setIfInBounds_toArray, List.set_cons_zero, List.set_cons_succ]
    refine takeW (i := 16) (v := ?_) rfl (by kernel_rfl) (by kernel_rfl) (by kernel_rfl) (fun _ _ _ h => h) (Or.inl ⟨by rfl, ?_⟩) (by assumption) ?_
    rotate_left
    · (intro wz hSw; (try dsimp only at hSw); go_simp <;> with_reducible rfl)
    try simp only [Act.put, List.setIfInBounds_toArray, List.set_cons_zero, List.set_cons_succ]
    refine takeW (i := 17) (v := ?_) rfl (by kernel_rfl) (by kernel_rfl) (by kernel_rfl) (fun _ _ _ h => h) (Or.inl ⟨by rfl, ?_⟩) (by assumption) ?_
    rotate_left
    · (intro wz hSw; (try dsimp only at hSw); go_simp <;> with_reducible rfl)
    try simp only [Act.put, List.setIfInBounds_toArray, List.set_cons_zero, List.set_cons_succ]
    refine wpAnyH_ready (rs := [18]) (by kernel_rfl) (by simp) ?_
    refine consW rfl (fun K hK => ?_) AllReadyH.nil
    obtain ⟨y0, y1, -⟩ := HEND.out
    go_simp
    clear y0 y1
    refine hK.out _ _ ?_ (fun hHeld => ?_)
    · trivial
    clear hK K
    try simp only [Act.put, List.setIfInBounds_toArray, List.set_cons_zero, List.set_cons_succ]
    refine wpAnyH_done (by kernel_rfl) ?_ _
    go_wp2_with fail
    go_end0
    exact HEND.out.2.2

end Go.Proofs.YtimcnhlcepemjaaGreatDoor
