
/- Two ledgers side by side, the program's and the document's; a script's steps as an argument. -/
import Derived.Test.YtimcnhlcepemjaaGreatDoorRlK
import Derived.Test.YtimcnhlcepemjaaGreatDoorMJ
namespace Go.Proofs.YtimcnhlcepemjaaGreatDoor
open Go.RowKit Go.Lib

/-- The two ledgers in a world behind w0. -/
structure PlW (w0 : World) (lp p b : Nat) (M : Stakes) (es : List Ent) (gb : Option Nat) (o : Option Addr) (n c N : Nat) (w : World) : Prop where
  led : Led w b N M
  cell : w.cell? ⟨p, 0, none⟩ = some (.map (some b))
  rled : RLed w lp gb o n c es
  ext : Ext w0 w
  bge : w0.heap.size ≤ b
  lge : w0.heap.size ≤ lp
  gge : ∀ q, gb = some q → w0.heap.size ≤ q
theorem PlW.old {w0 : World} {lp p b : Nat} {M : Stakes} {es : List Ent} {gb : Option Nat} {o : Option Addr} {n c N : Nat} {w w' : World} (h : PlW w0 lp p b M es gb o n c N w) (E : Ext w w') : PlW w0 lp p b M es gb o n c N w' :=
  ⟨h.led.old E, E.cell h.cell, h.rled.lk E.lk, h.ext.trans E, h.bge, h.lge, h.gge⟩
theorem PlW.prog {w0 : World} {lp p b : Nat} {M M' : Stakes} {es : List Ent} {gb : Option Nat} {o : Option Addr} {n c N N' : Nat} {w w' : World} (h : PlW w0 lp p b M es gb o n c N w) (hl : Led w' b N' M') (g : w.grownBy w' (some b)) : PlW w0 lp p b M' es gb o n c N' w' :=
  ⟨hl, (h.led.isMapB.lk g).cell h.cell, h.rled.lk (h.led.isMapB.lk g), h.ext.mx h.bge g, h.bge, h.lge, h.gge⟩
theorem cell_row {w : World} {B : Nat} {v : Value} (h : w.cell? ⟨B, 0, none⟩ = some v) {cur : Array Value} {T : TypeId} (r : w.heap[B]? = some (.cells cur T (0, 0))) : cur[0]? = some v := by
  rw [cell_of_row _ _ _ _ _ _ r] at h; exact h
theorem PlW.ref {w0 : World} {lp p b : Nat} {M : Stakes} {es es' : List Ent} {gb gb' : Option Nat} {o o' : Option Addr} {n c n' c' N : Nat} {w w' : World} (h : PlW w0 lp p b M es gb o n c N w) (hr : RLed w' lp gb' o' n' c' es') (t : Tn w w' lp gb) (L : LimK w w')
    (hg : ∀ q, gb' = some q → gb = some q ∨ w.heap.size ≤ q) : PlW w0 lp p b M es' gb' o' n' c' N w' := by
  obtain ⟨ms, mc, hb⟩ := h.led.isMapB
  have hblp : b ≠ lp := by
    intro e
    rw [e, h.rled.row] at hb
    cases hb
  have hbg : some b ≠ gb := by
    intro e
    rcases h.rled.at_ with ⟨k, -⟩ | ⟨g, k1, k2, k3⟩
    · rw [k] at e; cases e
    · rw [k1] at e
      cases e
      obtain ⟨cur, r, -⟩ := k3.ents
      rw [r] at hb
      cases hb
  have hplp : p ≠ lp := by
    intro e
    have := cell_row (e ▸ h.cell) h.rled.row
    simp at this
  have hpg : some p ≠ gb := by
    intro e
    rcases h.rled.at_ with ⟨k, -⟩ | ⟨g, k1, k2, k3⟩
    · rw [k] at e; cases e
    · rw [k1] at e
      cases e
      obtain ⟨cur, r1, r2, r3, r4, r5⟩ := k3.ents
      have hc := cell_row h.cell r1
      have hpos : 0 < cur.size := (Array.getElem?_eq_some_iff.1 hc).1
      by_cases he : es = []
      · subst he
        have := r5 0 (by simp) (by omega) 0 (by decide)
        rw [Nat.mul_zero, hc] at this
        cases this
      · obtain ⟨e0, he0⟩ : ∃ e0, es[0]? = some e0 := ⟨_, List.getElem?_eq_getElem (List.length_pos_iff.2 he)⟩
        obtain ⟨-, -, a1, m1, c1, b1, n1, d1, a2, m2, c2, b2, n2, d2, u, -⟩ := r4 0 e0 he0
        have := u 0 (by decide)
        simp only [Nat.mul_zero, Nat.zero_add] at this
        rw [hc] at this
        cases this
  refine ⟨h.led.limK L (t.block b h.led.lt hblp hbg), ?_, hr, ?_, h.bge, h.lge, fun q hq => ?_⟩
  · rw [World.cell?_of_block (t.block p (World.block_lt_of_cell? w _ h.cell) hplp hpg)]
    exact h.cell
  · have hs := h.ext.size
    exact ⟨t.os.trans h.ext.os, t.tape.trans h.ext.tape, t.output.trans h.ext.output, Nat.le_trans hs t.size, fun k hk => by
      rw [t.block k (Nat.lt_of_lt_of_le hk hs) (fun e => by have := h.lge; omega) (fun e => by have := h.gge k e.symm; omega)]
      exact h.ext.block k hk⟩
  · rcases hg q hq with k | k
    · exact h.gge q k
    · exact Nat.le_trans h.ext.size k
/-- What the numbers of the two say. -/
structure PlN (M : Stakes) (es : List Ent) (n N g cu : Nat) : Prop where
  cpl : Cpl M es
  nN : n ≤ N
  bnd : Bnd (5 + cu) (1 + g * (13 + cu)) es
theorem arith3 {N g cu : Nat} (h : N + g + cu ≤ 40) : N * (1 + g * (13 + cu) + 1) + 1 ≤ 10000 ∧ 1 + g * (13 + cu) ≤ 1000 := by
  have hk : ∀ g' : Fin 41, ∀ c' : Fin 41, g'.val + c'.val ≤ 40 → (40 - (g'.val + c'.val)) * (1 + g'.val * (13 + c'.val) + 1) + 1 ≤ 10000 ∧ 1 + g'.val * (13 + c'.val) ≤ 1000 := by decide +kernel
  have := hk ⟨g, by omega⟩ ⟨cu, by omega⟩ (by simp only; omega)
  simp only at this
  exact ⟨Nat.le_trans (Nat.add_le_add_right (Nat.mul_le_mul_right _ (by omega)) 1) this.1, this.2⟩

/-- A step of a script. -/
structure StepV where
  q : Int
  v : Nat
  u : Nat
  n : Nat
  m : Nat
  d : Option Addr × Nat × Nat
  e : Option Addr × Nat × Nat
  xs : List Nat
  ys : List Nat
structure StepAt (w : World) (b k : Nat) (s : StepV) : Prop where
  c0 : w.cell? ⟨b, k, none⟩ = some (.int .i64 s.q)
  c1 : w.cell? ⟨b, k + 1, none⟩ = some (.int .u64 (s.v : Int))
  c2 : w.cell? ⟨b, k + 2, none⟩ = some (.int .u64 (s.u : Int))
  c3 : w.cell? ⟨b, k + 3, none⟩ = some (.int .u64 (s.n : Int))
  c4 : w.cell? ⟨b, k + 4, none⟩ = some (.int .u64 (s.m : Int))
  c5 : w.cell? ⟨b, k + 5, none⟩ = some (.slice s.d.1 s.d.2.1 s.d.2.2)
  c6 : w.cell? ⟨b, k + 6, none⟩ = some (.slice s.e.1 s.e.2.1 s.e.2.2)
  v : s.v < B64
  u : s.u < B64
  n : s.n < B64
  m : s.m < B64
  x : Sl w s.d.1 s.d.2.1 s.d.2.2 s.xs
  y : Sl w s.e.1 s.e.2.1 s.e.2.2 s.ys
theorem StepAt.old {w w' : World} {b k : Nat} {s : StepV} (h : StepAt w b k s) (E : Ext w w') : StepAt w' b k s :=
  ⟨E.cell h.c0, E.cell h.c1, E.cell h.c2, E.cell h.c3, E.cell h.c4, E.cell h.c5, E.cell h.c6, h.v, h.u, h.n, h.m, h.x.old E, h.y.old E⟩
/-- A slice of steps. -/
structure StSl (w : World) (a : Option Addr) (n c : Nat) (ss : List StepV) : Prop where
  len : ss.length = n
  cap : n ≤ c
  big : c ≤ 9223372036854775807
  at_ : (a = none ∧ n = 0 ∧ c = 0) ∨ ∃ b off, a = some ⟨b, off, none⟩ ∧ ∀ (i : Nat) (s : StepV), ss[i]? = some s → StepAt w b (off + i * 7) s
theorem StSl.old {w w' : World} {a : Option Addr} {n c : Nat} {ss : List StepV} (h : StSl w a n c ss) (E : Ext w w') : StSl w' a n c ss := by
  refine ⟨h.len, h.cap, h.big, ?_⟩
  rcases h.at_ with k | ⟨b, off, k1, k2⟩
  · exact .inl k
  · exact .inr ⟨b, off, k1, fun i s hs => (k2 i s hs).old E⟩
theorem step_info : ∃ i, Tryz.prog.info? 37 = some i ∧ i.size = 7 := by
  have h : (Tryz.prog.info? 37).map (fun i => i.size) = some 7 := by kernel_rfl
  cases hq : Tryz.prog.info? 37 with
  | none => rw [hq] at h; cases h
  | some i => rw [hq] at h; exact ⟨i, rfl, Option.some.inj h⟩
theorem StSl.ix {w : World} {a : Option Addr} {n c : Nat} {ss : List StepV} (h : StSl w a n c ss) {k : Nat} (hk : k < n) :
    ∃ b off s, ss[k]? = some s ∧ StepAt w b (off + k * 7) s ∧ ∀ W, (Instr.indexAt 22 (.slice a n c) (.int .i64 (k : Int))).run Tryz.prog W = .ok (.pointer (some ⟨b, off + k * 7, none⟩)) W := by
  obtain ⟨i, h1, h3⟩ := step_info
  rcases h.at_ with ⟨-, h2, -⟩ | ⟨b, off, rfl, h2⟩
  · omega
  · refine ⟨b, off, ss[k]'(by rw [h.len]; exact hk), List.getElem?_eq_getElem _, h2 _ _ (List.getElem?_eq_getElem _), fun W => ?_⟩
    have hr := run_sizeOf h1 W
    rw [h3] at hr
    simp only [Instr.indexAt, Sem.run_bind, run_underlying Tryz.underlying22, Result.andThen_ok, asIntOf, Sem.run_pure]
    have h1 : (0 : Int) ≤ (k : Int) ∧ (k : Int) < (n : Int) := ⟨by omega, by omega⟩
    simp [hk, hr, Addr.add]

/-! light. -/
def LtRel (w : World) (n : Nat) (ss : List StepV) (iv : Value) (wr : World) : Prop :=
  ∃ k : Nat, k ≤ n ∧ k ≤ 41 ∧ iv = .int .i64 (k : Int) ∧ (∀ (i : Nat) (s : StepV), i < k → ss[i]? = some s → s.d.2.1 ≤ 4 ∧ s.e.2.1 ≤ 4) ∧ wr = w
def LtPost (w : World) (n : Nat) (ss : List StepV) (e : Ending) (w' : World) : Prop :=
  ∃ t : Bool, e = .returned (.bool t) ∧ w' = w ∧ (t = true → n ≤ 40 ∧ ∀ (i : Nat) (s : StepV), ss[i]? = some s → s.d.2.1 ≤ 4 ∧ s.e.2.1 ≤ 4)
set_option maxHeartbeats 4000000 in
set_option maxRecDepth 100000 in
theorem light_calls {w : World} {a : Option Addr} {n c : Nat} {ss : List StepV} (h : StSl w a n c ss) :
    Calls Tryz.prog 10 #[.slice a n c] w (LtPost w n ss) := by
  have hbig : (n : Int) ≤ 9223372036854775807 := by have := h.big; have := h.cap; omega
  have HL := Lib.hid h
  clear h
  go_enter Tryz.func10, Tryz.ntmps10
  go_wp2_with fail
  go_loopw [3] (fun iv wr => LtRel w n ss iv wr) (fun iv _ => 41 - (RowKit.intOf iv).toNat)
  case atStart => exact ⟨0, Nat.zero_le _, by decide, rfl, fun i s hi => absurd hi (by omega), rfl⟩
  case round =>
    obtain ⟨k, hk, hk2, rfl, hpre, rfl⟩ := hrel
    have HPRE := Lib.hid hpre
    clear hpre
    by_cases hlt : k < n ∧ k ≤ 40
    · have g1 : (k : Int) < (n : Int) := by omega
      have g2 : (k : Int) ≤ 40 := by omega
      obtain ⟨b, off, s, hs, hat, hix⟩ := HL.out.ix hlt.1
      have HS := Lib.hid hs
      have x5 := hat.c5; have x6 := hat.c6; have xi := hix wr
      clear hs hat hix hlt
      by_cases h4 : s.d.2.1 ≤ 4
      · have g3 : ¬ ((4 : Int) < (s.d.2.1 : Int)) := by omega
        by_cases h5 : s.e.2.1 ≤ 4
        · have g4 : ¬ ((4 : Int) < (s.e.2.1 : Int)) := by omega
          have HN := Lib.hid (show ∀ (i : Nat) (s' : StepV), i < k + 1 → ss[i]? = some s' → s'.d.2.1 ≤ 4 ∧ s'.e.2.1 ≤ 4 from fun i s' hi hs' => by
            by_cases q : i = k
            · subst q; rw [HS.out] at hs'; cases hs'; exact ⟨h4, h5⟩
            · exact HPRE.out i s' (by omega) hs')
          clear h4 h5
          go_wp2_with fail
          go_roundw
          case rel => exact ⟨k + 1, by omega, by omega, by go_num, HN.out, rfl⟩
          case measure => simp only [RowKit.intOf]; omega
        · have g4 : ((4 : Int) < (s.e.2.1 : Int)) := by omega
          clear h4 h5
          go_wp2_with fail
          go_ret
          exact ⟨false, rfl, rfl, fun h => by cases h⟩
      · have g3 : ((4 : Int) < (s.d.2.1 : Int)) := by omega
        clear h4
        go_wp2_with fail
        go_ret
        exact ⟨false, rfl, rfl, fun h => by cases h⟩
    · by_cases h40 : n ≤ 40
      · have g1 : ¬ ((k : Int) < (n : Int)) := by omega
        have g2 : (n : Int) ≤ 40 := by omega
        have HF := Lib.hid (show n ≤ 40 ∧ ∀ (i : Nat) (s : StepV), ss[i]? = some s → s.d.2.1 ≤ 4 ∧ s.e.2.1 ≤ 4 from ⟨h40, fun i s hs => HPRE.out i s (by have := (List.getElem?_eq_some_iff.1 hs).1; rw [HL.out.len] at this; omega) hs⟩)
        clear hlt h40
        go_wp2_with fail
        go_ret
        exact ⟨true, rfl, rfl, fun _ => HF.out⟩
      · have g2 : ¬ ((n : Int) ≤ 40) := by omega
        have g3 : ¬ ((k : Int) ≤ 40) := by omega
        by_cases hkn : k < n
        · have g1 : (k : Int) < (n : Int) := by omega
          clear hlt h40 hkn
          go_wp2_with fail
          go_ret
          exact ⟨false, rfl, rfl, fun h => by cases h⟩
        · have g1 : ¬ ((k : Int) < (n : Int)) := by omega
          clear hlt h40 hkn
          go_wp2_with fail
          go_ret
          exact ⟨false, rfl, rfl, fun h => by cases h⟩

end Go.Proofs.YtimcnhlcepemjaaGreatDoor
