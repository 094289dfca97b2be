
/- The document's ledger, a list of stakes: looks, sums, Cut. -/
import Derived.Test.YtimcnhlcepemjaaGreatDoorRefF
import Derived.Test.YtimcnhlcepemjaaGreatDoorOwM

/- The document's naive ledger: a struct of one slice, eight cells a stake. -/
namespace Go.Proofs.YtimcnhlcepemjaaGreatDoor
open Go.RowKit

/-- A stake of the list: validator, delegator, what it says. -/
structure Ent where
  v : Nat
  d : Nat
  s : Stk
def entCells (v d : Nat) (a1 : Option Addr) (m1 c1 : Nat) (b1 : Option Addr) (n1 d1 : Nat) (a2 : Option Addr) (m2 c2 : Nat) (b2 : Option Addr) (n2 d2 : Nat) (p k : Int) : List Value :=
  [.int .u64 (v : Int), .int .u64 (d : Int), .slice a1 m1 c1, .slice b1 n1 d1, .slice a2 m2 c2, .slice b2 n2 d2, .int .i64 p, .int .i64 k]
def zeroCells8 : List Value := entCells 0 0 none 0 0 none 0 0 none 0 0 none 0 0 0 0
/-- Place i of a row holds these eight cells. -/
def At8 (cur : Array Value) (i : Nat) (cs : List Value) : Prop := ∀ j, j < 8 → cur[8 * i + j]? = cs[j]?
/-- Block g is a row of stakes; behind them it is zero. -/
structure RRow (w : World) (g cap : Nat) (es : List Ent) : Prop where
  ex : ∃ cur : Array Value, w.heap[g]? = some (.cells cur 81 (0, 0)) ∧ cur.size = 8 * cap ∧ es.length ≤ cap ∧
    (∀ i e, es[i]? = some e → e.v < B64 ∧ e.d < B64 ∧ ∃ a1 m1 c1 b1 n1 d1 a2 m2 c2 b2 n2 d2, At8 cur i (entCells e.v e.d a1 m1 c1 b1 n1 d1 a2 m2 c2 b2 n2 d2 e.s.p e.s.k) ∧ St6 w a1 m1 c1 b1 n1 d1 a2 m2 c2 b2 n2 d2 e.s) ∧
    (∀ i, es.length ≤ i → i < cap → At8 cur i zeroCells8)
theorem RRow.lk {w w' : World} {g cap : Nat} {es : List Ent} (h : RRow w g cap es) (L : Lk w w') : RRow w' g cap es := by
  obtain ⟨cur, h1, h2, h3, h4, h5⟩ := h.ex
  refine ⟨cur, L.keep _ _ _ _ h1, h2, h3, fun i e he => ?_, h5⟩
  obtain ⟨x, y, a1, m1, c1, b1, n1, d1, a2, m2, c2, b2, n2, d2, u, v⟩ := h4 i e he
  exact ⟨x, y, a1, m1, c1, b1, n1, d1, a2, m2, c2, b2, n2, d2, u, v.lk L⟩
theorem RRow.look {w : World} {g cap : Nat} {es : List Ent} (h : RRow w g cap es) {i : Nat} {e : Ent} (he : es[i]? = some e) :
    e.v < B64 ∧ e.d < B64 ∧ ∃ a1 m1 c1 b1 n1 d1 a2 m2 c2 b2 n2 d2, St6 w a1 m1 c1 b1 n1 d1 a2 m2 c2 b2 n2 d2 e.s ∧
      w.cell? ⟨g, 8 * i, none⟩ = some (.int .u64 (e.v : Int)) ∧ w.cell? ⟨g, 8 * i + 1, none⟩ = some (.int .u64 (e.d : Int)) ∧
      w.cell? ⟨g, 8 * i + 2, none⟩ = some (.slice a1 m1 c1) ∧ w.cell? ⟨g, 8 * i + 3, none⟩ = some (.slice b1 n1 d1) ∧
      w.cell? ⟨g, 8 * i + 4, none⟩ = some (.slice a2 m2 c2) ∧ w.cell? ⟨g, 8 * i + 5, none⟩ = some (.slice b2 n2 d2) ∧
      w.cell? ⟨g, 8 * i + 6, none⟩ = some (.int .i64 e.s.p) ∧ w.cell? ⟨g, 8 * i + 7, none⟩ = some (.int .i64 e.s.k) := by
  obtain ⟨cur, h1, h2, h3, h4, h5⟩ := h.ex
  obtain ⟨x, y, a1, m1, c1, b1, n1, d1, a2, m2, c2, b2, n2, d2, u, v⟩ := h4 i e he
  refine ⟨x, y, a1, m1, c1, b1, n1, d1, a2, m2, c2, b2, n2, d2, v, ?_, ?_, ?_, ?_, ?_, ?_, ?_, ?_⟩
  · rw [cell_of_row _ _ _ _ _ _ h1]; exact u 0 (by decide)
  · rw [cell_of_row _ _ _ _ _ _ h1]; exact u 1 (by decide)
  · rw [cell_of_row _ _ _ _ _ _ h1]; exact u 2 (by decide)
  · rw [cell_of_row _ _ _ _ _ _ h1]; exact u 3 (by decide)
  · rw [cell_of_row _ _ _ _ _ _ h1]; exact u 4 (by decide)
  · rw [cell_of_row _ _ _ _ _ _ h1]; exact u 5 (by decide)
  · rw [cell_of_row _ _ _ _ _ _ h1]; exact u 6 (by decide)
  · rw [cell_of_row _ _ _ _ _ _ h1]; exact u 7 (by decide)
theorem RRow.free {w : World} {g cap : Nat} {es : List Ent} (h : RRow w g cap es) (j : Nat) : w.frozen? ⟨g, j, none⟩ = false := by
  obtain ⟨cur, h1, -⟩ := h.ex
  exact frozen_of_row _ _ _ _ _ h1
/-- The ledger at lp reads as the list es; its list lies in block gb. -/
structure RLed (w : World) (lp : Nat) (gb : Option Nat) (o : Option Addr) (n c : Nat) (es : List Ent) : Prop where
  row : w.heap[lp]? = some (.cells #[.slice o n c] 30 (0, 0))
  len : es.length = n
  big : c ≤ 9223372036854775807
  at_ : (gb = none ∧ o = none ∧ n = 0 ∧ c = 0) ∨ ∃ g, gb = some g ∧ o = some ⟨g, 0, none⟩ ∧ RRow w g c es
theorem RLed.lk {w w' : World} {lp : Nat} {gb : Option Nat} {o : Option Addr} {n c : Nat} {es : List Ent} (h : RLed w lp gb o n c es) (L : Lk w w') : RLed w' lp gb o n c es := by
  refine ⟨L.keep _ _ _ _ h.row, h.len, h.big, ?_⟩
  rcases h.at_ with h1 | ⟨g, h1, h2, h3⟩
  · exact .inl h1
  · exact .inr ⟨g, h1, h2, h3.lk L⟩
theorem RLed.le {w : World} {lp : Nat} {gb : Option Nat} {o : Option Addr} {n c : Nat} {es : List Ent} (h : RLed w lp gb o n c es) : n ≤ c := by
  rcases h.at_ with ⟨-, -, h1, h2⟩ | ⟨g, h1, h2, h3⟩
  · omega
  · obtain ⟨cur, -, -, h4, -⟩ := h3.ex
    rw [← h.len]; exact h4
theorem stake_info : ∃ i, Tryz.prog.info? 81 = some i ∧ i.size = 8 := by
  have h : (Tryz.prog.info? 81).map (fun i => i.size) = some 8 := by kernel_rfl
  cases hq : Tryz.prog.info? 81 with
  | none => rw [hq] at h; cases h
  | some i => rw [hq] at h; exact ⟨i, rfl, Option.some.inj h⟩
theorem ix_stake {n c k : Nat} (g : Nat) (hk : k < n) (W : World) : (Instr.indexAt 28 (.slice (some ⟨g, 0, none⟩) n c) (.int .i64 (k : Int))).run Tryz.prog W = .ok (.pointer (some ⟨g, 8 * k, none⟩)) W := by
  obtain ⟨i, h1, h3⟩ := stake_info
  have hr := run_sizeOf h1 W
  rw [h3] at hr
  simp only [Instr.indexAt, Sem.run_bind, run_underlying Tryz.underlying28, Result.andThen_ok, asIntOf, Sem.run_pure]
  have h1 : (0 : Int) ≤ (k : Int) ∧ (k : Int) < (n : Int) := ⟨by omega, by omega⟩
  simp [hk, hr, Addr.add, Nat.mul_comm]
  omega
/-- What lies at a place of the list, for a walk. -/
theorem RLed.ix {w : World} {lp : Nat} {gb : Option Nat} {o : Option Addr} {n c : Nat} {es : List Ent} (h : RLed w lp gb o n c es) {k : Nat} (hk : k < n) :
    ∃ g e, gb = some g ∧ o = some ⟨g, 0, none⟩ ∧ es[k]? = some e ∧ RRow w g c es ∧ ∀ W, (Instr.indexAt 28 (.slice o n c) (.int .i64 (k : Int))).run Tryz.prog W = .ok (.pointer (some ⟨g, 8 * k, none⟩)) W := by
  rcases h.at_ with ⟨-, -, h1, -⟩ | ⟨g, h1, h2, h3⟩
  · omega
  · exact ⟨g, es[k]'(by rw [h.len]; exact hk), h1, h2, List.getElem?_eq_getElem _, h3, fun W => by rw [h2]; exact ix_stake g hk W⟩
/-- Where a stake lies. -/
def isAt (v d : Nat) (e : Ent) : Bool := e.v == v && e.d == d
def ixOf (es : List Ent) (v d : Nat) : Option Nat := es.findIdx? (isAt v d)
def ixI : Option Nat → Int
  | none => -1
  | some i => (i : Int)
def AtRel (w : World) (n v d : Nat) (es : List Ent) (iv : Value) (wr : World) : Prop :=
  ∃ k : Nat, k ≤ n ∧ iv = .int .i64 (k : Int) ∧ (∀ i e, i < k → es[i]? = some e → isAt v d e = false) ∧ wr = w
theorem ixOf_none {es : List Ent} {v d : Nat} (h : ∀ i e, i < es.length → es[i]? = some e → isAt v d e = false) : ixOf es v d = none := by
  unfold ixOf
  rw [List.findIdx?_eq_none_iff]
  intro x hx
  obtain ⟨i, hi⟩ := List.mem_iff_getElem?.1 hx
  exact h i x (List.getElem?_eq_some_iff.1 hi).1 hi
theorem ixOf_some {es : List Ent} {v d k : Nat} {e : Ent} (he : es[k]? = some e) (h : ∀ i e, i < k → es[i]? = some e → isAt v d e = false) (h2 : isAt v d e = true) : ixOf es v d = some k := by
  unfold ixOf
  obtain ⟨hk, e2⟩ := List.getElem?_eq_some_iff.1 he
  rw [List.findIdx?_eq_some_iff_getElem]
  refine ⟨hk, by rw [e2]; exact h2, fun j hj => ?_⟩
  rw [h j _ hj (List.getElem?_eq_getElem (by omega))]
  decide

set_option maxHeartbeats 4000000 in
set_option maxRecDepth 100000 in
theorem rlat_calls {w : World} {lp : Nat} {gb : Option Nat} {o : Option Addr} {n c : Nat} {es : List Ent} (h : RLed w lp gb o n c es) {v d : Nat} :
    Calls Tryz.prog 60 #[.pointer (some ⟨lp, 0, none⟩), .int .u64 (v : Int), .int .u64 (d : Int)] w (Ret (.int .i64 (ixI (ixOf es v d))) w) := by
  have hbig : (n : Int) ≤ 9223372036854775807 := by have := h.big; have := h.le; omega
  have k0 : w.cell? ⟨lp, 0, none⟩ = some (.slice o n c) := drow_cell h.row
  have HL := Lib.hid h
  clear h
  go_enter Tryz.func60, Tryz.ntmps60
  go_wp2_with fail
  go_loopw [7] (fun iv wr => AtRel w n v d es iv wr) (fun iv _ => n - (RowKit.intOf iv).toNat)
  case atStart => exact ⟨0, Nat.zero_le _, rfl, fun i e hi => absurd hi (by omega), rfl⟩
  case round =>
    obtain ⟨k, hk, rfl, hpre, rfl⟩ := hrel
    have HPRE := Lib.hid hpre
    clear hpre
    by_cases hkn : k = n
    · have hge : ¬ ((k : Int) < (n : Int)) := by omega
      have HR := Lib.hid (show ixI (ixOf es v d) = -1 by rw [ixOf_none (fun i e hi => HPRE.out i e (by rw [HL.out.len] at hi; omega))]; rfl)
      clear hkn hk
      go_wp2_with fail
      go_ret
      exact ⟨by rw [HR.out]; rfl, rfl⟩
    · have hlt : (k : Int) < (n : Int) := by omega
      obtain ⟨g, e, -, ho, he, hrow, hix⟩ := HL.out.ix (k := k) (by omega)
      obtain ⟨hv, hd, a1, m1, c1, b1, n1, d1, a2, m2, c2, b2, n2, d2, -, x0, x1, -⟩ := hrow.look he
      have HE := Lib.hid he
      have x2 := hix wr
      clear hrow he ho hix hv hd
      by_cases e1 : e.v = v
      · have g1 : ((e.v : Int) == (v : Int)) = true := by rw [beq_iff_eq]; omega
        have g1' : (e.v : Int) = (v : Int) := by omega
        by_cases e2 : e.d = d
        · have g2 : ((e.d : Int) == (d : Int)) = true := by rw [beq_iff_eq]; omega
          have g2' : (e.d : Int) = (d : Int) := by omega
          have HR := Lib.hid (show ixI (ixOf es v d) = (k : Int) by rw [ixOf_some HE.out HPRE.out (by unfold isAt; rw [e1, e2]; simp)]; rfl)
          clear e1 e2
          go_wp2_with fail
          go_ret
          exact ⟨by rw [HR.out]; rfl, rfl⟩
        · have g2 : ((e.d : Int) == (d : Int)) = false := by rw [beq_eq_false_iff_ne]; omega
          have g2' : ¬ ((e.d : Int) = (d : Int)) := by omega
          have HN := Lib.hid (show ∀ i e, i < k + 1 → es[i]? = some e → isAt v d e = false from fun i e' hi he' => by
            by_cases q : i = k
            · subst q
              rw [HE.out] at he'
              cases he'
              unfold isAt
              simp [e2]
            · exact HPRE.out i e' (by omega) he')
          clear e1 e2
          go_wp2_with fail
          go_roundw
          case rel => exact ⟨k + 1, by omega, by go_num, HN.out, rfl⟩
          case measure => simp only [RowKit.intOf]; omega
      · have g1 : ((e.v : Int) == (v : Int)) = false := by rw [beq_eq_false_iff_ne]; omega
        have g1' : ¬ ((e.v : Int) = (v : Int)) := by omega
        have HN := Lib.hid (show ∀ i e, i < k + 1 → es[i]? = some e → isAt v d e = false from fun i e' hi he' => by
          by_cases q : i = k
          · subst q
            rw [HE.out] at he'
            cases he'
            unfold isAt
            simp [e1]
          · exact HPRE.out i e' (by omega) he')
        clear e1
        go_wp2_with fail
        go_roundw
        case rel => exact ⟨k + 1, by omega, by go_num, HN.out, rfl⟩
        case measure => simp only [RowKit.intOf]; omega

end Go.Proofs.YtimcnhlcepemjaaGreatDoor

/- gleanref24.nothing, by, Stake, Owed. -/
namespace Go.Proofs.YtimcnhlcepemjaaGreatDoor
open Go.RowKit

set_option maxHeartbeats 4000000 in
set_option maxRecDepth 100000 in
theorem rnothing_q (w : World) : Calls Tryz.prog 61 #[] w (NewQ w (0, 1)) := by
  obtain ⟨X, hX⟩ : ∃ X, w.alloc (.cells #[.slice none 0 0, .slice none 0 0] 40) = X := ⟨_, rfl⟩
  have E0 : Ext w X := by rw [← hX]; exact (Ext.refl w).alloc _
  have hr0 : X.heap[w.heap.size]? = some (.cells #[.slice none 0 0, .slice none 0 0] 40 (0, 0)) := by rw [← hX]; exact heap_alloc_new w _
  have C2 := frofnat_calls (Sl.nil X) (by decide)
  rw [show rN (val []) 1 = 0 by decide, show rD (val []) 1 = 1 by decide] at C2
  have HX := Lib.hid hX; have HE0 := Lib.hid E0; have HR0 := Lib.hid hr0; have HSZ := Lib.hid (show X.heap.size = w.heap.size + 1 by rw [← hX, alloc_size])
  have HC2 := Lib.hid C2
  clear hX E0 hr0 C2
  go_enter Tryz.func61, Tryz.ntmps61
  go_wp2_with (rw [HX.out])
  refine HC2.out.mono ?_
  rintro e w2 ⟨o1, n1, c1, o2, n2, c2, rfl, h1, h2, hx2, -, -⟩
  have HRW := Lib.hid (rowE hx2 HR0.out)
  obtain ⟨k1, k2, k3, k4⟩ := row2_cells HRW.out
  have z2 := HSZ.out
  have HO1 := Lib.hid ((h1.set2 (.slice o1 n1 c1) (.slice o2 n2 c2) (by omega : w.heap.size < X.heap.size)).mono (by omega : w.heap.size ≤ X.heap.size))
  have HO2 := Lib.hid ((h2.set2 (.slice o1 n1 c1) (.slice o2 n2 c2) (by omega : w.heap.size < X.heap.size)).mono (by omega : w.heap.size ≤ X.heap.size))
  have HEF := Lib.hid (set2_ext (HE0.out.trans hx2) (Nat.le_refl w.heap.size) (.slice o1 n1 c1) (.slice o2 n2 c2))
  clear h1 h2 hx2 z2
  go_wp2_with fail
  try simp only [Exit.inBlock, Exit.then]
  refine bodyPost_ret (results_box1 rfl _ _ _ _ rfl (load_rat (set2_row HRW.out _ _))) rfl ?_
  exact ⟨_, _, _, _, _, _, rfl, HO1.out, HO2.out, HEF.out⟩

theorem frmul_q {a1 b1 a2 b2 : Option Addr} {m1 n1 c1 d1 m2 n2 c2 d2 : Nat} {p q : Nat × Nat} {w : World} (h1 : RA w a1 m1 c1 b1 n1 d1 p) (h2 : RA w a2 m2 c2 b2 n2 d2 q) (hp : sz p ≤ 10000) (hq : sz q ≤ 10000) :
    Calls Tryz.prog 56 #[RatV a1 m1 c1 b1 n1 d1, RatV a2 m2 c2 b2 n2 d2] w (NewQ w (mulR p q)) := by
  have l1 := h1.len; have l2 := h2.len
  have := frmul_calls h1.nu h1.de h2.nu h2.de (by omega) (by omega) (by omega) (by omega)
  rw [val_lim, val_lim, val_lim, val_lim] at this
  exact this.mono fun _ _ h => h.q
/-- A fraction times n by d; nought where d is nought. -/
def byR (a : Nat × Nat) (n d : Nat) : Nat × Nat := if d = 0 then (0, 1) else mulR a (rN n d, rD n d)
theorem sz_byf {n d : Nat} (hn : n < B64) (hd : d < B64) : sz (rN n d, rD n d) ≤ 1 :=
  sz_of (by decide) (ln_le (by simpa using hn)) (ln_le (by simpa using hd))

set_option maxHeartbeats 4000000 in
set_option maxRecDepth 100000 in
theorem rby_q {a1 b1 : Option Addr} {m1 n1 c1 d1 : Nat} {p : Nat × Nat} {w : World} (ha : RA w a1 m1 c1 b1 n1 d1 p) (hp : sz p ≤ 10000) {n d : Nat} (hn : n < B64) (hd : d < B64) :
    Calls Tryz.prog 55 #[RatV a1 m1 c1 b1 n1 d1, .int .u64 (n : Int), .int .u64 (d : Int)] w (NewQ w (byR p n d)) := by
  obtain ⟨X1, hX1⟩ : ∃ X, w.alloc (.cells #[.slice a1 m1 c1, .slice b1 n1 d1] 40) = X := ⟨_, rfl⟩
  obtain ⟨X2, hX2⟩ : ∃ X, X1.alloc (.cells #[.slice none 0 0, .slice none 0 0] 40) = X := ⟨_, rfl⟩
  have hsz1 : X1.heap.size = w.heap.size + 1 := by rw [← hX1, alloc_size]
  have hsz2 : X2.heap.size = w.heap.size + 2 := by rw [← hX2, alloc_size, hsz1]
  have E1 : Ext w X1 := by rw [← hX1]; exact (Ext.refl w).alloc _
  have E2 : Ext X1 X2 := by rw [← hX2]; exact (Ext.refl X1).alloc _
  have R1 : X2.heap[w.heap.size]? = some (.cells #[.slice a1 m1 c1, .slice b1 n1 d1] 40 (0, 0)) := box2_row (w := w) (by rw [hX1]; exact E2)
  have R2 : X2.heap[w.heap.size + 1]? = some (.cells #[.slice none 0 0, .slice none 0 0] 40 (0, 0)) := by rw [← hsz1, ← hX2]; exact heap_alloc_new X1 _
  have HX1 := Lib.hid hX1; have HX2 := Lib.hid hX2; have HE := Lib.hid (E1.trans E2); have HR1 := Lib.hid R1; have HR2 := Lib.hid R2; have HSZ1 := Lib.hid hsz1; have HSZ2 := Lib.hid hsz2
  have HA := Lib.hid (ha.old (E1.trans E2)); have HP := Lib.hid hp; have HN := Lib.hid hn; have HD := Lib.hid hd
  clear hX1 hX2 hsz1 hsz2 E1 E2 R1 R2 ha hp hn hd
  have C1 := Lib.hid (fof_calls n HN.out X2)
  go_enter Tryz.func55, Tryz.ntmps55
  go_wp2_with (first | rw [HX1.out] | rw [HX2.out, HSZ1.out] | rw [HX2.out])
  refine C1.out.mono ?_
  rintro e w1 ⟨p1, r1, s1, rfl, h1, x1, l1⟩
  have C2 := Lib.hid (fof_calls d HD.out w1)
  have S1 := Lib.hid h1.sl; have Y1 := Lib.hid x1; have L1 := Lib.hid l1
  clear h1 x1 C1 l1
  go_wp2_with fail
  refine C2.out.mono ?_
  rintro e w2 ⟨p2, r2, s2, rfl, h2, x2, l2⟩
  have S2 := Lib.hid h2.sl; have Y2 := Lib.hid x2; have L2 := Lib.hid l2
  clear h2 x2 C2 l2
  by_cases h0 : d = 0
  · have HBY := Lib.hid (show byR p n d = (0, 1) by unfold byR; rw [if_pos h0])
    have C3 := Lib.hid (frof_zero (a := p1) (m := r1) (c := s1) S2.out (by have := L2.out; omega) (by rw [val_lim]; exact h0))
    clear h0
    go_wp2_with fail
    refine C3.out.mono ?_
    rintro e w3 ⟨o1, z1, y1, o2, z2, y2, rfl, h1, h2, x3, -, -⟩
    obtain ⟨V, hV⟩ : ∃ V, w3.alloc (.cells #[.slice o1 z1 y1, .slice o2 z2 y2] 40) = V := ⟨_, rfl⟩
    have EV : Ext X2 V := by rw [← hV]; exact ((Y1.out.trans Y2.out).trans x3).alloc _
    have HV := Lib.hid hV; have HEV := Lib.hid EV
    have C4 := Lib.hid (rnothing_q V)
    clear hV EV h1 h2 x3 C3
    go_wp2_with (rw [HV.out])
    refine C4.out.mono ?_
    rintro e w4 ⟨o3, z3, y3, o4, z4, y4, rfl, h3, h4, x4⟩
    have HRW := Lib.hid (rowE (HEV.out.trans x4) HR2.out)
    obtain ⟨k1, k2, k3, k4⟩ := row2_cells HRW.out
    have q1 := HEV.out.size; have q2 := HSZ2.out
    have HO1 := Lib.hid ((h3.set2 (.slice o3 z3 y3) (.slice o4 z4 y4) (by omega : w.heap.size + 1 < V.heap.size)).mono (by omega : w.heap.size ≤ V.heap.size))
    have HO2 := Lib.hid ((h4.set2 (.slice o3 z3 y3) (.slice o4 z4 y4) (by omega : w.heap.size + 1 < V.heap.size)).mono (by omega : w.heap.size ≤ V.heap.size))
    have HEF := Lib.hid (set2_ext (HE.out.trans (HEV.out.trans x4)) (by omega : w.heap.size ≤ w.heap.size + 1) (.slice o3 z3 y3) (.slice o4 z4 y4))
    clear h3 h4 x4 q1 q2
    go_wp2_with fail
    try simp only [Exit.inBlock, Exit.then]
    refine bodyPost_ret (results_box1 rfl _ _ _ _ rfl (load_rat (set2_row HRW.out _ _))) rfl ?_
    exact ⟨_, _, _, _, _, _, rfl, by rw [HBY.out]; exact HO1.out, by rw [HBY.out]; exact HO2.out, HEF.out⟩
  · have hby : byR p n d = mulR p (rN n d, rD n d) := by unfold byR; rw [if_neg h0]
    have C3 := Lib.hid (frof_as (S1.out.old Y2.out) S2.out (by have := L1.out; omega) (by have := L2.out; omega) (val_lim n) (val_lim d) h0 rfl)
    clear h0
    obtain ⟨f, hf⟩ : ∃ x, (rN n d, rD n d) = x := ⟨_, rfl⟩
    have hsz : sz f ≤ 10000 := by rw [← hf]; exact Nat.le_trans (sz_byf HN.out HD.out) (by decide)
    rw [hf] at C3 hby
    have HBY := Lib.hid hby
    clear hby
    have HSF := Lib.hid hsz
    clear hf hsz
    go_wp2_with fail
    refine C3.out.mono ?_
    rintro e w3 ⟨o1, z1, y1, o2, z2, y2, rfl, h1, h2, x3, -, -⟩
    obtain ⟨V, hV⟩ : ∃ V, w3.alloc (.cells #[.slice o1 z1 y1, .slice o2 z2 y2] 40) = V := ⟨_, rfl⟩
    have EV3 : Ext w3 V := by rw [← hV]; exact (Ext.refl _).alloc _
    have EV : Ext X2 V := ((Y1.out.trans Y2.out).trans x3).trans EV3
    have hvr : V.heap[w3.heap.size]? = some (.cells #[.slice o1 z1 y1, .slice o2 z2 y2] 40 (0, 0)) := by rw [← hV]; exact heap_alloc_new w3 _
    have HV := Lib.hid hV; have HEV := Lib.hid EV
    have C4 := Lib.hid (frmul_q (HA.out.old EV) (show RA V o1 z1 y1 o2 z2 y2 f from ⟨h1.sl.old EV3, h2.sl.old EV3⟩) HP.out HSF.out)
    obtain ⟨j1, j2, -, -⟩ := row2_cells hvr
    obtain ⟨i1, i2, -, -⟩ := row2_cells (rowE EV HR1.out)
    clear hV EV EV3 h1 h2 x3 C3 hvr
    go_wp2_with (rw [HV.out])
    refine C4.out.mono ?_
    rintro e w4 ⟨o3, z3, y3, o4, z4, y4, rfl, h3, h4, x4⟩
    have HRW := Lib.hid (rowE (HEV.out.trans x4) HR2.out)
    obtain ⟨k1, k2, k3, k4⟩ := row2_cells HRW.out
    have q1 := HEV.out.size; have q2 := HSZ2.out
    have HO1 := Lib.hid ((h3.set2 (.slice o3 z3 y3) (.slice o4 z4 y4) (by omega : w.heap.size + 1 < V.heap.size)).mono (by omega : w.heap.size ≤ V.heap.size))
    have HO2 := Lib.hid ((h4.set2 (.slice o3 z3 y3) (.slice o4 z4 y4) (by omega : w.heap.size + 1 < V.heap.size)).mono (by omega : w.heap.size ≤ V.heap.size))
    have HEF := Lib.hid (set2_ext (HE.out.trans (HEV.out.trans x4)) (by omega : w.heap.size ≤ w.heap.size + 1) (.slice o3 z3 y3) (.slice o4 z4 y4))
    clear h3 h4 x4 q1 q2 j1 j2 i1 i2
    go_wp2_with fail
    try simp only [Exit.inBlock, Exit.then]
    refine bodyPost_ret (results_box1 rfl _ _ _ _ rfl (load_rat (set2_row HRW.out _ _))) rfl ?_
    exact ⟨_, _, _, _, _, _, rfl, by rw [HBY.out]; exact HO1.out, by rw [HBY.out]; exact HO2.out, HEF.out⟩
/-- What a list says of a stake. -/
def rgot (es : List Ent) (v d : Nat) : Option Stk := (es.find? (isAt v d)).map (·.s)
def RetQ (w : World) (q : Nat × Nat) (e : Ending) (w' : World) : Prop := ∃ a n c b m d, e = .returned (RatV a n c b m d) ∧ RA w' a n c b m d q ∧ Ext w w'
theorem find_ix {es : List Ent} {v d : Nat} : es.find? (isAt v d) = (ixOf es v d).bind (fun i => es[i]?) := by
  unfold ixOf
  cases h : es.findIdx? (isAt v d) with
  | none => rw [List.findIdx?_eq_none_iff] at h; rw [List.find?_eq_none.2 (fun x hx => by rw [h x hx]; decide)]; rfl
  | some i =>
    obtain ⟨h1, h2, h3⟩ := List.findIdx?_eq_some_iff_getElem.1 h
    rw [show (some i).bind (fun i => es[i]?) = es[i]? from rfl, List.getElem?_eq_getElem h1, List.find?_eq_some_iff_getElem]
    exact ⟨h2, i, h1, rfl, fun j hj => by simpa using h3 j hj⟩

set_option maxHeartbeats 4000000 in
set_option maxRecDepth 100000 in
theorem rlstake_calls {w : World} {lp : Nat} {gb : Option Nat} {o : Option Addr} {n c : Nat} {es : List Ent} (h : RLed w lp gb o n c es) {v d : Nat} :
    Calls Tryz.prog 24 #[.pointer (some ⟨lp, 0, none⟩), .int .u64 (v : Int), .int .u64 (d : Int)] w (RetQ w (((rgot es v d).map (·.h)).getD (0, 1))) := by
  obtain ⟨X, hX⟩ : ∃ X, w.alloc (.cells #[.slice none 0 0, .slice none 0 0] 40) = X := ⟨_, rfl⟩
  have E0 : Ext w X := by rw [← hX]; exact (Ext.refl w).alloc _
  have hr0 : X.heap[w.heap.size]? = some (.cells #[.slice none 0 0, .slice none 0 0] 40 (0, 0)) := by rw [← hX]; exact heap_alloc_new w _
  have hX0 := h.lk E0.lk
  have C1 := rlat_calls hX0 (v := v) (d := d)
  have HX := Lib.hid hX; have HE0 := Lib.hid E0; have HR0 := Lib.hid hr0; have HL := Lib.hid hX0; have HSZ := Lib.hid (show X.heap.size = w.heap.size + 1 by rw [← hX, alloc_size])
  clear hX E0 hr0 h
  unfold rgot
  rw [find_ix]
  cases hi : ixOf es v d with
  | none =>
    rw [hi, show ixI none = -1 from rfl] at C1
    have HC1 := Lib.hid C1
    have C2 := Lib.hid (rnothing_q X)
    clear C1 hX0 hi
    go_enter Tryz.func24, Tryz.ntmps24
    go_wp2_with (rw [HX.out])
    refine HC1.out.mono ?_
    rintro e w' ⟨rfl, rfl⟩
    go_wp2_with fail
    refine C2.out.mono ?_
    rintro e w2 ⟨o1, n1, c1, o2, n2, c2, rfl, h1, h2, hx2⟩
    have HRW := Lib.hid (rowE hx2 HR0.out)
    obtain ⟨k1, k2, k3, k4⟩ := row2_cells HRW.out
    have z2 := HSZ.out
    have HO1 := Lib.hid ((h1.set2 (.slice o1 n1 c1) (.slice o2 n2 c2) (by omega : w.heap.size < X.heap.size)).sl)
    have HO2 := Lib.hid ((h2.set2 (.slice o1 n1 c1) (.slice o2 n2 c2) (by omega : w.heap.size < X.heap.size)).sl)
    have HEF := Lib.hid (set2_ext (HE0.out.trans hx2) (Nat.le_refl w.heap.size) (.slice o1 n1 c1) (.slice o2 n2 c2))
    clear h1 h2 hx2 z2
    go_wp2_with fail
    try simp only [Exit.inBlock, Exit.then]
    refine bodyPost_ret (results_box1 rfl _ _ _ _ rfl (load_rat (set2_row HRW.out _ _))) rfl ?_
    exact ⟨_, _, _, _, _, _, rfl, ⟨HO1.out, HO2.out⟩, HEF.out⟩
  | some i =>
    rw [hi, show ixI (some i) = (i : Int) from rfl] at C1
    have hin : i < n := by
      rw [← hX0.len]
      exact (List.findIdx?_eq_some_iff_getElem.1 hi).1
    obtain ⟨g, e, -, ho, he, hrow, hix⟩ := hX0.ix hin
    obtain ⟨hv, hd, a1, m1, c1, b1, n1, d1, a2, m2, c2, b2, n2, d2, h6, x0, x1, x2, x3, x4, x5, x6, x7⟩ := hrow.look he
    have hbig : (i : Int) < (n : Int) := by omega
    have x8 := hix X
    have k0 : X.cell? ⟨lp, 0, none⟩ = some (.slice o n c) := drow_cell hX0.row
    obtain ⟨k1, k2, k3, k4⟩ := row2_cells HR0.out
    have hnn : ¬ ((i : Int) < 0) := by omega
    rw [show (some i).bind (fun i => es[i]?) = es[i]? from rfl, he]
    have HC1 := Lib.hid C1
    have HE1 := Lib.hid (set2_ext HE0.out (Nat.le_refl w.heap.size) (.slice a1 m1 c1) (.slice b1 n1 d1))
    have HRA : Hid (RA ((X.setCell ⟨w.heap.size, 0, none⟩ (.slice a1 m1 c1)).setCell ⟨w.heap.size, 1, none⟩ (.slice b1 n1 d1)) a1 m1 c1 b1 n1 d1 e.s.h) := Lib.hid (RA.ln ⟨h6.s1, h6.s2⟩ (((Tn.cell1 (i := 0) (Ext.refl X) (.slice a1 m1 c1) none).cell2 (i := 1) (.slice b1 n1 d1)).ln (noNum2 HR0.out) (fun o h => by cases h)))
    clear C1 hX0 hi hix ho he hrow hv hd h6 hin
    go_enter Tryz.func24, Tryz.ntmps24
    go_wp2_with (rw [HX.out])
    refine HC1.out.mono ?_
    rintro e w' ⟨rfl, rfl⟩
    go_wp2_with fail
    try simp only [Exit.inBlock, Exit.then]
    refine bodyPost_ret (results_box1 rfl _ _ _ _ rfl (load_rat (set2_row HR0.out _ _))) rfl ?_
    exact ⟨_, _, _, _, _, _, rfl, HRA.out, HE1.out⟩

set_option maxHeartbeats 4000000 in
set_option maxRecDepth 100000 in
theorem rlowed_calls {w : World} {lp : Nat} {gb : Option Nat} {o : Option Addr} {n c : Nat} {es : List Ent} (h : RLed w lp gb o n c es) {v d : Nat} :
    Calls Tryz.prog 26 #[.pointer (some ⟨lp, 0, none⟩), .int .u64 (v : Int), .int .u64 (d : Int)] w (RetQ w (((rgot es v d).map (·.o)).getD (0, 1))) := by
  obtain ⟨X, hX⟩ : ∃ X, w.alloc (.cells #[.slice none 0 0, .slice none 0 0] 40) = X := ⟨_, rfl⟩
  have E0 : Ext w X := by rw [← hX]; exact (Ext.refl w).alloc _
  have hr0 : X.heap[w.heap.size]? = some (.cells #[.slice none 0 0, .slice none 0 0] 40 (0, 0)) := by rw [← hX]; exact heap_alloc_new w _
  have hX0 := h.lk E0.lk
  have C1 := rlat_calls hX0 (v := v) (d := d)
  have HX := Lib.hid hX; have HE0 := Lib.hid E0; have HR0 := Lib.hid hr0; have HL := Lib.hid hX0; have HSZ := Lib.hid (show X.heap.size = w.heap.size + 1 by rw [← hX, alloc_size])
  clear hX E0 hr0 h
  unfold rgot
  rw [find_ix]
  cases hi : ixOf es v d with
  | none =>
    rw [hi, show ixI none = -1 from rfl] at C1
    have HC1 := Lib.hid C1
    have C2 := Lib.hid (rnothing_q X)
    clear C1 hX0 hi
    go_enter Tryz.func26, Tryz.ntmps26
    go_wp2_with (rw [HX.out])
    refine HC1.out.mono ?_
    rintro e w' ⟨rfl, rfl⟩
    go_wp2_with fail
    refine C2.out.mono ?_
    rintro e w2 ⟨o1, n1, c1, o2, n2, c2, rfl, h1, h2, hx2⟩
    have HRW := Lib.hid (rowE hx2 HR0.out)
    obtain ⟨k1, k2, k3, k4⟩ := row2_cells HRW.out
    have z2 := HSZ.out
    have HO1 := Lib.hid ((h1.set2 (.slice o1 n1 c1) (.slice o2 n2 c2) (by omega : w.heap.size < X.heap.size)).sl)
    have HO2 := Lib.hid ((h2.set2 (.slice o1 n1 c1) (.slice o2 n2 c2) (by omega : w.heap.size < X.heap.size)).sl)
    have HEF := Lib.hid (set2_ext (HE0.out.trans hx2) (Nat.le_refl w.heap.size) (.slice o1 n1 c1) (.slice o2 n2 c2))
    clear h1 h2 hx2 z2
    go_wp2_with fail
    try simp only [Exit.inBlock, Exit.then]
    refine bodyPost_ret (results_box1 rfl _ _ _ _ rfl (load_rat (set2_row HRW.out _ _))) rfl ?_
    exact ⟨_, _, _, _, _, _, rfl, ⟨HO1.out, HO2.out⟩, HEF.out⟩
  | some i =>
    rw [hi, show ixI (some i) = (i : Int) from rfl] at C1
    have hin : i < n := by
      rw [← hX0.len]
      exact (List.findIdx?_eq_some_iff_getElem.1 hi).1
    obtain ⟨g, e, -, ho, he, hrow, hix⟩ := hX0.ix hin
    obtain ⟨hv, hd, a1, m1, c1, b1, n1, d1, a2, m2, c2, b2, n2, d2, h6, x0, x1, x2, x3, x4, x5, x6, x7⟩ := hrow.look he
    have hbig : (i : Int) < (n : Int) := by omega
    have x8 := hix X
    have k0 : X.cell? ⟨lp, 0, none⟩ = some (.slice o n c) := drow_cell hX0.row
    obtain ⟨k1, k2, k3, k4⟩ := row2_cells HR0.out
    have hnn : ¬ ((i : Int) < 0) := by omega
    rw [show (some i).bind (fun i => es[i]?) = es[i]? from rfl, he]
    have HC1 := Lib.hid C1
    have HE1 := Lib.hid (set2_ext HE0.out (Nat.le_refl w.heap.size) (.slice a2 m2 c2) (.slice b2 n2 d2))
    have HRA : Hid (RA ((X.setCell ⟨w.heap.size, 0, none⟩ (.slice a2 m2 c2)).setCell ⟨w.heap.size, 1, none⟩ (.slice b2 n2 d2)) a2 m2 c2 b2 n2 d2 e.s.o) := Lib.hid (RA.ln ⟨h6.s3, h6.s4⟩ (((Tn.cell1 (i := 0) (Ext.refl X) (.slice a2 m2 c2) none).cell2 (i := 1) (.slice b2 n2 d2)).ln (noNum2 HR0.out) (fun o h => by cases h)))
    clear C1 hX0 hi hix ho he hrow hv hd h6 hin
    go_enter Tryz.func26, Tryz.ntmps26
    go_wp2_with (rw [HX.out])
    refine HC1.out.mono ?_
    rintro e w' ⟨rfl, rfl⟩
    go_wp2_with fail
    try simp only [Exit.inBlock, Exit.then]
    refine bodyPost_ret (results_box1 rfl _ _ _ _ rfl (load_rat (set2_row HR0.out _ _))) rfl ?_
    exact ⟨_, _, _, _, _, _, rfl, HRA.out, HE1.out⟩

end Go.Proofs.YtimcnhlcepemjaaGreatDoor

/- gleanref24.Stakes, Owes. -/
namespace Go.Proofs.YtimcnhlcepemjaaGreatDoor
open Go.RowKit

/-- The sum over a validator's stakes, in the order of the list. -/
def rsum (f : Stk → Nat × Nat) (v : Nat) (es : List Ent) : Nat × Nat := es.foldl (fun a e => if e.v = v then addR a (f e.s) else a) (0, 1)
theorem rsum_snoc (f : Stk → Nat × Nat) (v : Nat) (es : List Ent) (e : Ent) : rsum f v (es ++ [e]) = if e.v = v then addR (rsum f v es) (f e.s) else rsum f v es := by
  unfold rsum
  rw [List.foldl_append]
  rfl
theorem rsum_take {f : Stk → Nat × Nat} {v : Nat} {es : List Ent} {k : Nat} {e : Ent} (he : es[k]? = some e) : rsum f v (es.take (k + 1)) = if e.v = v then addR (rsum f v (es.take k)) (f e.s) else rsum f v (es.take k) := by
  rw [List.take_add_one, he]
  exact rsum_snoc f v _ e
theorem rsum_sz {f : Stk → Nat × Nat} {v : Nat} {H : Nat} : ∀ (k : Nat) (es : List Ent), (∀ e ∈ es, sz (f e.s) ≤ H) → k ≤ es.length → sz (rsum f v (es.take k)) ≤ k * (H + 1) + 1
  | 0, es, _, _ => by rw [List.take_zero]; show sz (0, 1) ≤ _; rw [sz_one]; omega
  | k + 1, es, h, hk => by
    obtain ⟨e, he⟩ : ∃ e, es[k]? = some e := ⟨_, List.getElem?_eq_getElem (by omega)⟩
    rw [rsum_take he]
    have h1 := rsum_sz k es h (by omega) (v := v)
    have h2 := h e (List.mem_of_getElem? he)
    have h3 := sz_add (rsum f v (es.take k)) (f e.s)
    rw [Nat.succ_mul]
    split <;> omega
def RSumRel (X : World) (B n v : Nat) (f : Stk → Nat × Nat) (es : List Ent) (iv : Value) (wr : World) : Prop :=
  ∃ (k : Nat) (o1 : Option Addr) (z1 y1 : Nat) (o2 : Option Addr) (z2 y2 : Nat), k ≤ n ∧ iv = .int .i64 (k : Int) ∧ wr.heap[B]? = some (.cells #[.slice o1 z1 y1, .slice o2 z2 y2] 40 (0, 0)) ∧ RA wr o1 z1 y1 o2 z2 y2 (rsum f v (es.take k)) ∧ Ext X wr

set_option maxHeartbeats 8000000 in
set_option maxRecDepth 100000 in
theorem rlstakes_calls {w : World} {lp : Nat} {gb : Option Nat} {o : Option Addr} {n c : Nat} {es : List Ent} (h : RLed w lp gb o n c es) {v H : Nat} (hH : ∀ e ∈ es, sz e.s.h ≤ H) (hN : n * (H + 1) + 1 ≤ 10000) (hH2 : H ≤ 10000) :
    Calls Tryz.prog 28 #[.pointer (some ⟨lp, 0, none⟩), .int .u64 (v : Int)] w (RetQ w (rsum (·.h) v es)) := by
  have hbig : (n : Int) ≤ 9223372036854775807 := by have := h.big; have := h.le; omega
  obtain ⟨X, hX⟩ : ∃ X, w.alloc (.cells #[.slice none 0 0, .slice none 0 0] 40) = X := ⟨_, rfl⟩
  have E0 : Ext w X := by rw [← hX]; exact (Ext.refl w).alloc _
  have hr0 : X.heap[w.heap.size]? = some (.cells #[.slice none 0 0, .slice none 0 0] 40 (0, 0)) := by rw [← hX]; exact heap_alloc_new w _
  have HX := Lib.hid hX; have HE0 := Lib.hid E0; have HR0 := Lib.hid hr0; have HL := Lib.hid (h.lk E0.lk); have HH := Lib.hid hH; have HN := Lib.hid hN; have HH2 := Lib.hid hH2
  have C1 := Lib.hid (rnothing_q X)
  clear hX E0 hr0 h hH hN hH2
  go_enter Tryz.func28, Tryz.ntmps28
  go_wp2_with (rw [HX.out])
  refine C1.out.mono ?_
  rintro e w1 ⟨o1, z1, y1, o2, z2, y2, rfl, h1, h2, x1⟩
  obtain ⟨V, hV⟩ : ∃ V, w1.alloc (.cells #[.slice o1 z1 y1, .slice o2 z2 y2] 40) = V := ⟨_, rfl⟩
  have EV1 : Ext w1 V := by rw [← hV]; exact (Ext.refl _).alloc _
  have hvr : V.heap[w1.heap.size]? = some (.cells #[.slice o1 z1 y1, .slice o2 z2 y2] 40 (0, 0)) := by rw [← hV]; exact heap_alloc_new w1 _
  have HV := Lib.hid hV; have HB := Lib.hid x1.size
  obtain ⟨B, hB⟩ : ∃ B, w1.heap.size = B := ⟨_, rfl⟩
  have HST := Lib.hid (show RSumRel X w1.heap.size n v (·.h) es (.int .i64 0) V from ⟨0, o1, z1, y1, o2, z2, y2, Nat.zero_le _, rfl, hvr, by rw [List.take_zero]; exact ⟨h1.sl.old EV1, h2.sl.old EV1⟩, x1.trans EV1⟩)
  clear hV EV1 hvr h1 h2 x1 C1 hB
  have k0 : V.cell? ⟨lp, 0, none⟩ = some (.slice o n c) := drow_cell (HL.out.lk (by obtain ⟨_, _, _, _, _, _, _, _, _, _, _, E⟩ := HST.out; exact E.lk)).row
  go_wp2_with (rw [HV.out])
  clear k0
  go_loopw [6] (fun iv wr => RSumRel X w1.heap.size n v (·.h) es iv wr) (fun iv _ => n - (RowKit.intOf iv).toNat)
  case atStart => exact HST.out
  case round =>
    obtain ⟨k, s1, t1, u1, s2, t2, u2, hk, rfl, hrow, hra, hext⟩ := hrel
    have HROW := Lib.hid hrow; have HRA := Lib.hid hra; have HXT := Lib.hid hext
    have hled := HL.out.lk hext.lk
    have k0 : wr.cell? ⟨lp, 0, none⟩ = some (.slice o n c) := drow_cell hled.row
    obtain ⟨k1, k2, k3, k4⟩ := row2_cells hrow
    have HLR := Lib.hid hled
    clear hrow hra hext hled
    by_cases hkn : k = n
    · have hge : ¬ ((k : Int) < (n : Int)) := by omega
      have HW := Lib.hid (show es.take k = es by rw [hkn]; exact List.take_of_length_le (Nat.le_of_eq HL.out.len))
      have HRW := Lib.hid (rowE HXT.out HR0.out)
      obtain ⟨j1, j2, j3, j4⟩ := row2_cells HRW.out
      clear hkn hk
      have HEF := Lib.hid (set2_ext (HE0.out.trans HXT.out) (Nat.le_refl w.heap.size) (.slice s1 t1 u1) (.slice s2 t2 u2))
      have HRF := Lib.hid (HRA.out.ln (((Tn.cell1 (i := 0) (Ext.refl wr) (.slice s1 t1 u1) none).cell2 (i := 1) (.slice s2 t2 u2)).ln (noNum2 HRW.out) (fun o h => by cases h)))
      go_wp2_with fail
      try simp only [Exit.inBlock, Exit.then]
      refine bodyPost_ret (results_box1 rfl _ _ _ _ rfl (load_rat (set2_row HRW.out _ _))) rfl ?_
      exact ⟨_, _, _, _, _, _, rfl, by rw [← HW.out]; exact HRF.out, HEF.out⟩
    · have hlt : (k : Int) < (n : Int) := by omega
      obtain ⟨g, e, -, ho, he, hrr, hix⟩ := HLR.out.ix (k := k) (by omega)
      obtain ⟨hv, hd, a1, m1, c1, b1, n1, d1, a2, m2, c2, b2, n2, d2, h6, x0, x1, x2, x3, x4, x5, x6, x7⟩ := hrr.look he
      have HSE := Lib.hid (HH.out e (List.mem_of_getElem? he))
      have HSK := Lib.hid (show sz (rsum (·.h) v (es.take k)) ≤ 10000 from Nat.le_trans (rsum_sz k es HH.out (by rw [HL.out.len]; omega)) (Nat.le_trans (Nat.add_le_add_right (Nat.mul_le_mul_right _ (show k ≤ n by omega)) 1) HN.out))
      have HTK := Lib.hid (rsum_take (f := (·.h)) (v := v) he)
      have H6 := Lib.hid h6; have HE := Lib.hid he
      have HBC := Lib.hid (fun w' (F : Ext wr w') => (show w'.cell? ⟨lp, 0, none⟩ = some (.slice o n c) ∧ w'.cell? ⟨g, 8 * k + 2, none⟩ = some (.slice a1 m1 c1) ∧ w'.cell? ⟨g, 8 * k + 3, none⟩ = some (.slice b1 n1 d1) from ⟨F.cell k0, F.cell x2, F.cell x3⟩))
      have HRR := Lib.hid hrr; have HO := Lib.hid ho
      clear hrr he hv hd h6 ho
      by_cases e1 : e.v = v
      · have g1 : ((e.v : Int) == (v : Int)) = true := by rw [beq_iff_eq]; omega
        have g1' : (e.v : Int) = (v : Int) := by omega
        have hT := HTK.out
        rw [if_pos e1] at hT
        have HT := Lib.hid hT
        clear e1 hT
        go_wp2_with fail
        go_region_with (first
          | (go_at_call 54; refine (fradd_q (HRA.out.old (Ext.refl _).drew) (show RA wr.drew a1 m1 c1 b1 n1 d1 e.s.h from ⟨H6.out.s1.old (Ext.refl _).drew, H6.out.s2.old (Ext.refl _).drew⟩) HSK.out (Nat.le_trans HSE.out HH2.out)).mono ?_; rintro e' wA ⟨q1, r1, t3, q2, r2, t4, rfl, p1, p2, hxA⟩; have EA : Ext wr wA := (Ext.refl _).drew.trans hxA; obtain ⟨y0, y1', y2', y3⟩ := row2_cells (rowE EA HROW.out)))
        all_goals (
          have HF := Lib.hid (And.intro (set2_row (rowE EA HROW.out) (.slice q1 r1 t3) (.slice q2 r2 t4)) (And.intro (show RA ((wA.setCell ⟨w1.heap.size, 0, none⟩ (.slice q1 r1 t3)).setCell ⟨w1.heap.size, 1, none⟩ (.slice q2 r2 t4)) q1 r1 t3 q2 r2 t4 (rsum (·.h) v (es.take (k + 1))) by
            rw [HT.out]
            exact RA.ln ⟨p1.sl, p2.sl⟩ (((Tn.cell1 (i := 0) (Ext.refl wA) (.slice q1 r1 t3) none).cell2 (i := 1) (.slice q2 r2 t4)).ln (noNum2 (rowE EA HROW.out)) (fun o h => by cases h))) (set2_ext (HXT.out.trans EA) HB.out (.slice q1 r1 t3) (.slice q2 r2 t4))))
          go_wp2_with fail
          go_roundw
          case rel => exact ⟨k + 1, _, _, _, _, _, _, by omega, by go_num, HF.out.1, HF.out.2.1, HF.out.2.2⟩
          case measure => simp only [RowKit.intOf]; omega)
      · have g1 : ((e.v : Int) == (v : Int)) = false := by rw [beq_eq_false_iff_ne]; omega
        have g1' : ¬ ((e.v : Int) = (v : Int)) := by omega
        have hT := HTK.out
        rw [if_neg e1] at hT
        have HT := Lib.hid hT
        clear e1 hT
        go_wp2_with fail
        go_roundw
        case rel => exact ⟨k + 1, _, _, _, _, _, _, by omega, by go_num, HROW.out, by rw [HT.out]; exact HRA.out, HXT.out⟩
        case measure => simp only [RowKit.intOf]; omega

set_option maxHeartbeats 8000000 in
set_option maxRecDepth 100000 in
theorem rlowes_calls {w : World} {lp : Nat} {gb : Option Nat} {o : Option Addr} {n c : Nat} {es : List Ent} (h : RLed w lp gb o n c es) {v H : Nat} (hH : ∀ e ∈ es, sz e.s.o ≤ H) (hN : n * (H + 1) + 1 ≤ 10000) (hH2 : H ≤ 10000) :
    Calls Tryz.prog 30 #[.pointer (some ⟨lp, 0, none⟩), .int .u64 (v : Int)] w (RetQ w (rsum (·.o) v es)) := by
  have hbig : (n : Int) ≤ 9223372036854775807 := by have := h.big; have := h.le; omega
  obtain ⟨X, hX⟩ : ∃ X, w.alloc (.cells #[.slice none 0 0, .slice none 0 0] 40) = X := ⟨_, rfl⟩
  have E0 : Ext w X := by rw [← hX]; exact (Ext.refl w).alloc _
  have hr0 : X.heap[w.heap.size]? = some (.cells #[.slice none 0 0, .slice none 0 0] 40 (0, 0)) := by rw [← hX]; exact heap_alloc_new w _
  have HX := Lib.hid hX; have HE0 := Lib.hid E0; have HR0 := Lib.hid hr0; have HL := Lib.hid (h.lk E0.lk); have HH := Lib.hid hH; have HN := Lib.hid hN; have HH2 := Lib.hid hH2
  have C1 := Lib.hid (rnothing_q X)
  clear hX E0 hr0 h hH hN hH2
  go_enter Tryz.func30, Tryz.ntmps30
  go_wp2_with (rw [HX.out])
  refine C1.out.mono ?_
  rintro e w1 ⟨o1, z1, y1, o2, z2, y2, rfl, h1, h2, x1⟩
  obtain ⟨V, hV⟩ : ∃ V, w1.alloc (.cells #[.slice o1 z1 y1, .slice o2 z2 y2] 40) = V := ⟨_, rfl⟩
  have EV1 : Ext w1 V := by rw [← hV]; exact (Ext.refl _).alloc _
  have hvr : V.heap[w1.heap.size]? = some (.cells #[.slice o1 z1 y1, .slice o2 z2 y2] 40 (0, 0)) := by rw [← hV]; exact heap_alloc_new w1 _
  have HV := Lib.hid hV; have HB := Lib.hid x1.size
  obtain ⟨B, hB⟩ : ∃ B, w1.heap.size = B := ⟨_, rfl⟩
  have HST := Lib.hid (show RSumRel X w1.heap.size n v (·.o) es (.int .i64 0) V from ⟨0, o1, z1, y1, o2, z2, y2, Nat.zero_le _, rfl, hvr, by rw [List.take_zero]; exact ⟨h1.sl.old EV1, h2.sl.old EV1⟩, x1.trans EV1⟩)
  clear hV EV1 hvr h1 h2 x1 C1 hB
  have k0 : V.cell? ⟨lp, 0, none⟩ = some (.slice o n c) := drow_cell (HL.out.lk (by obtain ⟨_, _, _, _, _, _, _, _, _, _, _, E⟩ := HST.out; exact E.lk)).row
  go_wp2_with (rw [HV.out])
  clear k0
  go_loopw [6] (fun iv wr => RSumRel X w1.heap.size n v (·.o) es iv wr) (fun iv _ => n - (RowKit.intOf iv).toNat)
  case atStart => exact HST.out
  case round =>
    obtain ⟨k, s1, t1, u1, s2, t2, u2, hk, rfl, hrow, hra, hext⟩ := hrel
    have HROW := Lib.hid hrow; have HRA := Lib.hid hra; have HXT := Lib.hid hext
    have hled := HL.out.lk hext.lk
    have k0 : wr.cell? ⟨lp, 0, none⟩ = some (.slice o n c) := drow_cell hled.row
    obtain ⟨k1, k2, k3, k4⟩ := row2_cells hrow
    have HLR := Lib.hid hled
    clear hrow hra hext hled
    by_cases hkn : k = n
    · have hge : ¬ ((k : Int) < (n : Int)) := by omega
      have HW := Lib.hid (show es.take k = es by rw [hkn]; exact List.take_of_length_le (Nat.le_of_eq HL.out.len))
      have HRW := Lib.hid (rowE HXT.out HR0.out)
      obtain ⟨j1, j2, j3, j4⟩ := row2_cells HRW.out
      clear hkn hk
      have HEF := Lib.hid (set2_ext (HE0.out.trans HXT.out) (Nat.le_refl w.heap.size) (.slice s1 t1 u1) (.slice s2 t2 u2))
      have HRF := Lib.hid (HRA.out.ln (((Tn.cell1 (i := 0) (Ext.refl wr) (.slice s1 t1 u1) none).cell2 (i := 1) (.slice s2 t2 u2)).ln (noNum2 HRW.out) (fun o h => by cases h)))
      go_wp2_with fail
      try simp only [Exit.inBlock, Exit.then]
      refine bodyPost_ret (results_box1 rfl _ _ _ _ rfl (load_rat (set2_row HRW.out _ _))) rfl ?_
      exact ⟨_, _, _, _, _, _, rfl, by rw [← HW.out]; exact HRF.out, HEF.out⟩
    · have hlt : (k : Int) < (n : Int) := by omega
      obtain ⟨g, e, -, ho, he, hrr, hix⟩ := HLR.out.ix (k := k) (by omega)
      obtain ⟨hv, hd, a1, m1, c1, b1, n1, d1, a2, m2, c2, b2, n2, d2, h6, x0, x1, x2, x3, x4, x5, x6, x7⟩ := hrr.look he
      have HSE := Lib.hid (HH.out e (List.mem_of_getElem? he))
      have HSK := Lib.hid (show sz (rsum (·.o) v (es.take k)) ≤ 10000 from Nat.le_trans (rsum_sz k es HH.out (by rw [HL.out.len]; omega)) (Nat.le_trans (Nat.add_le_add_right (Nat.mul_le_mul_right _ (show k ≤ n by omega)) 1) HN.out))
      have HTK := Lib.hid (rsum_take (f := (·.o)) (v := v) he)
      have H6 := Lib.hid h6; have HE := Lib.hid he
      have HBC := Lib.hid (fun w' (F : Ext wr w') => (show w'.cell? ⟨lp, 0, none⟩ = some (.slice o n c) ∧ w'.cell? ⟨g, 8 * k + 4, none⟩ = some (.slice a2 m2 c2) ∧ w'.cell? ⟨g, 8 * k + 5, none⟩ = some (.slice b2 n2 d2) from ⟨F.cell k0, F.cell x4, F.cell x5⟩))
      have HRR := Lib.hid hrr; have HO := Lib.hid ho
      clear hrr he hv hd h6 ho
      by_cases e1 : e.v = v
      · have g1 : ((e.v : Int) == (v : Int)) = true := by rw [beq_iff_eq]; omega
        have g1' : (e.v : Int) = (v : Int) := by omega
        have hT := HTK.out
        rw [if_pos e1] at hT
        have HT := Lib.hid hT
        clear e1 hT
        go_wp2_with fail
        go_region_with (first
          | (go_at_call 54; refine (fradd_q (HRA.out.old (Ext.refl _).drew) (show RA wr.drew a2 m2 c2 b2 n2 d2 e.s.o from ⟨H6.out.s3.old (Ext.refl _).drew, H6.out.s4.old (Ext.refl _).drew⟩) HSK.out (Nat.le_trans HSE.out HH2.out)).mono ?_; rintro e' wA ⟨q1, r1, t3, q2, r2, t4, rfl, p1, p2, hxA⟩; have EA : Ext wr wA := (Ext.refl _).drew.trans hxA; obtain ⟨y0, y1', y2', y3⟩ := row2_cells (rowE EA HROW.out)))
        all_goals (
          have HF := Lib.hid (And.intro (set2_row (rowE EA HROW.out) (.slice q1 r1 t3) (.slice q2 r2 t4)) (And.intro (show RA ((wA.setCell ⟨w1.heap.size, 0, none⟩ (.slice q1 r1 t3)).setCell ⟨w1.heap.size, 1, none⟩ (.slice q2 r2 t4)) q1 r1 t3 q2 r2 t4 (rsum (·.o) v (es.take (k + 1))) by
            rw [HT.out]
            exact RA.ln ⟨p1.sl, p2.sl⟩ (((Tn.cell1 (i := 0) (Ext.refl wA) (.slice q1 r1 t3) none).cell2 (i := 1) (.slice q2 r2 t4)).ln (noNum2 (rowE EA HROW.out)) (fun o h => by cases h))) (set2_ext (HXT.out.trans EA) HB.out (.slice q1 r1 t3) (.slice q2 r2 t4))))
          go_wp2_with fail
          go_roundw
          case rel => exact ⟨k + 1, _, _, _, _, _, _, by omega, by go_num, HF.out.1, HF.out.2.1, HF.out.2.2⟩
          case measure => simp only [RowKit.intOf]; omega)
      · have g1 : ((e.v : Int) == (v : Int)) = false := by rw [beq_eq_false_iff_ne]; omega
        have g1' : ¬ ((e.v : Int) = (v : Int)) := by omega
        have hT := HTK.out
        rw [if_neg e1] at hT
        have HT := Lib.hid hT
        clear e1 hT
        go_wp2_with fail
        go_roundw
        case rel => exact ⟨k + 1, _, _, _, _, _, _, by omega, by go_num, HROW.out, by rw [HT.out]; exact HRA.out, HXT.out⟩
        case measure => simp only [RowKit.intOf]; omega

end Go.Proofs.YtimcnhlcepemjaaGreatDoor

/- A stake of the list is changed: its fractions, its counts. -/
namespace Go.Proofs.YtimcnhlcepemjaaGreatDoor
open Go.RowKit

theorem ln_setCell {w : World} {a : Addr} {v u : Value} (h : w.cell? a = some u) (hu : ∀ x, u ≠ .int .u64 x) : Ln w (w.setCell a v) := by
  refine ⟨fun p x hp => ?_⟩
  by_cases e : p = a
  · subst e
    rw [h] at hp
    exact absurd (Option.some.inj hp) (hu x)
  · rw [World.cell?_setCell_other _ _ _ _ (fun q => e q.symm)]; exact hp
theorem setCell2_by (w : World) (b i j : Nat) (u v : Value) : w.grownBy ((w.setCell ⟨b, i, none⟩ u).setCell ⟨b, j, none⟩ v) (some b) :=
  grownBy_trans (setCell_by' w b i u) (setCell_by' _ b j v)
theorem RRow.setQ {w : World} {g cap : Nat} {es : List Ent} (h : RRow w g cap es) {i : Nat} {e : Ent} (he : es[i]? = some e) (own : Bool) {off : Nat} (hoff : off = if own then 4 else 2) {a : Option Addr} {m c : Nat} {b : Option Addr} {m' d : Nat} {q : Nat × Nat} (hq : RA w a m c b m' d q) :
    Ln w ((w.setCell ⟨g, 8 * i + off, none⟩ (.slice a m c)).setCell ⟨g, 8 * i + off + 1, none⟩ (.slice b m' d)) ∧
    w.grownBy ((w.setCell ⟨g, 8 * i + off, none⟩ (.slice a m c)).setCell ⟨g, 8 * i + off + 1, none⟩ (.slice b m' d)) (some g) ∧
    RRow ((w.setCell ⟨g, 8 * i + off, none⟩ (.slice a m c)).setCell ⟨g, 8 * i + off + 1, none⟩ (.slice b m' d)) g cap (es.set i ⟨e.v, e.d, if own then ⟨e.s.h, q, e.s.p, e.s.k⟩ else ⟨q, e.s.o, e.s.p, e.s.k⟩⟩) := by
  obtain ⟨-, -, a1, m1, c1, b1, n1, d1, a2, m2, c2, b2, n2, d2, -, -, -, y2, y3, y4, y5, -, -⟩ := h.look he
  have L : Ln w ((w.setCell ⟨g, 8 * i + off, none⟩ (.slice a m c)).setCell ⟨g, 8 * i + off + 1, none⟩ (.slice b m' d)) := by
    cases own
    · obtain rfl : off = 2 := by simpa using hoff
      refine Ln.trans (ln_setCell y2 (fun x => by simp)) (ln_setCell (u := .slice b1 n1 d1) ?_ (fun x => by simp))
      rw [World.cell?_setCell_other _ _ _ _ (by intro e; injection e with e1 e2; omega)]
      exact y3
    · obtain rfl : off = 4 := by simpa using hoff
      refine Ln.trans (ln_setCell y4 (fun x => by simp)) (ln_setCell (u := .slice b2 n2 d2) ?_ (fun x => by simp))
      rw [World.cell?_setCell_other _ _ _ _ (by intro e; injection e with e1 e2; omega)]
      exact y5
  refine ⟨L, setCell2_by w g _ _ _ _, ?_⟩
  obtain ⟨cur, r1, r2, r3, r4, r5⟩ := h.ex
  have hi : i < es.length := (List.getElem?_eq_some_iff.1 he).1
  have hoff2 : off = 4 ∨ off = 2 := by cases own <;> simp [hoff]
  have hother : ∀ j, j < cap → j ≠ i → ∀ cs, At8 cur j cs → At8 ((cur.setIfInBounds (8 * i + off) (.slice a m c)).setIfInBounds (8 * i + off + 1) (.slice b m' d)) j cs := fun j hj hji cs hc t ht => by
    rw [Array.getElem?_setIfInBounds, if_neg (by omega), Array.getElem?_setIfInBounds, if_neg (by omega)]
    exact hc t ht
  refine ⟨_, heap_setCell_same _ g _ _ _ _ (heap_setCell_same w g _ _ _ _ r1), by simpa using r2, by simpa using r3, fun j e' hj => ?_, fun j h1 h2 => hother j h2 (by simp at h1; omega) _ (r5 j (by simpa using h1) h2)⟩
  by_cases hji : j = i
  · subst hji
    rw [List.getElem?_set_self hi] at hj
    cases hj
    obtain ⟨v1, v2, a1, m1, c1, b1, n1, d1, a2, m2, c2, b2, n2, d2, u, s6⟩ := r4 j e he
    refine ⟨v1, v2, ?_⟩
    cases own
    · obtain rfl : off = 2 := by simpa using hoff
      refine ⟨a, m, c, b, m', d, a2, m2, c2, b2, n2, d2, fun t ht => ?_, ⟨hq.nu.ln L, hq.de.ln L, s6.s3.ln L, s6.s4.ln L⟩⟩
      have h8 : t = 0 ∨ t = 1 ∨ t = 2 ∨ t = 3 ∨ t = 4 ∨ t = 5 ∨ t = 6 ∨ t = 7 := by omega
      rcases h8 with rfl | rfl | rfl | rfl | rfl | rfl | rfl | rfl
      all_goals first
        | (rw [Array.getElem?_setIfInBounds, if_neg (by omega), Array.getElem?_setIfInBounds, if_neg (by omega)]; exact u _ (by decide))
        | (rw [Array.getElem?_setIfInBounds, if_neg (by omega), Array.getElem?_setIfInBounds, if_pos (by omega), if_pos (by omega)]; rfl)
        | (rw [Array.getElem?_setIfInBounds, if_pos (by omega), if_pos (by rw [Array.size_setIfInBounds]; omega)]; rfl)
    · obtain rfl : off = 4 := by simpa using hoff
      refine ⟨a1, m1, c1, b1, n1, d1, a, m, c, b, m', d, fun t ht => ?_, ⟨s6.s1.ln L, s6.s2.ln L, hq.nu.ln L, hq.de.ln L⟩⟩
      have h8 : t = 0 ∨ t = 1 ∨ t = 2 ∨ t = 3 ∨ t = 4 ∨ t = 5 ∨ t = 6 ∨ t = 7 := by omega
      rcases h8 with rfl | rfl | rfl | rfl | rfl | rfl | rfl | rfl
      all_goals first
        | (rw [Array.getElem?_setIfInBounds, if_neg (by omega), Array.getElem?_setIfInBounds, if_neg (by omega)]; exact u _ (by decide))
        | (rw [Array.getElem?_setIfInBounds, if_neg (by omega), Array.getElem?_setIfInBounds, if_pos (by omega), if_pos (by omega)]; rfl)
        | (rw [Array.getElem?_setIfInBounds, if_pos (by omega), if_pos (by rw [Array.size_setIfInBounds]; omega)]; rfl)
  · rw [List.getElem?_set_ne (fun e => hji e.symm)] at hj
    have hjl : j < es.length := (List.getElem?_eq_some_iff.1 hj).1
    obtain ⟨v1, v2, a1, m1, c1, b1, n1, d1, a2, m2, c2, b2, n2, d2, u, s6⟩ := r4 j e' hj
    exact ⟨v1, v2, a1, m1, c1, b1, n1, d1, a2, m2, c2, b2, n2, d2, hother j (by omega) hji _ u, s6.ln L⟩
theorem RRow.setI {w : World} {g cap : Nat} {es : List Ent} (h : RRow w g cap es) {i : Nat} {e : Ent} (he : es[i]? = some e) (cuts : Bool) {off : Nat} (hoff : off = if cuts then 7 else 6) (x : Int) :
    Ln w (w.setCell ⟨g, 8 * i + off, none⟩ (.int .i64 x)) ∧ w.grownBy (w.setCell ⟨g, 8 * i + off, none⟩ (.int .i64 x)) (some g) ∧
    RRow (w.setCell ⟨g, 8 * i + off, none⟩ (.int .i64 x)) g cap (es.set i ⟨e.v, e.d, if cuts then ⟨e.s.h, e.s.o, e.s.p, x⟩ else ⟨e.s.h, e.s.o, x, e.s.k⟩⟩) := by
  obtain ⟨-, -, a1, m1, c1, b1, n1, d1, a2, m2, c2, b2, n2, d2, -, -, -, -, -, -, -, y6, y7⟩ := h.look he
  have L : Ln w (w.setCell ⟨g, 8 * i + off, none⟩ (.int .i64 x)) := by
    cases cuts
    · obtain rfl : off = 6 := by simpa using hoff
      exact ln_setCell y6 (fun x => by simp)
    · obtain rfl : off = 7 := by simpa using hoff
      exact ln_setCell y7 (fun x => by simp)
  refine ⟨L, setCell_by' w g _ _, ?_⟩
  obtain ⟨cur, r1, r2, r3, r4, r5⟩ := h.ex
  have hi : i < es.length := (List.getElem?_eq_some_iff.1 he).1
  have hoff2 : off = 6 ∨ off = 7 := by cases cuts <;> simp [hoff]
  have hother : ∀ j, j < cap → j ≠ i → ∀ cs, At8 cur j cs → At8 (cur.setIfInBounds (8 * i + off) (.int .i64 x)) j cs := fun j hj hji cs hc t ht => by
    rw [Array.getElem?_setIfInBounds, if_neg (by omega)]
    exact hc t ht
  refine ⟨_, heap_setCell_same w g _ _ _ _ r1, by simpa using r2, by simpa using r3, fun j e' hj => ?_, fun j h1 h2 => hother j h2 (by simp at h1; omega) _ (r5 j (by simpa using h1) h2)⟩
  by_cases hji : j = i
  · subst hji
    rw [List.getElem?_set_self hi] at hj
    cases hj
    obtain ⟨v1, v2, a1, m1, c1, b1, n1, d1, a2, m2, c2, b2, n2, d2, u, s6⟩ := r4 j e he
    refine ⟨v1, v2, a1, m1, c1, b1, n1, d1, a2, m2, c2, b2, n2, d2, ?_, ?_⟩
    · cases cuts
      · obtain rfl : off = 6 := by simpa using hoff
        intro t ht
        have h8 : t = 0 ∨ t = 1 ∨ t = 2 ∨ t = 3 ∨ t = 4 ∨ t = 5 ∨ t = 6 ∨ t = 7 := by omega
        rcases h8 with rfl | rfl | rfl | rfl | rfl | rfl | rfl | rfl
        all_goals first
          | (rw [Array.getElem?_setIfInBounds, if_neg (by omega)]; exact u _ (by decide))
          | (rw [Array.getElem?_setIfInBounds, if_pos (by omega), if_pos (by omega)]; rfl)
      · obtain rfl : off = 7 := by simpa using hoff
        intro t ht
        have h8 : t = 0 ∨ t = 1 ∨ t = 2 ∨ t = 3 ∨ t = 4 ∨ t = 5 ∨ t = 6 ∨ t = 7 := by omega
        rcases h8 with rfl | rfl | rfl | rfl | rfl | rfl | rfl | rfl
        all_goals first
          | (rw [Array.getElem?_setIfInBounds, if_neg (by omega)]; exact u _ (by decide))
          | (rw [Array.getElem?_setIfInBounds, if_pos (by omega), if_pos (by omega)]; rfl)
    · cases cuts <;> exact ⟨s6.s1.ln L, s6.s2.ln L, s6.s3.ln L, s6.s4.ln L⟩
  · rw [List.getElem?_set_ne (fun e => hji e.symm)] at hj
    have hjl : j < es.length := (List.getElem?_eq_some_iff.1 hj).1
    obtain ⟨v1, v2, a1, m1, c1, b1, n1, d1, a2, m2, c2, b2, n2, d2, u, s6⟩ := r4 j e' hj
    exact ⟨v1, v2, a1, m1, c1, b1, n1, d1, a2, m2, c2, b2, n2, d2, hother j (by omega) hji _ u, s6.ln L⟩
/-- The list's row has turned; the ledger reads on. -/
theorem RLed.turn {w w' : World} {lp g : Nat} {o : Option Addr} {n c : Nat} {es es' : List Ent} (h : RLed w lp (some g) o n c es) (hg : w.grownBy w' (some g)) (hr : RRow w' g c es') (hl : es'.length = es.length) : RLed w' lp (some g) o n c es' := by
  have hlt := (Array.getElem?_eq_some_iff.1 h.row).1
  have hne : lp ≠ g := by
    intro e
    obtain ⟨cur, h1, -⟩ := hr.ex
    rcases h.at_ with ⟨h2, -⟩ | ⟨g', h2, h3, h4⟩
    · cases h2
    · cases h2
      obtain ⟨cur2, h5, -⟩ := h4.ex
      have := h.row
      rw [e, h5] at this
      have := Option.some.inj this
      injection this with e1 e2 e3
      exact absurd e2 (by decide)
  refine ⟨by rw [hg.block lp hlt (fun e => hne (Option.some.inj e))]; exact h.row, by rw [hl]; exact h.len, h.big, .inr ⟨g, rfl, ?_, hr⟩⟩
  rcases h.at_ with ⟨h2, -⟩ | ⟨g', h2, h3, h4⟩
  · cases h2
  · cases h2; exact h3

end Go.Proofs.YtimcnhlcepemjaaGreatDoor

/- gleanref24.Cut. -/
namespace Go.Proofs.YtimcnhlcepemjaaGreatDoor
open Go.RowKit

/-- All stakes of a validator in the list turned. -/
def rmap (f : Stk → Stk) (v : Nat) (es : List Ent) : List Ent := es.map fun e => if e.v = v then ⟨e.v, e.d, f e.s⟩ else e
def rpart (f : Stk → Stk) (v k : Nat) (es : List Ent) : List Ent := rmap f v (es.take k) ++ es.drop k
theorem rpart_len (f : Stk → Stk) (v k : Nat) (es : List Ent) : (rpart f v k es).length = es.length := by
  unfold rpart rmap
  rw [List.length_append, List.length_map, List.length_take, List.length_drop]
  omega
theorem rpart_at {f : Stk → Stk} {v k : Nat} {es : List Ent} {e : Ent} (he : es[k]? = some e) : (rpart f v k es)[k]? = some e := by
  unfold rpart rmap
  have hk := (List.getElem?_eq_some_iff.1 he).1
  rw [List.getElem?_append_right (by rw [List.length_map, List.length_take]; omega), List.length_map, List.length_take, Nat.min_eq_left (by omega), Nat.sub_self, List.getElem?_drop]
  exact he
theorem rpart_step {f : Stk → Stk} {v k : Nat} {es : List Ent} {e : Ent} (he : es[k]? = some e) : rpart f v (k + 1) es = (rpart f v k es).set k (if e.v = v then ⟨e.v, e.d, f e.s⟩ else e) := by
  have hk := (List.getElem?_eq_some_iff.1 he).1
  refine List.ext_getElem? fun j => ?_
  rw [List.getElem?_set]
  unfold rpart rmap
  rw [show (List.map (fun e => if e.v = v then (⟨e.v, e.d, f e.s⟩ : Ent) else e) (es.take k) ++ es.drop k).length = es.length from rpart_len f v k es]
  by_cases hj : k = j
  · subst hj
    rw [if_pos rfl, if_pos hk, List.getElem?_append_left (by rw [List.length_map, List.length_take]; omega), List.getElem?_map, List.getElem?_take, if_pos (by omega), he]
    rfl
  · rw [if_neg hj]
    by_cases hl : j < k
    · rw [List.getElem?_append_left (by rw [List.length_map, List.length_take]; omega), List.getElem?_append_left (by rw [List.length_map, List.length_take]; omega), List.getElem?_map, List.getElem?_map, List.getElem?_take, List.getElem?_take, if_pos (by omega), if_pos (by omega)]
    · rw [List.getElem?_append_right (by rw [List.length_map, List.length_take]; omega), List.getElem?_append_right (by rw [List.length_map, List.length_take]; omega), List.getElem?_drop, List.getElem?_drop, List.length_map, List.length_map, List.length_take, List.length_take]
      congr 1
      omega
theorem rpart_zero (f : Stk → Stk) (v : Nat) (es : List Ent) : rpart f v 0 es = es := by unfold rpart rmap; simp
theorem rpart_all (f : Stk → Stk) (v : Nat) (es : List Ent) : rpart f v es.length es = rmap f v es := by unfold rpart; simp
theorem set_same {es : List Ent} {k : Nat} {e : Ent} (h : es[k]? = some e) : es.set k e = es := by
  obtain ⟨h1, h2⟩ := List.getElem?_eq_some_iff.1 h
  rw [← h2]
  exact List.set_getElem_self h1

def rCut (t u : Nat) (s : Stk) : Stk := ⟨byR s.h u t, s.o, wrap64 (s.p + 1), wrap64 (s.k + 1)⟩
/-- What a step that turns the list leaves. -/
def RMod (w : World) (lp : Nat) (gb : Option Nat) (o : Option Addr) (n c : Nat) (es : List Ent) (w' : World) : Prop := RLed w' lp gb o n c es ∧ w.grownBy w' gb ∧ Ln w w'
def RModRel (w : World) (lp : Nat) (gb : Option Nat) (o : Option Addr) (n c v : Nat) (f : Stk → Stk) (es : List Ent) (iv : Value) (wr : World) : Prop :=
  ∃ k : Nat, k ≤ n ∧ iv = .int .i64 (k : Int) ∧ RMod w lp gb o n c (rpart f v k es) wr

set_option maxHeartbeats 8000000 in
set_option maxRecDepth 100000 in
theorem rlcut_calls {w : World} {lp : Nat} {gb : Option Nat} {o : Option Addr} {n c : Nat} {es : List Ent} (h : RLed w lp gb o n c es) {v t u : Nat} (ht : t < B64) (hu : u < B64) (hH : ∀ e ∈ es, sz e.s.h ≤ 10000) :
    Calls Tryz.prog 22 #[.pointer (some ⟨lp, 0, none⟩), .int .u64 (v : Int), .int .u64 (t : Int), .int .u64 (u : Int)] w fun e w' => e = .returned (.tuple #[]) ∧ RMod w lp gb o n c (rmap (rCut t u) v es) w' := by
  have hbig : (n : Int) ≤ 9223372036854775807 := by have := h.big; have := h.le; omega
  have HL := Lib.hid h; have HT := Lib.hid ht; have HU := Lib.hid hu; have HH := Lib.hid hH
  have HST := Lib.hid (show RModRel w lp gb o n c v (rCut t u) es (.int .i64 0) w from ⟨0, Nat.zero_le _, rfl, by rw [rpart_zero]; exact h, (Ext.refl w).by_ _, Ln.refl w⟩)
  have k0 : w.cell? ⟨lp, 0, none⟩ = some (.slice o n c) := drow_cell h.row
  clear h ht hu hH
  go_enter Tryz.func22, Tryz.ntmps22
  go_wp2_with fail
  clear k0
  go_loopw [8] (fun iv wr => RModRel w lp gb o n c v (rCut t u) es iv wr) (fun iv _ => n - (RowKit.intOf iv).toNat)
  case atStart => exact HST.out
  case round =>
    obtain ⟨k, hk, rfl, hled, hgr, hln⟩ := hrel
    have k0 : wr.cell? ⟨lp, 0, none⟩ = some (.slice o n c) := drow_cell hled.row
    have HLR := Lib.hid hled; have HGR := Lib.hid hgr; have HLN := Lib.hid hln
    clear hled hgr hln
    by_cases hkn : k = n
    · have hge : ¬ ((k : Int) < (n : Int)) := by omega
      have HW := Lib.hid (show rpart (rCut t u) v k es = rmap (rCut t u) v es by rw [hkn, ← HL.out.len]; exact rpart_all _ _ _)
      clear hkn hk
      go_wp2_with fail
      go_end0
      exact ⟨rfl, by rw [← HW.out]; exact HLR.out, HGR.out, HLN.out⟩
    · have hlt : (k : Int) < (n : Int) := by omega
      obtain ⟨e, he⟩ : ∃ e, es[k]? = some e := ⟨_, List.getElem?_eq_getElem (by rw [HL.out.len]; omega)⟩
      have her := rpart_at (f := rCut t u) (v := v) he
      obtain ⟨g, e', rfl, ho, he', hrr, hix⟩ := HLR.out.ix (k := k) (by omega)
      rw [her] at he'
      cases he'
      obtain ⟨hv, hd, a1, m1, c1, b1, n1, d1, a2, m2, c2, b2, n2, d2, h6, x0, x1, x2, x3, x4, x5, x6, x7⟩ := hrr.look her
      have HSE := Lib.hid (HH.out e (List.mem_of_getElem? he)); have H6 := Lib.hid h6; have HRR := Lib.hid hrr; have HER := Lib.hid her
      have HTK := Lib.hid (rpart_step (f := rCut t u) (v := v) he)
      clear hrr he her hv hd h6 ho
      by_cases e1 : e.v = v
      · have g1 : ((e.v : Int) == (v : Int)) = true := by rw [beq_iff_eq]; omega
        have g1' : (e.v : Int) = (v : Int) := by omega
        have hT := HTK.out
        rw [if_pos e1] at hT
        have HT2 := Lib.hid hT
        clear e1 hT
        go_wp2_with fail
        go_region_with (first
          | (go_at_call 55; refine (rby_q (show RA wr.drew a1 m1 c1 b1 n1 d1 e.s.h from ⟨H6.out.s1.old (Ext.refl _).drew, H6.out.s2.old (Ext.refl _).drew⟩) HSE.out HU.out HT.out).mono ?_; rintro e' wA ⟨q1, r1, t3, q2, r2, t4, rfl, p1, p2, hxA⟩; have EA : Ext wr wA := (Ext.refl _).drew.trans hxA; have y0 := EA.cell k0; have y2 := EA.cell x2; have y3 := EA.cell x3; have y2' := (HRR.out.lk EA.lk).free (8 * k + 2); have y3' := (HRR.out.lk EA.lk).free (8 * k + 3)))
        all_goals (
          have A1 : Ln wA ((wA.setCell ⟨g, 8 * k + 2, none⟩ (.slice q1 r1 t3)).setCell ⟨g, 8 * k + 3, none⟩ (.slice q2 r2 t4)) ∧ wA.grownBy ((wA.setCell ⟨g, 8 * k + 2, none⟩ (.slice q1 r1 t3)).setCell ⟨g, 8 * k + 3, none⟩ (.slice q2 r2 t4)) (some g) ∧
            RRow ((wA.setCell ⟨g, 8 * k + 2, none⟩ (.slice q1 r1 t3)).setCell ⟨g, 8 * k + 3, none⟩ (.slice q2 r2 t4)) g c ((rpart (rCut t u) v k es).set k ⟨e.v, e.d, ⟨byR e.s.h u t, e.s.o, e.s.p, e.s.k⟩⟩) := (HRR.out.lk EA.lk).setQ HER.out false rfl ⟨p1.sl, p2.sl⟩
          obtain ⟨W1, hW1⟩ : ∃ x, (wA.setCell ⟨g, 8 * k + 2, none⟩ (.slice q1 r1 t3)).setCell ⟨g, 8 * k + 3, none⟩ (.slice q2 r2 t4) = x := ⟨_, rfl⟩
          rw [hW1] at A1
          obtain ⟨l1, g1_, rr1⟩ := A1
          have hk1 : k < (rpart (rCut t u) v k es).length := (List.getElem?_eq_some_iff.1 HER.out).1
          have A2 := rr1.setI (List.getElem?_set_self hk1) false (off := 6) rfl (wrap64 (e.s.p + 1))
          obtain ⟨W2, hW2⟩ : ∃ x, W1.setCell ⟨g, 8 * k + 6, none⟩ (.int .i64 (wrap64 (e.s.p + 1))) = x := ⟨_, rfl⟩
          rw [hW2, List.set_set] at A2
          obtain ⟨l2, g2_, rr2⟩ := A2
          have A3 := rr2.setI (List.getElem?_set_self hk1) true (off := 7) rfl (wrap64 (e.s.k + 1))
          obtain ⟨W3, hW3⟩ : ∃ x, W2.setCell ⟨g, 8 * k + 7, none⟩ (.int .i64 (wrap64 (e.s.k + 1))) = x := ⟨_, rfl⟩
          rw [hW3, List.set_set] at A3
          obtain ⟨l3, g3_, rr3⟩ := A3
          have d1_ := (HLR.out.lk EA.lk).turn g1_ rr1 (List.length_set ..)
          have d2_ := d1_.turn g2_ rr2 (by rw [List.length_set, List.length_set])
          have d3_ := d2_.turn g3_ rr3 (by rw [List.length_set, List.length_set])
          obtain ⟨-, -, i1, i2, i3, i4, i5, i6, i7, i8, i9, i10, i11, i12, -, -, -, -, -, -, -, xp, -⟩ := rr1.look (List.getElem?_set_self hk1)
          obtain ⟨-, -, i1, i2, i3, i4, i5, i6, i7, i8, i9, i10, i11, i12, -, -, -, -, -, -, -, -, xk⟩ := rr2.look (List.getElem?_set_self hk1)
          have f6 := rr1.free (8 * k + 6); have f7 := rr2.free (8 * k + 7)
          have c1_ : W1.cell? ⟨lp, 0, none⟩ = some (.slice o n c) := drow_cell d1_.row
          have c2_ : W2.cell? ⟨lp, 0, none⟩ = some (.slice o n c) := drow_cell d2_.row
          have HF := Lib.hid (show RMod w lp (some g) o n c (rpart (rCut t u) v (k + 1) es) W3 from ⟨by rw [HT2.out]; exact d3_, grownBy_trans (grownBy_trans (grownBy_trans (grownBy_trans HGR.out (EA.by_ _)) g1_) g2_) g3_, ((HLN.out.trans EA.lk.ln).trans l1).trans (l2.trans l3)⟩)
          have HW1 := Lib.hid hW1; have HW2 := Lib.hid hW2; have HW3 := Lib.hid hW3
          clear hW1 hW2 hW3 l1 l2 l3 g1_ g2_ g3_ rr1 rr2 rr3 d1_ d2_ d3_ hk1 y0 y2 y3 y2' y3' x0 x1 x2 x3 x4 x5 x6 x7 k0 p1 p2 hxA EA
          go_wp2_with (first | rw [HW1.out] | rw [HW2.out] | rw [HW3.out])
          go_roundw
          case rel => exact ⟨k + 1, by omega, by go_num, HF.out⟩
          case measure => simp only [RowKit.intOf]; omega)
      · have g1 : ((e.v : Int) == (v : Int)) = false := by rw [beq_eq_false_iff_ne]; omega
        have g1' : ¬ ((e.v : Int) = (v : Int)) := by omega
        have hT := HTK.out
        rw [if_neg e1, set_same HER.out] at hT
        have HT2 := Lib.hid hT
        clear e1 hT
        go_wp2_with fail
        go_roundw
        case rel => exact ⟨k + 1, by omega, by go_num, by rw [HT2.out]; exact HLR.out, HGR.out, HLN.out⟩
        case measure => simp only [RowKit.intOf]; omega

end Go.Proofs.YtimcnhlcepemjaaGreatDoor
