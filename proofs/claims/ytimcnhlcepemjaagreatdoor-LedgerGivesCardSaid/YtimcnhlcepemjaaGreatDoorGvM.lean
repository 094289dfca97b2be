/- What is given is in proportion; a cut keeps it. A slice of fractions that is filled. -/
import Derived.Test.YtimcnhlcepemjaaGreatDoorAdM
namespace Go.Proofs.YtimcnhlcepemjaaGreatDoor
open Go.RowKit

/-- Block wb holds n fractions, of which the first k are told by f. -/
structure WasRow (w : World) (wb n k : Nat) (f : Nat → Nat × Nat) : Prop where
  ex : ∃ cur : Array Value, w.heap[wb]? = some (.cells cur 40 (0, 0)) ∧ cur.size = 2 * n ∧ (∀ (i : Nat) v, cur[i]? = some v → ∃ a m c, v = .slice a m c) ∧
    ∀ j, j < k → ∃ a m c b m' d, cur[2 * j]? = some (.slice a m c) ∧ cur[2 * j + 1]? = some (.slice b m' d) ∧ RA w a m c b m' d (f j)
theorem WasRow.lk {w w' : World} {wb n k : Nat} {f : Nat → Nat × Nat} (h : WasRow w wb n k f) (L : Lk w w') : WasRow w' wb n k f := by
  obtain ⟨cur, h1, h2, h3, h4⟩ := h.ex
  exact ⟨cur, L.keep _ _ _ _ h1, h2, h3, fun j hj => by obtain ⟨a, m, c, b, m', d, x, y, z⟩ := h4 j hj; exact ⟨a, m, c, b, m', d, x, y, z.lk L⟩⟩
theorem WasRow.noNum {w : World} {wb n k : Nat} {f : Nat → Nat × Nat} (h : WasRow w wb n k f) : NoNum w wb := by
  obtain ⟨cur, h1, h2, h3, h4⟩ := h.ex
  intro i x r
  rw [cell_of_row _ _ _ _ _ _ h1] at r
  obtain ⟨a, m, c, e⟩ := h3 _ _ r
  cases e
/-- A cell that may be written. -/
theorem WasRow.room {w : World} {wb n k : Nat} {f : Nat → Nat × Nat} (h : WasRow w wb n k f) {j : Nat} (hj : j < n) :
    ∃ u v, w.cell? ⟨wb, 2 * j, none⟩ = some u ∧ w.cell? ⟨wb, 2 * j + 1, none⟩ = some v ∧ w.frozen? ⟨wb, 2 * j, none⟩ = false ∧ w.frozen? ⟨wb, 2 * j + 1, none⟩ = false := by
  obtain ⟨cur, h1, h2, h3, h4⟩ := h.ex
  refine ⟨cur[2 * j]'(by omega), cur[2 * j + 1]'(by omega), ?_, ?_, frozen_of_row _ _ _ _ _ h1, frozen_of_row _ _ _ _ _ h1⟩
  · rw [cell_of_row _ _ _ _ _ _ h1]; exact Array.getElem?_eq_getElem _
  · rw [cell_of_row _ _ _ _ _ _ h1]; exact Array.getElem?_eq_getElem _
theorem WasRow.look {w : World} {wb n k : Nat} {f : Nat → Nat × Nat} (h : WasRow w wb n k f) {j : Nat} (hj : j < k) :
    ∃ a m c b m' d, w.cell? ⟨wb, 2 * j, none⟩ = some (.slice a m c) ∧ w.cell? ⟨wb, 2 * j + 1, none⟩ = some (.slice b m' d) ∧ RA w a m c b m' d (f j) := by
  obtain ⟨cur, h1, h2, h3, h4⟩ := h.ex
  obtain ⟨a, m, c, b, m', d, x, y, z⟩ := h4 j hj
  exact ⟨a, m, c, b, m', d, by rw [cell_of_row _ _ _ _ _ _ h1]; exact x, by rw [cell_of_row _ _ _ _ _ _ h1]; exact y, z⟩
theorem setW_by (w : World) (b i j : Nat) (u v : Value) : w.grownBy ((w.setCell ⟨b, i, none⟩ u).setCell ⟨b, j, none⟩ v) (some b) :=
  grownBy_trans (setCell_by' w b i u) (setCell_by' _ b j v)
theorem WasRow.ln {w : World} {wb n k : Nat} {f : Nat → Nat × Nat} (h : WasRow w wb n k f) (i j : Nat) (u v : Value) : Ln w ((w.setCell ⟨wb, i, none⟩ u).setCell ⟨wb, j, none⟩ v) :=
  (Tn.one (setW_by w wb i j u v) none).ln h.noNum (fun o h => by cases h)
theorem WasRow.put {w : World} {wb n k : Nat} {f : Nat → Nat × Nat} (h : WasRow w wb n k f) (hk : k < n) {a : Option Addr} {m c : Nat} {b : Option Addr} {m' d : Nat} (hra : RA w a m c b m' d (f k)) :
    WasRow ((w.setCell ⟨wb, 2 * k, none⟩ (.slice a m c)).setCell ⟨wb, 2 * k + 1, none⟩ (.slice b m' d)) wb n (k + 1) f := by
  have L := h.ln (2 * k) (2 * k + 1) (.slice a m c) (.slice b m' d)
  obtain ⟨cur, h1, h2, h3, h4⟩ := h.ex
  refine ⟨_, heap_setCell_same _ wb (2 * k + 1) _ _ _ (heap_setCell_same w wb (2 * k) _ _ _ h1), by simpa using h2, fun i v hv => ?_, fun j hj => ?_⟩
  · rw [Array.getElem?_setIfInBounds, Array.getElem?_setIfInBounds] at hv
    split at hv
    · split at hv
      · cases hv; exact ⟨_, _, _, rfl⟩
      · cases hv
    · split at hv
      · split at hv
        · cases hv; exact ⟨_, _, _, rfl⟩
        · cases hv
      · exact h3 i v hv
  · by_cases e : j = k
    · subst e
      refine ⟨a, m, c, b, m', d, ?_, ?_, hra.ln L⟩
      · rw [Array.getElem?_setIfInBounds, if_neg (by omega), Array.getElem?_setIfInBounds, if_pos rfl, if_pos (by omega)]
      · rw [Array.getElem?_setIfInBounds, if_pos rfl, if_pos (by rw [Array.size_setIfInBounds]; omega)]
    · obtain ⟨a', m2, c', b', m3, d', x, y, z⟩ := h4 j (by omega)
      refine ⟨a', m2, c', b', m3, d', ?_, ?_, z.ln L⟩
      · rw [Array.getElem?_setIfInBounds, if_neg (by omega), Array.getElem?_setIfInBounds, if_neg (by omega)]; exact x
      · rw [Array.getElem?_setIfInBounds, if_neg (by omega), Array.getElem?_setIfInBounds, if_neg (by omega)]; exact y
theorem Lk.grow {X w w' : World} {b : Nat} (h : Lk X w) (hb : X.heap.size ≤ b) (g : w.grownBy w' (some b)) : Lk X w' :=
  ⟨Nat.le_trans h.size g.size, fun B cur T fr r => by
    have hl := (Array.getElem?_eq_some_iff.1 r).1
    rw [g.block B (Nat.lt_of_lt_of_le hl h.size) (fun e => by cases e; omega)]
    exact h.keep _ _ _ _ r⟩
theorem Led.lnN {w w' : World} {b N : Nat} {M : Stakes} (h : Led w b N M) (L : Ln w w') (hb : w'.heap[b]? = w.heap[b]?) : Led w' b N M := by
  obtain ⟨D, h⟩ := h
  exact ⟨D, h.keptN L hb⟩
theorem rats_info : ∃ i, Tryz.prog.info? 40 = some i ∧ i.zero = some (.agg #[.slice none 0 0, .slice none 0 0]) ∧ i.size = 2 ∧ i.bytes = 48 := by
  have h : (Tryz.prog.info? 40).map (fun i => (i.zero, i.size, i.bytes)) = some (some (.agg #[.slice none 0 0, .slice none 0 0]), 2, 48) := by kernel_rfl
  cases hq : Tryz.prog.info? 40 with
  | none => rw [hq] at h; cases h
  | some i =>
    rw [hq] at h
    have h := Option.some.inj h
    exact ⟨i, rfl, (Prod.mk.inj h).1, (Prod.mk.inj (Prod.mk.inj h).2).1, (Prod.mk.inj (Prod.mk.inj h).2).2⟩
/-- 'make([]api.Rat, n)'. -/
theorem make_was (W : World) (n : Nat) (hn : n ≤ 1000) :
    ∃ row, (Instr.makeSlice 66 (.int .i64 (n : Int)) (.int .i64 (n : Int))).run Tryz.prog W = .ok (.slice (some ⟨W.heap.size, 0, none⟩) n n) (W.alloc (.cells row 40)) ∧ ∀ f, WasRow (W.alloc (.cells row 40)) W.heap.size n 0 f := by
  obtain ⟨i, h1, h2, h3, h4⟩ := rats_info
  have hr := run_make (P := Tryz.prog) W 66 40 i _ Tryz.underlying66 h1 h2 .i64 .i64 (n : Int) (n : Int) (by omega) (by omega) (by rw [h4]; omega) (by omega)
  simp only [Int.toNat_natCast, h3] at hr
  refine ⟨_, hr, fun f => ⟨_, heap_alloc_new _ _, by rw [size_madeCells, Nat.mul_comm], fun j v hv => ?_, fun j hj => absurd hj (by omega)⟩⟩
  unfold madeCells at hv
  rw [Array.getElem?_map] at hv
  cases hx : (Array.range (n * 2))[j]? with
  | none => rw [hx] at hv; cases hv
  | some x =>
    rw [hx] at hv
    have e := Option.some.inj hv
    have hs : (Value.agg #[.slice none 0 0, .slice none 0 0]).cells = #[.slice none 0 0, .slice none 0 0] := rfl
    rw [← e, hs]
    have h2 : x % 2 = 0 ∨ x % 2 = 1 := by omega
    show ∃ a m c, (#[Value.slice none 0 0, Value.slice none 0 0][x % 2]!) = _
    rcases h2 with h2 | h2 <;> rw [h2] <;> exact ⟨_, _, _, rfl⟩
theorem ix_was {n k : Nat} (wb : Nat) (hk : k < n) (W : World) : (Instr.indexAt 66 (.slice (some ⟨wb, 0, none⟩) n n) (.int .i64 (k : Int))).run Tryz.prog W = .ok (.pointer (some ⟨wb, 2 * k, none⟩)) W := by
  obtain ⟨i, h1, h2, h3, h4⟩ := rats_info
  have hr := run_sizeOf h1 W
  rw [h3] at hr
  simp only [Instr.indexAt, Sem.run_bind, run_underlying Tryz.underlying66, Result.andThen_ok, asIntOf, Sem.run_pure]
  have h1 : (0 : Int) ≤ (k : Int) ∧ (k : Int) < (n : Int) := ⟨by omega, by omega⟩
  simp [hk, hr, Addr.add, Nat.mul_comm]
  omega

theorem rofnat_q {a : Option Addr} {m c : Nat} {xs : List Nat} {t : Nat} {w : World} (ha : Sl w a m c xs) (hm : m ≤ 1000000) (ht : val xs = t) : Calls Tryz.prog 43 #[.slice a m c] w (NewQ w (t, 1)) := by
  rw [← ht]
  exact (rofnat_calls ha hm).mono fun _ _ h => h.q
theorem rquo_q {a1 b1 a2 b2 : Option Addr} {m1 n1 c1 d1 m2 n2 c2 d2 : Nat} {p q r : Nat × Nat} {w : World} (h1 : RA w a1 m1 c1 b1 n1 d1 p) (h2 : RA w a2 m2 c2 b2 n2 d2 q) (hp : sz p ≤ 100000) (hq : sz q ≤ 100000) (htz : TzTab w) (hz : dN q.1 q.2 ≠ 0) (hr : quoR p q = r) :
    Calls Tryz.prog 42 #[RatV a1 m1 c1 b1 n1 d1, RatV a2 m2 c2 b2 n2 d2] w (NewRE w (m1 + n2 + 8) (n1 + m2 + 4) (lim r.1) (lim r.2) 0) := by
  have l1 := h1.len; have l2 := h2.len
  have := rquo_ok h1.nu h1.de h2.nu h2.de (by omega) (by omega) (by omega) (by omega) htz (by rw [val_lim, val_lim]; exact hz)
  rw [val_lim, val_lim, val_lim, val_lim] at this
  rw [← hr]
  unfold quoR
  rw [if_neg hz]
  exact this
theorem lstake_as {w : World} {b N : Nat} {M : Stakes} (h : Led w b N M) {p : Nat} (hp : w.cell? ⟨p, 0, none⟩ = some (.map (some b))) {v d : Nat} (hv : v < B64) (hd : d < B64) (hsz : sz (got M v d).h ≤ 90000) (htz : TzTab w) {q : Nat × Nat} (hq : canQ (got M v d).h = q) :
    Calls Tryz.prog 23 #[.pointer (some ⟨p, 0, none⟩), .int .u64 (v : Int), .int .u64 (d : Int)] w (MQ w b N M q) := by rw [← hq]; exact lstake_calls h hp hv hd hsz htz
theorem lowed_as {w : World} {b N : Nat} {M : Stakes} (h : Led w b N M) {p : Nat} (hp : w.cell? ⟨p, 0, none⟩ = some (.map (some b))) {v d : Nat} (hv : v < B64) (hd : d < B64) (hsz : sz (got M v d).o ≤ 90000) (htz : TzTab w) {q : Nat × Nat} (hq : canQ (got M v d).o = q) :
    Calls Tryz.prog 25 #[.pointer (some ⟨p, 0, none⟩), .int .u64 (v : Int), .int .u64 (d : Int)] w (MQ w b N M q) := by rw [← hq]; exact lowed_calls h hp hv hd hsz htz
theorem rof_as {a b : Option Addr} {m n c d : Nat} {xs ys : List Nat} {w : World} (ha : Sl w a m c xs) (hb : Sl w b n d ys) (hm : m ≤ 1000000) (hn : n ≤ 1000000) (htz : TzTab w) {x y : Nat} (hx : val xs = x) (hy : val ys = y) (hy0 : y ≠ 0) {q : Nat × Nat} (hq : quoR (x, 1) (y, 1) = q) :
    Calls Tryz.prog 46 #[.slice a m c, .slice b n d] w (NewRE w m n (lim q.1) (lim q.2) 0) := by
  have e : (rN x y, rD x y) = q := by
    rw [← hq]
    refine Can.eq (can_r (by omega)) (can_quo _ _) ?_
    rw [tQ_r (by omega), tQ_quo, tQ_whole, tQ_whole]
  have h := rof_calls ha hb hm hn htz (by omega)
  rw [hx, hy] at h
  rw [← e]
  exact h
/-- All that LedgerGives asks. -/
structure GvAll (n : Nat) (M1 M2 : Stakes) (qs qf qO qS : Nat × Nat) (was : Nat → Nat × Nat) : Prop where
  ok1 : ∀ d s, M1 16 d = some s → OkB 500 500 s
  ok2 : ∀ d s, M2 16 d = some s → OkB 500 500 s
  sz1 : ∀ d, sz (got M1 16 d).o ≤ 500 ∧ sz (got M1 16 d).h ≤ 500
  sz2 : ∀ d, sz (got M2 16 d).o ≤ 500 ∧ sz (got M2 16 d).h ≤ 500
  o1 : ∀ ds, Dels M1 16 ds → ds.foldl (fun a d => uOwes a (got M1 16 d)) (0, 1) = qO
  s1 : ∀ ds, Dels M1 16 ds → ds.foldl (fun a d => uStakes a (got M1 16 d)) (0, 1) = qS
  eq1 : mulR qs qS = qO
  l17 : One17 M1 0 0
  m17 : One17 M2 0 0
  was_ : ∀ d, canQ (got M1 16 d).h = was d
  owed : ∀ d, d < n → canQ (got M1 16 d).o = mulR qs (was d)
  stake : ∀ d, d < n → canQ (got M2 16 d).h = mulR (was d) qf
  o2 : ∀ ds, Dels M2 16 ds → ds.foldl (fun a d => uOwes a (got M2 16 d)) (0, 1) = qO
  szO : sz qO ≤ 90000
  szS : sz qS ≤ 90000
  szs : sz qs ≤ 500
  szf : sz qf ≤ 500
  szw : ∀ d, sz (was d) ≤ 600
theorem sumTo_mul (c : Rat) (f : Nat → Rat) (n : Nat) : sumTo (fun d => c * f d) n = c * sumTo f n := by
  induction n with
  | zero => simp only [sumTo]; grind
  | succ n ih => simp only [sumTo]; rw [ih]; generalize sumTo f n = a; generalize f n = b; grind
theorem gv_all {n : Nat} {xs : List (List Nat)} {S t after : Nat} {qs : Nat × Nat} (h : OwI n 13 1 (heldM xs S t)) (hlen : xs.length = n) (hn : n ≤ 12) (ht : t < B64) (haf : after < B64) (hq : sz qs ≤ 7) :
    ∃ qO qS was, GvAll n (allM (heldM xs S t) 16 (fGive qs)) (allM (allM (heldM xs S t) 16 (fGive qs)) 16 (fCut (quoR (after, 1) (t, 1)))) qs (quoR (after, 1) (t, 1)) qO qS was := by
  have hnb : n ≤ B64 := by have := B64_eq; omega
  have i1 := h.okI.give qs hq
  have hf := sz_part ht haf
  have i2 := i1.cut _ hf
  have h17 : One17 (heldM xs S t) 0 0 := heldM_17 _ _ _
  have v0 : ∀ d, d < n → (heldM xs S t) 16 d = some (heldS (val (xs.getD d [])) S t) := fun d hd => by
    unfold heldM putM heldK
    rw [if_neg (fun h => absurd h.1 (by decide)), if_pos ⟨rfl, by omega⟩]
  have g1 : ∀ d, d < n → got (allM (heldM xs S t) 16 (fGive qs)) 16 d = fGive qs (heldS (val (xs.getD d [])) S t) := fun d hd => by
    unfold got; rw [allM_16, v0 d hd]; rfl
  have g2 : ∀ d, d < n → got (allM (allM (heldM xs S t) 16 (fGive qs)) 16 (fCut (quoR (after, 1) (t, 1)))) 16 d = fCut (quoR (after, 1) (t, 1)) (fGive qs (heldS (val (xs.getD d [])) S t)) := fun d hd => by
    unfold got; rw [allM_16, allM_16, v0 d hd]; rfl
  have o : ∀ d, d < n → tQ (got (allM (heldM xs S t) 16 (fGive qs)) 16 d).o = tQ qs * tQ (got (allM (heldM xs S t) 16 (fGive qs)) 16 d).h := fun d hd => by
    rw [g1 d hd]
    show tQ (addR (0, 0) (mulR (holdQ (val (xs.getD d [])) S t) qs)) = tQ qs * tQ (holdQ (val (xs.getD d [])) S t)
    rw [tQ_add, tQ_nil, tQ_mul]
    generalize tQ (holdQ (val (xs.getD d [])) S t) = x
    generalize tQ qs = y
    grind
  have z1 := i1.szg (by decide) (by decide)
  have z2 := i2.szg (by decide) (by decide)
  have zO : sz (owesR (allM (heldM xs S t) 16 (fGive qs)) 16 n) ≤ 90000 := by
    have := sz_fold (fun d => (got (allM (heldM xs S t) 16 (fGive qs)) 16 d).o) n 500 fun d _ => (z1 d).1
    have h2 : n * 501 ≤ 12 * 501 := Nat.mul_le_mul_right _ hn
    unfold owesR
    omega
  have zS : sz (stakesR (allM (heldM xs S t) 16 (fGive qs)) 16 n) ≤ 90000 := by
    have := sz_fold (fun d => (got (allM (heldM xs S t) 16 (fGive qs)) 16 d).h) n 500 fun d _ => (z1 d).2
    have h2 : n * 501 ≤ 12 * 501 := Nat.mul_le_mul_right _ hn
    unfold stakesR
    omega
  refine ⟨owesR (allM (heldM xs S t) 16 (fGive qs)) 16 n, stakesR (allM (heldM xs S t) 16 (fGive qs)) 16 n, fun d => canQ (got (allM (heldM xs S t) 16 (fGive qs)) 16 d).h,
    fun d s hs => (i1.ok d s hs).mono (by decide) (by decide), fun d s hs => (i2.ok d s hs).mono (by decide) (by decide), z1, z2, fun ds hd => owes_is hd i1.below hnb, fun ds hd => stakes_is hd i1.below hnb, ?_, h17.all _, (h17.all _).all _, fun d => rfl, fun d hd => ?_, fun d hd => ?_, fun ds hd => ?_, zO, zS, by omega, by omega, fun d => Nat.le_trans (sz_can _) (by have := (z1 d).2; omega)⟩
  · refine Can.eq (can_mul _ _) (can_fold _ _) ?_
    unfold owesR stakesR
    rw [tQ_mul, tQ_fold, tQ_fold, ← sumTo_mul]
    exact sumTo_congr fun d hd => (o d hd).symm
  · refine Can.eq (can_canQ _) (can_mul _ _) ?_
    rw [tQ_can, tQ_mul, tQ_can]
    exact o d hd
  · refine Can.eq (can_canQ _) (can_mul _ _) ?_
    rw [tQ_can, tQ_mul, tQ_can, g2 d hd, g1 d hd]
    exact tQ_mul _ _
  · rw [owes_is hd i2.below hnb]
    unfold owesR
    refine sumTo_can fun d hd => ?_
    rw [g2 d hd, g1 d hd]
    rfl

end Go.Proofs.YtimcnhlcepemjaaGreatDoor
