
/- The ledger's map, its keys and stakes; a validator's pairs, sorted. -/
import Derived.Test.YtimcnhlcepemjaaGreatDoorMA
import Derived.Test.YtimcnhlcepemjaaGreatDoorMC
import Derived.Test.YtimcnhlcepemjaaGreatDoorRat0
import Derived.Maps.RangeWalk
import Derived.Maps.OwnSet
import Derived.DeepKeys4
import Derived.Test.YtimcnhlcepemjaaGreatDoorSort
import Derived.Shelf.SlSortCmp.NoneTotal

/- How long the parts of reduced fractions are. -/
namespace Go.Proofs.YtimcnhlcepemjaaGreatDoor

/-- How many limbs a number takes. -/
def ln (x : Nat) : Nat := (lim x).length
theorem ln_le {x t : Nat} (h : x < B64 ^ t) : ln x ≤ t := digs_len_le B64_two h
theorem ln_lt (x : Nat) : x < B64 ^ ln x := digs_lt_pow B64_two x
theorem ln_mono {x y : Nat} (h : x ≤ y) : ln x ≤ ln y := digs_len_mono B64_two h
theorem ln_mul (x y : Nat) : ln (x * y) ≤ ln x + ln y :=
  ln_le (by rw [Nat.pow_add]; exact Nat.mul_lt_mul'' (ln_lt x) (ln_lt y))
theorem ln_add (x y : Nat) : ln (x + y) ≤ max (ln x) (ln y) + 1 := by
  have hx := ln_lt x
  have hy := ln_lt y
  have h1 : B64 ^ ln x ≤ B64 ^ max (ln x) (ln y) := Nat.pow_le_pow_right B64_pos (by omega)
  have h2 : B64 ^ ln y ≤ B64 ^ max (ln x) (ln y) := Nat.pow_le_pow_right B64_pos (by omega)
  refine ln_le ?_
  rw [Nat.pow_succ]
  have h3 : B64 ^ max (ln x) (ln y) * 2 ≤ B64 ^ max (ln x) (ln y) * B64 := Nat.mul_le_mul_left _ B64_two
  omega
/-- The length of a fraction. -/
def sz (p : Nat × Nat) : Nat := max 1 (max (ln p.1) (ln p.2))
theorem ln_zero : ln 0 = 0 := by unfold ln lim; rw [digs_zero]; rfl
theorem ln_one : ln 1 ≤ 1 := ln_le (by decide)
theorem ln_dN (p : Nat × Nat) : ln (dN p.1 p.2) ≤ sz p := by
  unfold dN sz
  split
  · rw [ln_zero]; omega
  · omega
theorem ln_dD (p : Nat × Nat) : ln (dD p.2) ≤ sz p := by
  unfold dD sz
  have := ln_one
  split <;> omega
theorem sz_of {X Y t : Nat} (h0 : 1 ≤ t) (h1 : ln X ≤ t) (h2 : ln Y ≤ t) : sz (rN X Y, rD X Y) ≤ t := by
  have a := Nat.le_trans (ln_mono (r_le X Y).1) h1
  have b := Nat.le_trans (ln_mono (r_le X Y).2) h2
  unfold sz
  simp only
  omega
theorem sz_pos (p : Nat × Nat) : 1 ≤ sz p := by unfold sz; omega
theorem sz_add (p q : Nat × Nat) : sz (addR p q) ≤ sz p + sz q + 1 := by
  have h1 := ln_dN p; have h2 := ln_dD p; have h3 := ln_dN q; have h4 := ln_dD q
  refine sz_of (by omega) ?_ ?_
  · have a := ln_mul (dN p.1 p.2) (dD q.2)
    have b := ln_mul (dN q.1 q.2) (dD p.2)
    have c := ln_add (dN p.1 p.2 * dD q.2) (dN q.1 q.2 * dD p.2)
    omega
  · have a := ln_mul (dD p.2) (dD q.2)
    omega
theorem sz_mul (p q : Nat × Nat) : sz (mulR p q) ≤ sz p + sz q := by
  have h1 := ln_dN p; have h2 := ln_dD p; have h3 := ln_dN q; have h4 := ln_dD q
  have h5 := sz_pos p
  refine sz_of (by omega) ?_ ?_
  · have a := ln_mul (dN p.1 p.2) (dN q.1 q.2)
    omega
  · have a := ln_mul (dD p.2) (dD q.2)
    omega
theorem sz_one : sz (0, 1) = 1 := by
  unfold sz
  have := ln_one
  simp only [ln_zero]
  omega
theorem sz_quo (p q : Nat × Nat) : sz (quoR p q) ≤ sz p + sz q := by
  have h1 := ln_dN p; have h2 := ln_dD p; have h3 := ln_dN q; have h4 := ln_dD q
  have h5 := sz_pos p
  unfold quoR
  split
  · rw [sz_one]; omega
  · refine sz_of (by omega) ?_ ?_
    · have a := ln_mul (dN p.1 p.2) (dD q.2)
      omega
    · have a := ln_mul (dD p.2) (dN q.1 q.2)
      omega

end Go.Proofs.YtimcnhlcepemjaaGreatDoor

/- The ledger's map: its keys, its elements, what it reads as; what a step that writes a map leaves as it was. -/
namespace Go.Proofs.YtimcnhlcepemjaaGreatDoor
open Go.RowKit Go.Maps

/-! All cells stay. -/
/-- What lies in cells stays; new blocks may have come; a map may have turned. -/
structure Lk (w w' : World) : Prop where
  size : w.heap.size ≤ w'.heap.size
  keep : ∀ (B : Nat) (cur : Array Value) (T : TypeId) (fr : Nat × Nat), w.heap[B]? = some (Obj.cells cur T fr) → w'.heap[B]? = some (Obj.cells cur T fr)
/-- Block b is a map. -/
def IsMapB (w : World) (b : Nat) : Prop := ∃ es c, w.heap[b]? = some (Obj.map es c)
theorem Lk.trans {a b c : World} (h : Lk a b) (k : Lk b c) : Lk a c := ⟨Nat.le_trans h.size k.size, fun B cur T fr r => k.keep B cur T fr (h.keep B cur T fr r)⟩
theorem Ext.lk {w w' : World} (h : Ext w w') : Lk w w' := ⟨h.size, fun B cur T fr r => by rw [h.block B (Array.getElem?_eq_some_iff.1 r).1]; exact r⟩
theorem IsMapB.lk {w w' : World} {b : Nat} (hb : IsMapB w b) (h : w.grownBy w' (some b)) : Lk w w' := ⟨h.size, fun B cur T fr r => by
  obtain ⟨es, c, hb⟩ := hb
  rw [h.block B (Array.getElem?_eq_some_iff.1 r).1 (fun e => by cases e; rw [hb] at r; cases r)]
  exact r⟩
theorem Lk.cell {w w' : World} (h : Lk w w') {p : Addr} {v : Value} (hc : w.cell? p = some v) : w'.cell? p = some v := by
  unfold World.cell? at hc ⊢
  cases hr : w.heap[p.block]? with
  | none => rw [hr] at hc; cases hc
  | some o =>
    rw [hr] at hc
    cases o with
    | cells cur T fr => rw [h.keep _ _ _ _ hr]; exact hc
    | _ => cases hc
theorem Sl.lk {w w' : World} {a : Option Addr} {n c : Nat} {xs : List Nat} (h : Sl w a n c xs) (hg : Lk w w') : Sl w' a n c xs := by
  refine ⟨h.len, h.cap, h.big, h.bd, ?_⟩
  rcases h.at_ with hn | ⟨b, off, rfl, hc⟩
  · exact .inl hn
  · exact .inr ⟨b, off, rfl, fun i hi => hg.cell (hc i hi)⟩
theorem rowK {w w' : World} {B : Nat} {cur : Array Value} {T : TypeId} {fr : Nat × Nat} (h : Lk w w') (r : w.heap[B]? = some (.cells cur T fr)) : w'.heap[B]? = some (.cells cur T fr) := h.keep _ _ _ _ r
theorem Ext.mx {a w w' : World} {b : Nat} (E : Ext a w) (hb : a.heap.size ≤ b) (g : w.grownBy w' (some b)) : Ext a w' :=
  Below.grown E g E.size (fun k hk => by cases hk; exact hb)
/-! Keys. -/
theorem laidOut : laidOutB Tryz.prog = true := by kernel_rfl
theorem rowPair : (85 : TypeId) < Tryz.prog.types.size := of_decide_eq_true (by kernel_rfl)
theorem cellsPair : Tryz.prog.cellsOf 85 = 2 := by kernel_rfl
theorem widePair : (match Tryz.prog.underlying 85 with | some (.array _ _) | some (.struct _) => true | _ => false) = true := by rw [Tryz.underlying85]
theorem keyAtPair : Tryz.prog.keyTypeAt 2 85 = true := by kernel_rfl
set_option maxRecDepth 100000 in
theorem lawPair : Keyed Tryz.prog 85 := Keyed.of_law (deep_law_laid laidOut (m := 2) (by decide) rowPair keyAtPair widePair)
theorem keyTypePair : Tryz.prog.keyType 85 = true := by kernel_rfl
abbrev PairV (v d : Nat) : Value := .agg #[.int .u64 (v : Int), .int .u64 (d : Int)]
/-- What a key reads as. -/
def kl (v d : Nat) : Lit := .string (keyBytes [.int .u64 (v : Int), .int .u64 (d : Int)])
theorem wf_u64 {x : Int} : (Lit.int .u64 x).wf = true ↔ 0 ≤ x ∧ x < 18446744073709551616 := by
  have h1 : IntKind.u64.min = 0 := by decide
  have h2 : IntKind.u64.max = 18446744073709551615 := by decide
  simp [Lit.wf, h1, h2]
  omega
theorem cellsU64 : Tryz.prog.cellsOf 31 = 1 := by kernel_rfl
theorem pos_ex {n k : Nat} (h : k < n) : ∃ m, n = m + 1 := ⟨n - 1, by omega⟩
/-- A struct of two numbers, as a key's type. -/
structure PairKey (P : Program) (K U : TypeId) : Prop where
  ex : ∃ f0 f1 : Field, P.underlying K = some (.struct #[f0, f1]) ∧ (#[f0, f1].all (·.name != "_")) = true ∧ f0.type = U ∧ f1.type = U ∧ f0.offset = 0 ∧ f1.offset = 1
  u : P.underlying U = some (.int .u64)
  ck : P.cellsOf K = 2
  cu : P.cellsOf U = 1
  kt : P.keyType K = true
  ts : ∃ m, P.types.size = m + 1
section
variable {P : Program} {K U : TypeId}
theorem PairKey.lits (h : PairKey P K U) (m : Nat) (c0 c1 : Value) : P.keyLits (m + 2) K [c0, c1] = (P.keyLits (m + 1) U [c0]).bind fun a => (P.keyLits (m + 1) U [c1]).map fun b => a ++ b := by
  obtain ⟨f0, f1, hu, hn, h0, h1, o0, o1⟩ := h.ex
  rw [Program.keyLits.eq_def]
  simp only [hu]
  rw [if_pos ⟨by rw [h.ck]; rfl, hn⟩]
  simp only [List.mapM_cons, List.mapM_nil, h0, h1, o0, o1, h.cu, List.drop_zero, List.take_succ_cons, List.take_zero, List.drop_succ_cons]
  cases P.keyLits (m + 1) U [c0] with
  | none => rfl
  | some a =>
    cases P.keyLits (m + 1) U [c1] with
    | none => rfl
    | some b => simp
theorem PairKey.one (h : PairKey P K U) (m : Nat) {x : Int} (hw : (Lit.int .u64 x).wf = true) : P.keyLits (m + 1) U [.int .u64 x] = some [.int .u64 x] := by
  simp [Program.keyLits, h.u, hw]
theorem PairKey.one_inv (h : PairKey P K U) {m : Nat} {v : Value} {l : List Lit} (e : P.keyLits (m + 1) U [v] = some l) : ∃ x, v = .int .u64 x ∧ (Lit.int .u64 x).wf = true := by
  cases v <;> simp [Program.keyLits, h.u] at e
  obtain ⟨⟨rfl, hw⟩, _⟩ := e
  exact ⟨_, rfl, hw⟩
theorem PairKey.key (h : PairKey P K U) {v d : Nat} (hv : v < B64) (hd : d < B64) : keyOf P K (PairV v d) = some (kl v d) := by
  obtain ⟨m, hm⟩ := h.ts
  obtain ⟨f0, f1, hu, -⟩ := h.ex
  have h1 : (Lit.int .u64 (v : Int)).wf = true := wf_u64.2 ⟨by omega, by have := B64_eq; omega⟩
  have h2 : (Lit.int .u64 (d : Int)).wf = true := wf_u64.2 ⟨by omega, by have := B64_eq; omega⟩
  have hf : (PairV v d).formed P K = true := by simp [Value.formed, hu, h.ck]
  have hl : P.keyLits (P.types.size + 1) K [.int .u64 (v : Int), .int .u64 (d : Int)] = some [.int .u64 (v : Int), .int .u64 (d : Int)] := by
    rw [hm, h.lits m, h.one m h1, h.one m h2]; rfl
  unfold keyOf
  rw [hu]
  simp only [h.kt, hf, Bool.and_self, if_true]
  rw [show (PairV v d).cells.toList = [.int .u64 (v : Int), .int .u64 (d : Int)] from rfl, hl]
  rfl
theorem PairKey.inv (h : PairKey P K U) {key : Value} {l : Lit} (e : keyOf P K key = some l) : ∃ v d : Nat, v < B64 ∧ d < B64 ∧ key = PairV v d ∧ l = kl v d := by
  obtain ⟨m, hm⟩ := h.ts
  obtain ⟨f0, f1, hu, -⟩ := h.ex
  have h0 := e
  unfold keyOf at e
  rw [hu] at e
  simp only at e
  by_cases hc : (P.keyType K && key.formed P K) = true
  · rw [if_pos hc] at e
    have hf : key.formed P K = true := by
      rw [h.kt] at hc; simpa using hc
    have : ∃ c0 c1, key = .agg #[c0, c1] := by
      cases key with
      | agg cs =>
        simp [Value.formed, hu, h.ck] at hf
        obtain ⟨c⟩ := cs
        match c, hf with
        | [a, b], _ => exact ⟨a, b, rfl⟩
      | _ => simp [Value.formed, hu] at hf
    obtain ⟨c0, c1, rfl⟩ := this
    rw [show (Value.agg #[c0, c1]).cells.toList = [c0, c1] from rfl, hm, h.lits m] at e
    cases e0 : P.keyLits (m + 1) U [c0] with
    | none => rw [e0] at e; cases e
    | some l0 =>
      cases e1 : P.keyLits (m + 1) U [c1] with
      | none => rw [e0, e1] at e; cases e
      | some l1 =>
        obtain ⟨x, rfl, hx⟩ := h.one_inv e0
        obtain ⟨y, rfl, hy⟩ := h.one_inv e1
        have hx := wf_u64.1 hx
        have hy := wf_u64.1 hy
        have b := B64_eq
        obtain ⟨v, rfl⟩ : ∃ v : Nat, x = (v : Int) := ⟨x.toNat, by omega⟩
        obtain ⟨d, rfl⟩ : ∃ d : Nat, y = (d : Int) := ⟨y.toNat, by omega⟩
        have hk := h.key (v := v) (d := d) (by omega) (by omega)
        rw [hk] at h0
        exact ⟨v, d, by omega, by omega, rfl, (Option.some.inj h0).symm⟩
  · rw [if_neg hc] at e; cases e
end
set_option maxRecDepth 100000 in
theorem pairKey : PairKey Tryz.prog 85 31 :=
  ⟨⟨_, _, Tryz.underlying85, by kernel_rfl, rfl, rfl, rfl, rfl⟩, Tryz.underlying31, cellsPair, cellsU64, keyTypePair, pos_ex rowPair⟩
theorem keyOf_pair {v d : Nat} (hv : v < B64) (hd : d < B64) : keyOf Tryz.prog 85 (PairV v d) = some (kl v d) := pairKey.key hv hd
theorem keyOf_pair_inv {key : Value} {l : Lit} (h : keyOf Tryz.prog 85 key = some l) : ∃ v d : Nat, v < B64 ∧ d < B64 ∧ key = PairV v d ∧ l = kl v d := pairKey.inv h
theorem kl_inj {v d v' d' : Nat} (hv : v < B64) (hd : d < B64) (hv' : v' < B64) (hd' : d' < B64) (h : kl v d = kl v' d') : v = v' ∧ d = d' := by
  have h1 := keyOf_pair hv hd
  have h2 := keyOf_pair hv' hd'
  rw [h] at h1
  have := lawPair.inj h1 h2
  simp at this
  omega
theorem kl_key {v d : Nat} (hv : v < B64) (hd : d < B64) : WideAt.IsKeyLit (kl v d) := lawPair.key (keyOf_pair hv hd)

/-! Elements. -/
/-- What a stake says: what it has, what is owed, periods, cuts. -/
structure Stk where
  h : Nat × Nat
  o : Nat × Nat
  p : Int
  k : Int
def stk0 : Stk := ⟨(0, 0), (0, 0), 0, 0⟩
abbrev StV (a1 : Option Addr) (m1 c1 : Nat) (b1 : Option Addr) (n1 d1 : Nat) (a2 : Option Addr) (m2 c2 : Nat) (b2 : Option Addr) (n2 d2 : Nat) (p k : Int) : Value :=
  .agg #[.slice a1 m1 c1, .slice b1 n1 d1, .slice a2 m2 c2, .slice b2 n2 d2, .int .i64 p, .int .i64 k]
/-- The six cells of a stake that reads as s. -/
structure St6 (w : World) (a1 : Option Addr) (m1 c1 : Nat) (b1 : Option Addr) (n1 d1 : Nat) (a2 : Option Addr) (m2 c2 : Nat) (b2 : Option Addr) (n2 d2 : Nat) (s : Stk) : Prop where
  s1 : Sl w a1 m1 c1 (lim s.h.1)
  s2 : Sl w b1 n1 d1 (lim s.h.2)
  s3 : Sl w a2 m2 c2 (lim s.o.1)
  s4 : Sl w b2 n2 d2 (lim s.o.2)
theorem St6.lk {w w' : World} {a1 : Option Addr} {m1 c1 : Nat} {b1 : Option Addr} {n1 d1 : Nat} {a2 : Option Addr} {m2 c2 : Nat} {b2 : Option Addr} {n2 d2 : Nat} {s : Stk} (h : St6 w a1 m1 c1 b1 n1 d1 a2 m2 c2 b2 n2 d2 s) (L : Lk w w') : St6 w' a1 m1 c1 b1 n1 d1 a2 m2 c2 b2 n2 d2 s :=
  ⟨h.s1.lk L, h.s2.lk L, h.s3.lk L, h.s4.lk L⟩
/-- A stake's value. -/
def StAt (w : World) (v : Value) (s : Stk) : Prop :=
  ∃ a1 m1 c1 b1 n1 d1 a2 m2 c2 b2 n2 d2, v = StV a1 m1 c1 b1 n1 d1 a2 m2 c2 b2 n2 d2 s.p s.k ∧ St6 w a1 m1 c1 b1 n1 d1 a2 m2 c2 b2 n2 d2 s
theorem StAt.lk {w w' : World} {v : Value} {s : Stk} (h : StAt w v s) (L : Lk w w') : StAt w' v s := by
  obtain ⟨a1, m1, c1, b1, n1, d1, a2, m2, c2, b2, n2, d2, rfl, h⟩ := h
  exact ⟨a1, m1, c1, b1, n1, d1, a2, m2, c2, b2, n2, d2, rfl, h.lk L⟩
abbrev stkZ : Value := StV none 0 0 none 0 0 none 0 0 none 0 0 0 0
theorem stAt_zero (w : World) : StAt w stkZ stk0 := ⟨none, 0, 0, none, 0, 0, none, 0, 0, none, 0, 0, rfl, Sl.nil w, Sl.nil w, Sl.nil w, Sl.nil w⟩
theorem zeroStk (w : World) : (zeroValue 78).run Tryz.prog w = .ok stkZ w := by kernel_rfl

/-- How an element reads: as itself. -/
abbrev RV : Value → Option (DataW Value × List MemPlace) := fun v => some (.held v, [])
/-- A map as numbers: what is held at a validator and a delegator. -/
abbrev Stakes := Nat → Nat → Option Stk

/-- Block b is the ledger's map; it reads as M, and holds at most N stakes. -/
structure LedD (w : World) (b N : Nat) (M : Stakes) (D : DataW Value) : Prop where
  own : w.ownsMap Tryz.prog 85 RV b N D
  has : ∀ v d, v < B64 → d < B64 → Maps.has D (kl v d) = (M v d).isSome
  at_ : ∀ v d s, v < B64 → d < B64 → M v d = some s → ∃ val, (∀ z, D.atKey (kl v d) z = .held val) ∧ StAt w val s
def Led (w : World) (b N : Nat) (M : Stakes) : Prop := ∃ D, LedD w b N M D
theorem LedD.isMapB {w : World} {b N : Nat} {M : Stakes} {D : DataW Value} (h : LedD w b N M D) : IsMapB w b := by
  obtain ⟨es, c, hb, _⟩ := h.own
  exact ⟨es, c, hb⟩
theorem LedD.kept {w w' : World} {b N : Nat} {M : Stakes} {D : DataW Value} (h : LedD w b N M D) (L : Lk w w') (hb : w'.heap[b]? = w.heap[b]?) : LedD w' b N M D := by
  obtain ⟨es, c, h1, h2⟩ := h.own
  refine ⟨⟨es, c, by rw [hb]; exact h1, h2⟩, h.has, fun v d s hv hd hs => ?_⟩
  obtain ⟨val, h1, h2⟩ := h.at_ v d s hv hd hs
  exact ⟨val, h1, h2.lk L⟩
theorem LedD.old {w w' : World} {b N : Nat} {M : Stakes} {D : DataW Value} (h : LedD w b N M D) (E : Ext w w') : LedD w' b N M D :=
  h.kept E.lk (E.block b h.own.lt)
theorem Led.old {w w' : World} {b N : Nat} {M : Stakes} (h : Led w b N M) (E : Ext w w') : Led w' b N M := by
  obtain ⟨D, h⟩ := h; exact ⟨D, h.old E⟩
theorem Led.isMapB {w : World} {b N : Nat} {M : Stakes} (h : Led w b N M) : IsMapB w b := by obtain ⟨D, h⟩ := h; exact h.isMapB
theorem Led.lt {w : World} {b N : Nat} {M : Stakes} (h : Led w b N M) : b < w.heap.size := by obtain ⟨D, h⟩ := h; exact h.own.lt
/-- What is held, or nothing. -/
def got (M : Stakes) (v d : Nat) : Stk := (M v d).getD stk0
theorem LedD.look {w : World} {b N : Nat} {M : Stakes} {D : DataW Value} (h : LedD w b N M D) {v d : Nat} (hv : v < B64) (hd : d < B64) {val : Value} (hat : D.atKey (kl v d) (.held stkZ) = .held val) : StAt w val (got M v d) := by
  unfold got
  cases hm : M v d with
  | none =>
    have := h.has v d hv hd
    rw [hm] at this
    rw [Maps.atKey_of_not_has this] at hat
    cases hat
    exact stAt_zero w
  | some s =>
    obtain ⟨val', h1, h2⟩ := h.at_ v d s hv hd hm
    rw [h1] at hat
    cases hat
    exact h2
/-- A stake is set. -/
def putM (M : Stakes) (v d : Nat) (s : Stk) : Stakes := fun v' d' => if v' = v ∧ d' = d then some s else M v' d'
def delM (M : Stakes) (v d : Nat) : Stakes := fun v' d' => if v' = v ∧ d' = d then none else M v' d'
theorem LedD.put {w w' : World} {b N N' n' : Nat} {M : Stakes} {D : DataW Value} (h : LedD w b N M D) {v d : Nat} (hv : v < B64) (hd : d < B64) {val : Value} {s : Stk} (hs : StAt w val s)
    (own : w'.ownsMap Tryz.prog 85 RV b n' (D.put (kl v d) (.held val))) (g : w.grownBy w' (some b)) (hN : (if (M v d).isSome then N else N + 1) ≤ N') : LedD w' b N' (putM M v d s) (D.put (kl v d) (.held val)) := by
  have L : Lk w w' := h.isMapB.lk g
  have hmap := h.own.isMap
  have hne : ∀ v' d', v' < B64 → d' < B64 → ¬(v' = v ∧ d' = d) → kl v' d' ≠ kl v d := fun v' d' h1 h2 h3 e => h3 (kl_inj h1 h2 hv hd e)
  refine ⟨?_, fun v' d' h1 h2 => ?_, fun v' d' s' h1 h2 h3 => ?_⟩
  · have hsz := Maps.size_put (k := kl v d) (h.own.tidy lawPair) (.held val)
    rw [h.has v d hv hd] at hsz
    have hle := h.own.size_le
    obtain ⟨es, c, hb, F, _, hD⟩ := own
    refine ⟨es, c, hb, F, ?_, hD⟩
    have e1 : Maps.size (D.put (kl v d) (.held val)) = es.size := by rw [hD]; simp [Maps.size, length_sorted]
    rw [← e1, hsz]
    split at hN <;> simp_all <;> omega
  · unfold putM
    split
    · rename_i e
      obtain ⟨rfl, rfl⟩ := e
      rw [Maps.has_put_same hmap (kl_key hv hd)]
      rfl
    · rename_i e
      rw [Maps.has_put_other (hne v' d' h1 h2 e)]
      exact h.has v' d' h1 h2
  · unfold putM at h3
    split at h3
    · rename_i e
      obtain ⟨rfl, rfl⟩ := e
      cases h3
      exact ⟨val, fun z => Maps.atKey_put_same hmap (kl_key hv hd) _ z, hs.lk L⟩
    · rename_i e
      obtain ⟨val', h4, h5⟩ := h.at_ v' d' s' h1 h2 h3
      exact ⟨val', fun z => by rw [Maps.atKey_put_other (hne v' d' h1 h2 e)]; exact h4 z, h5.lk L⟩
theorem LedD.del {w w' : World} {b N n' : Nat} {M : Stakes} {D : DataW Value} (h : LedD w b N M D) {v d : Nat} (hv : v < B64) (hd : d < B64)
    (own : w'.ownsMap Tryz.prog 85 RV b n' (D.del (kl v d))) (g : w.grownBy w' (some b)) : LedD w' b N (delM M v d) (D.del (kl v d)) := by
  have L : Lk w w' := h.isMapB.lk g
  have hne : ∀ v' d', v' < B64 → d' < B64 → ¬(v' = v ∧ d' = d) → kl v' d' ≠ kl v d := fun v' d' h1 h2 h3 e => h3 (kl_inj h1 h2 hv hd e)
  refine ⟨?_, fun v' d' h1 h2 => ?_, fun v' d' s' h1 h2 h3 => ?_⟩
  · have hsz := Maps.size_del (k := kl v d) (h.own.tidy lawPair)
    have hle := h.own.size_le
    obtain ⟨es, c, hb, F, _, hD⟩ := own
    refine ⟨es, c, hb, F, ?_, hD⟩
    have e1 : Maps.size (D.del (kl v d)) = es.size := by rw [hD]; simp [Maps.size, length_sorted]
    rw [← e1]
    omega
  · unfold delM
    split
    · rename_i e
      obtain ⟨rfl, rfl⟩ := e
      rw [Maps.has_del_same]
      rfl
    · rename_i e
      rw [Maps.has_del_other (hne v' d' h1 h2 e)]
      exact h.has v' d' h1 h2
  · unfold delM at h3
    split at h3
    · cases h3
    · rename_i e
      obtain ⟨val', h4, h5⟩ := h.at_ v' d' s' h1 h2 h3
      exact ⟨val', fun z => by rw [Maps.atKey_del_other (hne v' d' h1 h2 e)]; exact h4 z, h5.lk L⟩
theorem led_new {w' : World} {b : Nat} (own : w'.ownsMap Tryz.prog 85 RV b 0 (.map [])) : Led w' b 0 (fun _ _ => none) :=
  ⟨_, own, fun v d _ _ => rfl, fun v d s _ _ h => by cases h⟩
end Go.Proofs.YtimcnhlcepemjaaGreatDoor

/- The ledger's pairs, sorted: slices.SortFunc over them. -/
namespace Go.Proofs.YtimcnhlcepemjaaGreatDoor
open Go.RowKit

abbrev encP (x : Nat × Nat) : List Value := [.int .u64 (x.1 : Int), .int .u64 (x.2 : Int)]
def cfP (x y : Nat × Nat) : Int := if x.2 < y.2 then -1 else 1
theorem ltP (x y : Nat × Nat) : ltOf cfP x y = decide (x.2 < y.2) := by
  unfold ltOf cfP
  by_cases h : x.2 < y.2 <;> simp [h]
theorem swoP : Sort.SWO (ltOf cfP) where
  irrefl x := by rw [ltP]; simp
  trans x y z h1 h2 := by rw [ltP] at *; simp at *; omega
  ntrans x y z h1 h2 := by rw [ltP] at *; simp at *; omega

set_option maxHeartbeats 1000000 in
set_option maxRecDepth 100000 in
theorem ofcmp_calls (x y : Nat × Nat) (W : World) :
    Calls Tryz.prog 130 #[.agg #[.int .u64 (x.1 : Int), .int .u64 (x.2 : Int)], .agg #[.int .u64 (y.1 : Int), .int .u64 (y.2 : Int)]] W fun e w' => e = .returned (.int .i64 (cfP x y)) ∧ ∃ q os', w' = Sort.grow (W.drewN q) os' := by
  unfold cfP
  obtain ⟨a, b⟩ := x
  obtain ⟨c, d⟩ := y
  simp only
  by_cases h : b < d
  · rw [if_pos h]
    have hlt : (b : Int) < (d : Int) := by omega
    clear h
    go_enter Tryz.func130, Tryz.ntmps130
    go_wp2_with fail
    go_ret
    exact ⟨rfl, 0, _, by rw [Sort.alloc_eq_grow, Sort.alloc_eq_grow, Sort.grow_grow]; rfl⟩
  · rw [if_neg h]
    have hlt : ¬ (b : Int) < (d : Int) := by omega
    clear h
    go_enter Tryz.func130, Tryz.ntmps130
    go_wp2_with fail
    go_ret
    exact ⟨rfl, 0, _, by rw [Sort.alloc_eq_grow, Sort.alloc_eq_grow, Sort.grow_grow]; rfl⟩

/-! The row. -/
def pairsOf (v : Nat) (ss : List Nat) : List (Nat × Nat) := ss.map fun d => (v, d)
def pairCells (v : Nat) (ss : List Nat) : List Value := ss.flatMap fun d => encP (v, d)
theorem pairCells_get (v : Nat) : ∀ (ss : List Nat) (j : Nat), j < ss.length * 2 → (pairCells v ss)[j]? = some ((encP (v, ss[j / 2]!))[j % 2]!)
  | [], j, h => by simp at h
  | d :: ss, 0, _ => by simp [pairCells]
  | d :: ss, 1, _ => by simp [pairCells]
  | d :: ss, j + 2, h => by
    have ih := pairCells_get v ss j (by simp at h; omega)
    have e1 : (j + 2) / 2 = j / 2 + 1 := by omega
    have e2 : (j + 2) % 2 = j % 2 := by omega
    rw [e1, e2]
    unfold pairCells at ih ⊢
    simpa using ih
/-- A slice of the pairs of one validator. -/
structure PSl (w : World) (a : Option Addr) (n c v : Nat) (ds : List Nat) : Prop where
  len : ds.length = n
  cap : n ≤ c
  at_ : n = 0 ∨ ∃ g, a = some ⟨g, 0, none⟩ ∧ ∀ (i d : Nat), ds[i]? = some d → w.cell? ⟨g, i * 2, none⟩ = some (.int .u64 (v : Int)) ∧ w.cell? ⟨g, i * 2 + 1, none⟩ = some (.int .u64 (d : Int))
/-- The delegators of a validator, rising. -/
def Dels (M : Stakes) (v : Nat) (ds : List Nat) : Prop := ds.Pairwise (· < ·) ∧ ∀ d, d ∈ ds ↔ d < B64 ∧ (M v d).isSome = true
theorem grownBy_sortK {w : World} {g m : Nat} {os : Array Obj} (d : Array (Nat × Nat)) : w.grownBy (sortWorldK encP 2 w g 0 m d os) (some g) := by
  refine ⟨rfl, rfl, rfl, by rw [show (sortWorldK encP 2 w g 0 m d os).heap.size = _ from Sort.size_grow _ _]; simp [Sort.putRowK, Sort.putRow, Sort.mapBlock, Sort.ahead], fun k hk hne => ?_⟩
  have hg : g ≠ k := fun e => hne (by rw [e])
  have h1 : k < (Sort.putRowK encP 2 (Sort.ahead w m) g 0 d).heap.size := by simpa [Sort.putRowK, Sort.putRow, Sort.mapBlock, Sort.ahead] using hk
  unfold sortWorldK
  rw [Sort.heap_grow_old _ _ h1]
  simp [Sort.putRowK, Sort.putRow, Sort.mapBlock, Sort.ahead, Array.getElem?_modify, hg]

set_option maxHeartbeats 1000000 in
set_option maxRecDepth 100000 in
/-- The pairs that were collected, sorted. -/
theorem sortPairs_calls {w : World} {g cap v : Nat} {cur : Array Value} {T : TypeId} {ss : List Nat} (hb : w.heap[g]? = some (.cells cur T (0, 0))) (hc : cur.toList.take (ss.length * 2) = pairCells v ss)
    (hcap : ss.length ≤ cap) (hlen : ss.length ≤ 1000000) (hnd : ss.Nodup) (M : Stakes) (hmem : ∀ d, d ∈ ss ↔ d < B64 ∧ (M v d).isSome = true) :
    Calls Tryz.prog 129 #[.slice (some ⟨g, 0, none⟩) ss.length cap, .func (.func 130) #[] #[]] w fun e w' =>
      e = .returned (.tuple #[]) ∧ (∃ ds, PSl w' (some ⟨g, 0, none⟩) ss.length cap v ds ∧ Dels M v ds) ∧ w.grownBy w' (some g) := by
  have eg : ∀ args w, (callFunc 130 args).run Tryz.prog w = .ok (.enter 130 args) w := enters_of Tryz.func130 (by kernel_rfl) rfl
  have hsz : (pairsOf v ss).toArray.size = ss.length := by simp [pairsOf]
  have hH : Sort.HoldsK encP 2 w g 0 (pairsOf v ss).toArray := by
    intro j hj
    rw [show (Sort.flatK encP 2 (pairsOf v ss).toArray).size = _ from Sort.size_flatK _ _ _, hsz] at hj
    have e1 := pairCells_get v ss j hj
    rw [← hc, List.getElem?_take_of_lt hj] at e1
    have hd : j / 2 < ss.length := by omega
    refine ⟨?_, ?_⟩
    · rw [cell_of_row _ _ _ _ _ _ hb, Sort.get_flatK _ _ _ _ (by rw [hsz]; exact hj)]
      rw [show (0 : Nat) + j = j by omega, ← Array.getElem?_toList, e1]
      have e2 : (pairsOf v ss).toArray[j / 2]! = (v, ss[j / 2]!) := by
        simp [pairsOf, hd]
      rw [e2]
      rfl
    · exact frozen_of_row _ _ _ _ _ hb
  have hcon := AnyQ.slices_SortFunc Tryz.sortPair 2 (fun w => by kernel_rfl) (fun w => by kernel_rfl) encP (fun _ => rfl) (fun x v hv => by simp [encP] at hv; rcases hv with rfl | rfl <;> rfl) cfP swoP 130 #[] g 0 cap (pairsOf v ss).toArray w eg
    (fun _ _ _ _ x y => ofcmp_calls x y _) hH (Array.getElem?_eq_some_iff.1 hb).1 (by rw [hsz]; omega)
  rw [hsz] at hcon
  refine Calls.mono hcon ?_
  rintro e w' ⟨rfl, d', m, os, hp, hs, rfl⟩
  refine ⟨rfl, ?_, grownBy_sortK d'⟩
  have hsz' : d'.size = ss.length := by rw [hp.1, hsz]
  have hperm : d'.toList.Perm (pairsOf v ss) := by
    have := hp.2.2
    rw [show d'.extract 0 ss.length = d' by rw [← hsz']; simp, show (pairsOf v ss).toArray.extract 0 ss.length = (pairsOf v ss).toArray by rw [← hsz]; simp] at this
    simpa using this
  have hK := holdsK_sortWorldK_c encP 2 w g 0 _ d' m os hH (Array.getElem?_eq_some_iff.1 hb).1 (by rw [hsz', hsz])
  have hfst : ∀ x ∈ d'.toList, x.1 = v := by
    intro x hx
    have := hperm.mem_iff.1 hx
    unfold pairsOf at this
    rw [List.mem_map] at this
    obtain ⟨d, _, rfl⟩ := this
    rfl
  have hsnd : (d'.toList.map (·.2)).Perm ss := by
    have := hperm.map (·.2)
    simpa [pairsOf, List.map_map, Function.comp_def] using this
  refine ⟨d'.toList.map (·.2), ⟨by simp [hsz'], hcap, .inr ⟨g, rfl, fun i d hi => ?_⟩⟩, ?_, fun d => ?_⟩
  · rw [List.getElem?_map] at hi
    cases hx : d'.toList[i]? with
    | none => rw [hx] at hi; cases hi
    | some x =>
      rw [hx] at hi
      simp only [Option.map_some, Option.some.injEq] at hi
      have hil : i < d'.size := by
        have := (List.getElem?_eq_some_iff.1 hx).1
        simpa using this
      have h1 := (hK.cell hil (by decide : 0 < 2)).1
      have h2 := (hK.cell hil (by decide : 1 < 2)).1
      have hdi : d'[i]! = x := by
        rw [Array.getElem?_toList, Array.getElem?_eq_getElem hil] at hx
        rw [getElem!_pos d' i hil]
        exact Option.some.inj hx
      rw [hdi] at h1 h2
      have hv := hfst x (List.mem_of_getElem? hx)
      rw [show 0 + i * 2 + 0 = i * 2 by omega] at h1
      rw [show 0 + i * 2 + 1 = i * 2 + 1 by omega] at h2
      rw [h1, h2, ← hi, ← hv]
      exact ⟨rfl, rfl⟩
  · have hnd' := hsnd.nodup_iff.2 hnd
    rw [List.pairwise_iff_getElem]
    intro i j hi hj hij
    have hi' : i < d'.size := by simpa using hi
    have hj' : j < d'.size := by simpa using hj
    have hle := hs i j (Nat.zero_le _) hij (by rw [← hsz']; exact hj')
    rw [ltP, decide_eq_false_iff_not] at hle
    simp only [List.getElem_map, Array.getElem_toList]
    have e1 : d'[i]! = d'[i] := getElem!_pos d' i hi'
    have e2 : d'[j]! = d'[j] := getElem!_pos d' j hj'
    rw [e1, e2] at hle
    have hne : (d'.toList.map (·.2))[i] ≠ (d'.toList.map (·.2))[j] := fun e => by
      have := (List.getElem_inj hnd').1 e
      omega
    simp only [List.getElem_map, Array.getElem_toList] at hne
    omega
  · rw [hsnd.mem_iff]
    exact hmem d

end Go.Proofs.YtimcnhlcepemjaaGreatDoor

/- ledger.Ledger.of: the pairs of a validator, rising by delegator. -/
namespace Go.Proofs.YtimcnhlcepemjaaGreatDoor
open Go.RowKit

theorem cell_two_new (w : World) (x y : Value) (t : TypeId) : ∀ (j : Nat) (u : Value), [x, y][j]? = some u → (w.alloc (.cells #[x, y] t)).cell? ((⟨w.heap.size, 0, none⟩ : Addr).add j) = some u := by
  intro j u hj
  match j, hj with
  | 0, hj => simp at hj; subst hj; simp [Addr.add]
  | 1, hj => simp at hj; subst hj; simp [Addr.add]
  | (j + 2), hj => simp at hj
theorem infoPair : (Tryz.prog.info? 85).map (fun i => (i.zero, i.size, i.bytes)) = some (some (.agg #[.int .u64 0, .int .u64 0]), 2, 16) := by kernel_rfl
/-- What was collected so far. -/
structure Coll (M : Stakes) (v : Nat) (left : Lit → Bool) (ss : List Nat) : Prop where
  nd : ss.Nodup
  mem : ∀ d, d ∈ ss ↔ d < B64 ∧ (M v d).isSome = true ∧ left (kl v d) = false
theorem Coll.start {w : World} {b N v : Nat} {M : Stakes} {D : DataW Value} (h : LedD w b N M D) (hv : v < B64) : Coll M v (Maps.has D) [] := by
  refine ⟨List.nodup_nil, fun d => ⟨fun h => by simp at h, fun ⟨h1, h2, h3⟩ => ?_⟩⟩
  rw [h.has v d hv h1, h2] at h3
  cases h3
theorem Coll.other {M : Stakes} {v v' d : Nat} {left : Lit → Bool} {ss : List Nat} (h : Coll M v left ss) (hv : v < B64) (hv' : v' < B64) (hd : d < B64) (hne : v' ≠ v) : Coll M v (fun z => left z && !z.sameKey (kl v' d)) ss := by
  refine ⟨h.nd, fun d' => ?_⟩
  rw [h.mem d']
  constructor
  · rintro ⟨h1, h2, h3⟩
    exact ⟨h1, h2, by simp [h3]⟩
  · rintro ⟨h1, h2, h3⟩
    refine ⟨h1, h2, ?_⟩
    rw [Maps.sameKey_ne (fun e => hne (kl_inj hv h1 hv' hd e).1.symm)] at h3
    simpa using h3
theorem Coll.step {M : Stakes} {v d : Nat} {left : Lit → Bool} {ss : List Nat} (h : Coll M v left ss) (hv : v < B64) (hd : d < B64) (hl : left (kl v d) = true) (hs : (M v d).isSome = true) : Coll M v (fun z => left z && !z.sameKey (kl v d)) (ss ++ [d]) := by
  have hn : d ∉ ss := fun hm => by
    have := ((h.mem d).1 hm).2.2
    rw [hl] at this
    cases this
  refine ⟨?_, fun d' => ?_⟩
  · rw [List.nodup_append]
    refine ⟨h.nd, by simp, fun a ha b hb e => ?_⟩
    simp at hb
    rw [e, hb] at ha
    exact hn ha
  · rw [List.mem_append, h.mem d', List.mem_singleton]
    constructor
    · rintro (⟨h1, h2, h3⟩ | rfl)
      · exact ⟨h1, h2, by simp [h3]⟩
      · exact ⟨hd, hs, by simp [WideAt.sameKey_self (kl_key hv hd)]⟩
    · rintro ⟨h1, h2, h3⟩
      by_cases e : d' = d
      · exact .inr e
      · refine .inl ⟨h1, h2, ?_⟩
        rw [Maps.sameKey_ne (fun k => e (kl_inj hv h1 hv hd k).2)] at h3
        simpa using h3
/-- The pairs of a validator, rising. -/
def NewPs (w : World) (M : Stakes) (N v : Nat) (e : Ending) (w' : World) : Prop :=
  ∃ a n c ds, e = .returned (.slice a n c) ∧ PSl w' a n c v ds ∧ Dels M v ds ∧ n ≤ N ∧ Ext w w'
def OfRel (w : World) (b N v : Nat) (M : Stakes) (D : DataW Value) (sv : Value) (wr : World) : Prop :=
  ∃ (left : Lit → Bool) (cnt : Nat) (ss : List Nat), wr.ranges Tryz.prog 85 RV b w.heap.size N D left cnt ∧ ss.length + cnt ≤ Maps.size D ∧
    wr.ownsRow w.heap.size 85 2 sv ss.length (pairCells v ss) ∧ Coll M v left ss ∧ Ext w wr
theorem ownRow_ne_iter {w : World} {b r n : Nat} {D : DataW Value} {left : Lit → Bool} {cnt base : Nat} {e : TypeId} {size : Nat} {v : Value} {m : Nat} {xs : List Value}
    (h : w.ownsRow base e size v m xs) (hr : w.ranges Tryz.prog 85 RV b r n D left cnt) : some r ≠ v.ownBlock := by
  obtain ⟨_, _, _, _, _, _, _, _, _, hit, _⟩ := hr
  rcases h.2 with ⟨rfl, _⟩ | ⟨g, cap, cur, rfl, _, hb, _⟩
  · simp [Value.ownBlock]
  · intro e1
    have : r = g := by simpa [Value.ownBlock] using e1
    subst this
    rw [hit] at hb
    cases hb
theorem ownRow_ne_map {w : World} {b n : Nat} {D : DataW Value} {base : Nat} {e : TypeId} {size : Nat} {v : Value} {m : Nat} {xs : List Value}
    (h : w.ownsRow base e size v m xs) (hr : w.ownsMap Tryz.prog 85 RV b n D) : some b ≠ v.ownBlock := by
  obtain ⟨_, _, hit, _⟩ := hr
  rcases h.2 with ⟨rfl, _⟩ | ⟨g, cap, cur, rfl, _, hb, _⟩
  · simp [Value.ownBlock]
  · intro e1
    have : b = g := by simpa [Value.ownBlock] using e1
    subst this
    rw [hit] at hb
    cases hb

set_option maxHeartbeats 4000000 in
set_option maxRecDepth 100000 in
theorem lof_calls {w : World} {b N : Nat} {M : Stakes} (h : Led w b N M) (hN : N ≤ 1000000) {p : Nat} (hp : w.cell? ⟨p, 0, none⟩ = some (.map (some b))) {v : Nat} (hv : v < B64) :
    Calls Tryz.prog 90 #[.pointer (some ⟨p, 0, none⟩), .int .u64 (v : Int)] w (NewPs w M N v) := by
  obtain ⟨D, hD⟩ := h
  have own := hD.own
  have hsz := own.size_le
  have HD := Lib.hid hD
  have HV := Lib.hid hv
  obtain ⟨i0, hi, hz0, hz1, hz2⟩ := info_parts infoPair
  clear hD hv
  go_enter Tryz.func90, Tryz.ntmps90
  go_wp2_with (first
    | (at_range; refine wpList_range_own _ rfl _ 72 rfl 85 78 lawPair Tryz.underlying72 RV b N _ rfl own ?_; intro w0 hrg0 hg0 hs0)
    | fail)
  go_frame
  have HRG0 := Lib.hid hrg0; have HG0 := Lib.hid hg0
  clear hrg0 hg0 hs0
  go_loopw [5] (fun sv wr => OfRel w b N v M D sv wr) (fun _ wr => wr.rangeLeft b w.heap.size)
  case atStart => exact ⟨_, _, [], HRG0.out, by simp, World.ownsRow_nil _ _ _ _, Coll.start HD.out HV.out, Ext.grown HG0.out (fun k hk => by cases hk)⟩
  case round =>
    obtain ⟨left, cnt, ss, hrg, hcs, hrow, hC, hnx⟩ := hrel
    have HC := Lib.hid hC; have HROW := Lib.hid hrow; have HNX := Lib.hid hnx
    clear hC hrow hnx
    go_wp2_with (first
      | (at_next; refine wpList_next_ranges _ rfl _ rfl 85 lawPair RV (fun x : Nat × Nat => PairV x.1 x.2) (fun y : Value => y) (fun key k2 hk => by obtain ⟨x, y, _, _, hx, _⟩ := keyOf_pair_inv hk; exact ⟨(x, y), hx⟩) (fun y z _ => ⟨y, rfl⟩) b w.heap.size N _ _ _ rfl hrg ?_ ?_)
      | fail)
    · intro hc0 hl0
      rcases HROW.out.2 with ⟨hnil, hn0⟩ | ⟨g, cap, cur, rfl, hbase, hb, h1, h2, h3, h4⟩
      · have hss : ss = [] := List.eq_nil_of_length_eq_zero hn0
        subst hss
        subst hnil
        have CN := Lib.hid (AnyF.slices_SortFunc_none { Tryz.sortPair with } none 0 (.func (.func 130) #[] #[]) wr)
        have hdel : Dels M v [] := ⟨List.Pairwise.nil, fun d => ⟨fun h => by simp at h, fun ⟨a1, a2⟩ => by have := (HC.out.mem d).2 ⟨a1, a2, hl0 _⟩; simp at this⟩⟩
        have HDEL := Lib.hid hdel
        clear hdel
        go_wp2_with fail
        refine Calls.mono (show Calls Tryz.prog 129 _ _ _ from CN.out) ?_
        rintro e w' ⟨rfl, rfl⟩
        go_wp2_with fail
        go_ret
        exact ⟨none, 0, 0, [], rfl, ⟨rfl, Nat.le_refl _, .inl rfl⟩, HDEL.out, Nat.zero_le _, HNX.out⟩
      · have CS := Lib.hid (sortPairs_calls hb h4 h1 (by omega) HC.out.nd M (fun d => by rw [HC.out.mem d]; exact ⟨fun ⟨a1, a2, _⟩ => ⟨a1, a2⟩, fun ⟨a1, a2⟩ => ⟨a1, a2, hl0 _⟩⟩))
        go_wp2_with fail
        refine CS.out.mono ?_
        rintro e w' ⟨rfl, ⟨ds, hps, hds⟩, hg⟩
        have HPS := Lib.hid hps; have HDS := Lib.hid hds
        have HE := Lib.hid (Below.grown HNX.out hg HNX.out.size (fun k hk => by cases hk; exact hbase))
        clear hps hds hg
        go_wp2_with fail
        go_ret
        exact ⟨_, _, _, ds, rfl, HPS.out, HDS.out, by omega, HE.out⟩
    · intro xv xd c kk yd yp w2 cnt2 hkey hlk hv2 hvp hat hrg2 hlt hg2 hs2 hen
      obtain ⟨v1, d1, hv1, hd1, e1, rfl⟩ := keyOf_pair_inv hkey
      obtain ⟨rfl, rfl⟩ : xv = v1 ∧ xd = d1 := by simp at e1; omega
      have hsome := Maps.has_true_of_atKey hat
      obtain ⟨Z, hZ⟩ : ∃ Z, w2.alloc (.cells #[.int .u64 (xv : Int), .int .u64 (xd : Int)] 85) = Z := ⟨_, rfl⟩
      have EZ : Ext w2 Z := by rw [← hZ]; exact (Ext.refl w2).alloc _
      have hzr : Z.heap[w2.heap.size]? = some (.cells #[.int .u64 (xv : Int), .int .u64 (xd : Int)] 85 (0, 0)) := by rw [← hZ]; exact heap_alloc_new w2 _
      obtain ⟨j1, j2, j3, j4⟩ := row2_cells hzr
      have HZ := Lib.hid hZ; have HEZ := Lib.hid EZ
      have HLK := Lib.hid hlk; have HSOME := Lib.hid hsome; have HRG2 := Lib.hid hrg2; have HG2 := Lib.hid hg2; have HLT := Lib.hid hlt; have HD1 := Lib.hid hd1; have HV1 := Lib.hid hv1
      clear hZ EZ hzr hlk hsome hrg2 hg2 hlt hat hv2 hvp hkey e1 hs2 hd1 hv1
      have HR2 := Lib.hid (HROW.out.kept HG2.out (Or.inr (ownRow_ne_iter HROW.out hrg).symm))
      have HRZ := Lib.hid (show Z.ownsRow w.heap.size 85 2 u5 ss.length (pairCells v ss) by rw [← HZ.out]; exact HR2.out.alloc _)
      have HGZ := Lib.hid (show Z.ranges Tryz.prog 85 RV b w.heap.size N D (fun z => left z && !z.sameKey (kl xv xd)) cnt2 by rw [← HZ.out]; exact HRG2.out.alloc _)
      have HE2 := Lib.hid (Ext.trans (show Ext w w2 from Below.grown HNX.out HG2.out HNX.out.size (fun k hk => by cases hk; exact Nat.le_refl _)) HEZ.out)
      have HRGW := Lib.hid hrg
      clear hrg
      by_cases hx : xv = v
      · subst hx
        have hsz2 := HE2.out.size
        go_wp2_with (first
          | rw [HZ.out]
          | (at_builtin; refine wpList_append_own _ rfl _ _ 110 rfl w.heap.size 85 i0 (.agg #[.int .u64 0, .int .u64 0]) 2 16 Tryz.underlying110 hi hz0 hz1 hz2 rfl (by decide) _ _ _ rfl (HRZ.out.alloc _) ⟨Z.heap.size, 0, none⟩ 1 1 [.int .u64 (xv : Int), .int .u64 (xd : Int)] rfl rfl (cell_two_new _ _ _ _) (by intro u hu; simp at hu; rcases hu with rfl | rfl <;> rfl) (by unfold maxLen; omega) (by omega) (by simp; omega) ?_; intro v' w3 hown' hg3 hnil3)
          | fail)
        have HO3 := Lib.hid hown'; have HG3 := Lib.hid hg3
        clear hown' hg3 hnil3
        have HR3 := Lib.hid ((HGZ.out.alloc _).kept HG3.out (ownRow_ne_map HRZ.out HGZ.out.owns) (ownRow_ne_iter HRZ.out HGZ.out))
        have HE3 := Lib.hid (show Ext w w3 from Below.grown (HE2.out.alloc _) HG3.out (HE2.out.alloc _).size (fun k hk => (HRZ.out.lt k hk).1))
        go_roundw
        case rel => exact ⟨_, cnt2, ss ++ [xd], HR3.out, by have := HLT.out; simp; omega, by have := HO3.out; simpa [pairCells] using this, HC.out.step HV1.out HD1.out HLK.out (by rw [← HD.out.has xv xd HV1.out HD1.out]; exact HSOME.out), HE3.out⟩
        case measure => rw [HR3.out.left_eq, HRGW.out.left_eq]; exact HLT.out
      · have hxi : ((xv : Int) == (v : Int)) = false := by rw [beq_eq_false_iff_ne]; omega
        have HX := Lib.hid hx
        clear hx
        go_wp2_with (rw [HZ.out])
        go_roundw
        case rel => exact ⟨_, cnt2, ss, HGZ.out, by have := HLT.out; omega, HRZ.out, HC.out.other HV.out HV1.out HD1.out HX.out, HE2.out⟩
        case measure => rw [HGZ.out.left_eq, HRGW.out.left_eq]; exact HLT.out

end Go.Proofs.YtimcnhlcepemjaaGreatDoor

/- What each walks over: a slice of pairs, a box of a stake, what a step of it leaves as it was. -/
namespace Go.Proofs.YtimcnhlcepemjaaGreatDoor
open Go.RowKit

theorem PSl.ix {w : World} {a : Option Addr} {n c v : Nat} {ds : List Nat} (h : PSl w a n c v ds) {P : Program} {T E : TypeId} {i : TypeInfo}
    (hT : P.underlying T = some (.slice E)) (hi : P.info? E = some i) (hs : i.size = 2) :
    ∃ b, (∀ k, k < n → ∀ w' : World, (Instr.indexAt T (.slice a n c) (.int .i64 (k : Int))).run P w' = .ok (.pointer (some ⟨b, 0 + k * 2, none⟩)) w') ∧
      (∀ (k d : Nat), ds[k]? = some d → w.cell? ⟨b, 0 + k * 2, none⟩ = some (.int .u64 (v : Int)) ∧ w.cell? ⟨b, 0 + k * 2 + 1, none⟩ = some (.int .u64 (d : Int))) := by
  rcases h.at_ with rfl | ⟨b, rfl, hc⟩
  · refine ⟨0, fun k hk => absurd hk (by omega), fun k d hk => ?_⟩
    have hl := h.len
    rw [List.eq_nil_of_length_eq_zero hl] at hk
    simp at hk
  · refine ⟨b, fun k hk w' => ?_, fun k d hk => ?_⟩
    · have hr := run_sizeOf hi w'
      rw [hs] at hr
      simp only [Instr.indexAt, Sem.run_bind, run_underlying hT, Result.andThen_ok, asIntOf, Sem.run_pure]
      have h1 : (0 : Int) ≤ (k : Int) ∧ (k : Int) < (n : Int) := ⟨by omega, by omega⟩
      simp [hk, hr, Addr.add]
      exact fun e => e.symm
    · rw [Nat.zero_add]; exact hc k d hk
/-- The six cells of a box. -/
theorem row6_cells {w : World} {B : Nat} {u0 u1 u2 u3 u4 u5 : Value} {T : TypeId} (h : w.heap[B]? = some (.cells #[u0, u1, u2, u3, u4, u5] T (0, 0))) :
    w.cell? ⟨B, 0, none⟩ = some u0 ∧ w.cell? ⟨B, 1, none⟩ = some u1 ∧ w.cell? ⟨B, 2, none⟩ = some u2 ∧ w.cell? ⟨B, 3, none⟩ = some u3 ∧ w.cell? ⟨B, 4, none⟩ = some u4 ∧ w.cell? ⟨B, 5, none⟩ = some u5 :=
  ⟨by rw [cell_of_row _ _ _ _ _ _ h]; rfl, by rw [cell_of_row _ _ _ _ _ _ h]; rfl, by rw [cell_of_row _ _ _ _ _ _ h]; rfl, by rw [cell_of_row _ _ _ _ _ _ h]; rfl, by rw [cell_of_row _ _ _ _ _ _ h]; rfl, by rw [cell_of_row _ _ _ _ _ _ h]; rfl⟩
/-- All blocks but two stay. -/
structure Tn (w w' : World) (b : Nat) (ob : Option Nat) : Prop where
  os : w'.os = w.os
  tape : w'.tape = w.tape
  output : w'.output = w.output
  size : w.heap.size ≤ w'.heap.size
  block : ∀ k, k < w.heap.size → k ≠ b → some k ≠ ob → w'.heap[k]? = w.heap[k]?
theorem Tn.refl (w : World) (b : Nat) (ob : Option Nat) : Tn w w b ob := ⟨rfl, rfl, rfl, Nat.le_refl _, fun _ _ _ _ => rfl⟩
theorem Tn.ext {w w' : World} (h : Ext w w') (b : Nat) (ob : Option Nat) : Tn w w' b ob := ⟨h.os, h.tape, h.output, h.size, fun k hk _ _ => h.block k hk⟩
theorem Tn.one {w w' : World} {b : Nat} (h : w.grownBy w' (some b)) (ob : Option Nat) : Tn w w' b ob := ⟨h.os, h.tape, h.output, h.size, fun k hk hb _ => h.block k hk (fun e => hb (Option.some.inj e))⟩
/-- One behind the other; the second may turn a block of its own that the first had not. -/
theorem Tn.trans {w w1 w2 : World} {b c : Nat} {ob : Option Nat} (h : Tn w w1 b ob) (k : Tn w1 w2 c ob) (hc : c = b ∨ w.heap.size ≤ c) : Tn w w2 b ob :=
  ⟨k.os.trans h.os, k.tape.trans h.tape, k.output.trans h.output, Nat.le_trans h.size k.size, fun j hj hb ho => by
    rw [k.block j (Nat.lt_of_lt_of_le hj h.size) (fun e => by rcases hc with rfl | hc; exact hb e; omega) ho]
    exact h.block j hj hb ho⟩
/-- Numbers stay. -/
structure Ln (w w' : World) : Prop where
  keep : ∀ (p : Addr) (x : Int), w.cell? p = some (.int .u64 x) → w'.cell? p = some (.int .u64 x)
theorem Ln.refl (w : World) : Ln w w := ⟨fun _ _ h => h⟩
theorem Ln.trans {a b c : World} (h : Ln a b) (k : Ln b c) : Ln a c := ⟨fun p x r => k.keep p x (h.keep p x r)⟩
theorem Lk.ln {w w' : World} (h : Lk w w') : Ln w w' := ⟨fun _ _ r => h.cell r⟩
theorem Sl.ln {w w' : World} {a : Option Addr} {n c : Nat} {xs : List Nat} (h : Sl w a n c xs) (hg : Ln w w') : Sl w' a n c xs := by
  refine ⟨h.len, h.cap, h.big, h.bd, ?_⟩
  rcases h.at_ with hn | ⟨b, off, rfl, hc⟩
  · exact .inl hn
  · exact .inr ⟨b, off, rfl, fun i hi => hg.keep _ _ (hc i hi)⟩
theorem PSl.ln {w w' : World} {a : Option Addr} {n c v : Nat} {ds : List Nat} (h : PSl w a n c v ds) (L : Ln w w') : PSl w' a n c v ds := by
  refine ⟨h.len, h.cap, ?_⟩
  rcases h.at_ with h0 | ⟨g, rfl, hc⟩
  · exact .inl h0
  · exact .inr ⟨g, rfl, fun i d hi => ⟨L.keep _ _ (hc i d hi).1, L.keep _ _ (hc i d hi).2⟩⟩
theorem St6.ln {w w' : World} {a1 : Option Addr} {m1 c1 : Nat} {b1 : Option Addr} {n1 d1 : Nat} {a2 : Option Addr} {m2 c2 : Nat} {b2 : Option Addr} {n2 d2 : Nat} {s : Stk} (h : St6 w a1 m1 c1 b1 n1 d1 a2 m2 c2 b2 n2 d2 s) (L : Ln w w') : St6 w' a1 m1 c1 b1 n1 d1 a2 m2 c2 b2 n2 d2 s :=
  ⟨h.s1.ln L, h.s2.ln L, h.s3.ln L, h.s4.ln L⟩
theorem StAt.ln {w w' : World} {v : Value} {s : Stk} (h : StAt w v s) (L : Ln w w') : StAt w' v s := by
  obtain ⟨a1, m1, c1, b1, n1, d1, a2, m2, c2, b2, n2, d2, rfl, h⟩ := h
  exact ⟨a1, m1, c1, b1, n1, d1, a2, m2, c2, b2, n2, d2, rfl, h.ln L⟩
theorem LedD.keptN {w w' : World} {b N : Nat} {M : Stakes} {D : DataW Value} (h : LedD w b N M D) (L : Ln w w') (hb : w'.heap[b]? = w.heap[b]?) : LedD w' b N M D := by
  obtain ⟨es, c, h1, h2⟩ := h.own
  refine ⟨⟨es, c, by rw [hb]; exact h1, h2⟩, h.has, fun v d s hv hd hs => ?_⟩
  obtain ⟨val, h1, h2⟩ := h.at_ v d s hv hd hs
  exact ⟨val, h1, h2.ln L⟩
/-- A block that holds no number of 64 bits without a sign. -/
def NoNum (w : World) (B : Nat) : Prop := ∀ (i : Nat) (x : Int), w.cell? ⟨B, i, none⟩ ≠ some (.int .u64 x)
theorem cell_spot {w : World} {p : Addr} {v : Value} (h : w.cell? p = some v) : p = ⟨p.block, p.off, none⟩ := by
  obtain ⟨B, i, s⟩ := p
  unfold World.cell? at h
  cases s with
  | none => rfl
  | some s =>
    simp at h
    split at h <;> cases h
theorem Tn.ln {w w' : World} {b : Nat} {ob : Option Nat} (h : Tn w w' b ob) (hb : NoNum w b) (ho : ∀ o, ob = some o → NoNum w o) : Ln w w' := by
  refine ⟨fun p x r => ?_⟩
  have hlt := World.block_lt_of_cell? w p r
  have e := cell_spot r
  have h1 : p.block ≠ b := fun q => by rw [e, q] at r; exact hb _ _ r
  have h2 : some p.block ≠ ob := fun q => by have r' := r; rw [e] at r'; exact ho _ q.symm _ _ r'
  rw [World.cell?_of_block (h.block _ hlt h1 h2)]
  exact r
theorem noNum2 {w : World} {B : Nat} {o1 : Option Addr} {n1 c1 : Nat} {o2 : Option Addr} {n2 c2 : Nat} {T : TypeId} (h : w.heap[B]? = some (.cells #[.slice o1 n1 c1, .slice o2 n2 c2] T (0, 0))) : NoNum w B := by
  intro i x r
  rw [cell_of_row _ _ _ _ _ _ h] at r
  match i, r with
  | 0, r => simp at r
  | 1, r => simp at r
  | i + 2, r => simp at r
theorem noNum6 {w : World} {B : Nat} {o1 : Option Addr} {n1 c1 : Nat} {o2 : Option Addr} {n2 c2 : Nat} {o3 : Option Addr} {n3 c3 : Nat} {o4 : Option Addr} {n4 c4 : Nat} {p k : Int} {T : TypeId} (h : w.heap[B]? = some (.cells #[.slice o1 n1 c1, .slice o2 n2 c2, .slice o3 n3 c3, .slice o4 n4 c4, .int .i64 p, .int .i64 k] T (0, 0))) : NoNum w B := by
  intro i x r
  rw [cell_of_row _ _ _ _ _ _ h] at r
  match i, r with
  | 0, r => simp at r
  | 1, r => simp at r
  | 2, r => simp at r
  | 3, r => simp at r
  | 4, r => simp at r
  | 5, r => simp at r
  | i + 6, r => simp at r

/-- The first stakes of a validator turned. -/
def mapM (M : Stakes) (v : Nat) (f : Stk → Stk) (ds : List Nat) : Stakes := fun v' d' => if v' = v ∧ d' ∈ ds then (M v' d').map f else M v' d'
theorem mapM_nil (M : Stakes) (v : Nat) (f : Stk → Stk) : mapM M v f [] = M := by
  funext v' d'
  unfold mapM
  rw [if_neg (by simp)]
theorem mapM_step {M : Stakes} {v : Nat} {f : Stk → Stk} {ds : List Nat} {d : Nat} {s : Stk} (hs : M v d = some s) : putM (mapM M v f ds) v d (f s) = mapM M v f (ds ++ [d]) := by
  funext v' d'
  unfold putM mapM
  by_cases h1 : v' = v
  · subst h1
    by_cases h2 : d' = d
    · subst h2; simp [hs]
    · simp [h2]
  · simp [h1]
theorem mapM_at {M : Stakes} {v : Nat} {f : Stk → Stk} {ds : List Nat} {d : Nat} (h : d ∉ ds) : mapM M v f ds v d = M v d := by
  unfold mapM
  rw [if_neg (fun e => h e.2)]

end Go.Proofs.YtimcnhlcepemjaaGreatDoor
