
/- Text of numbers; decimals. -/
import Derived.Test.YtimcnhlcepemjaaGreatDoorMB
import Derived.Lib.Walk
import Derived.Lib.ItoaMem
import Derived.Lib.ItoaLen
import Derived.Lib.AppendIntMem

/- internal/strconv.FormatUint, strconv.FormatUint at base 10. -/
namespace Go.Proofs.YtimcnhlcepemjaaGreatDoor
open Go.RowKit Go.Sort Go.Lib

/-- The call returns this string; of what was there nothing has turned. -/
def StrE (l : List UInt8) (w : World) (e : Ending) (w' : World) : Prop := e = .returned (.string ⟨l.toArray⟩) ∧ Ext w w'

/-- The library's table of powers of ten lies as its text lays it. -/
def Tab (w : World) : Prop := Lib.TabIs Tryz.prog w "internal/strconv.uint64pow10" .u64 Lib.pow10Tab

theorem zeros24' (i : Nat) (h : i < 24) : (Array.replicate 24 (Value.int .u8 0))[i]? = some (.int .u8 0) := by rw [Array.getElem?_replicate, if_pos h]
theorem holds_zero0 (w : World) (T : TypeId) (nd : Nat) (hs : nd ≤ 24) : Holds (fun (b : UInt8) => Value.int .u8 (b.toNat : Int)) (w.alloc (.cells Lib.zeros24 T)) w.heap.size 0 (Array.replicate nd (0 : UInt8)) := fun j hj => by
  have hj' : j < nd := by simpa using hj
  refine ⟨?_, World.frozen?_alloc_new _ _ _ _⟩
  rw [World.cell?_alloc_new, zeros24_at _ (by omega), getElem!_pos _ j hj]
  simp
theorem fin_row (w : World) (o : Obj) (dk : Array UInt8) (k : Nat) : Ext w ((putRow (fun (b : UInt8) => Value.int .u8 (b.toNat : Int)) (w.alloc o) w.heap.size 0 dk).drewN k) := by
  rw [alloc_eq_grow]
  obtain ⟨os', _, e⟩ := putRow_grow_new (fun (b : UInt8) => Value.int .u8 (b.toNat : Int)) w #[o] w.heap.size 0 dk (Nat.le_refl _)
  rw [e]
  exact below_grow w.heap.size w (Nat.le_refl _) k os'

end Go.Proofs.YtimcnhlcepemjaaGreatDoor

/- Decimal digits in groups of nineteen: plain. -/
namespace Go.Proofs.YtimcnhlcepemjaaGreatDoor
open Go.RowKit Go.Lib

/-- k digits of a number, noughts ahead. -/
def padk : Nat → Nat → List UInt8
  | 0, _ => []
  | k + 1, n => padk k (n / 10) ++ [UInt8.ofNat (48 + n % 10)]
theorem padk_length : ∀ k n, (padk k n).length = k
  | 0, _ => rfl
  | k + 1, n => by rw [padk, List.length_append, padk_length k]; rfl
theorem padk_zero : ∀ k, padk k 0 = List.replicate k 48
  | 0 => rfl
  | k + 1 => by rw [padk, Nat.zero_div, padk_zero k, List.replicate_succ']; rfl
theorem decDigits_small {n : Nat} (h : n < 10) : decDigits n = [UInt8.ofNat (48 + n)] := by rw [decDigits, dif_pos h]
theorem decDigits_big {n : Nat} (h : ¬ n < 10) : decDigits n = decDigits (n / 10) ++ [UInt8.ofNat (48 + n % 10)] := by
  conv => lhs; rw [decDigits, dif_neg h]
theorem mod_pow_succ_div (n k : Nat) : n % 10 ^ (k + 1) / 10 = n / 10 % 10 ^ k := by
  rw [Nat.pow_succ', Nat.mod_mul_right_div_self]
theorem mod_pow_succ_mod (n k : Nat) : n % 10 ^ (k + 1) % 10 = n % 10 := by
  rw [Nat.pow_succ', Nat.mod_mul_right_mod]
theorem decDigits_split : ∀ (k n : Nat), 10 ^ k ≤ n → decDigits n = decDigits (n / 10 ^ k) ++ padk k (n % 10 ^ k)
  | 0, n, _ => by simp [padk]
  | k + 1, n, h => by
    have hp : 0 < 10 ^ k := Nat.pow_pos (by omega)
    have h10 : ¬ n < 10 := by rw [Nat.pow_succ] at h; omega
    have h1 : 10 ^ k ≤ n / 10 := by rw [Nat.le_div_iff_mul_le (by omega)]; rw [Nat.pow_succ] at h; exact h
    rw [decDigits_big h10, decDigits_split k (n / 10) h1, padk, mod_pow_succ_div, mod_pow_succ_mod, Nat.pow_succ', Nat.div_div_eq_div_mul, List.append_assoc]
theorem nDigits_le {n k : Nat} (hk : 1 ≤ k) (h : n < 10 ^ k) : nDigits n ≤ k := by
  induction k generalizing n with
  | zero => omega
  | succ k ih =>
    by_cases h10 : n < 10
    · rw [nDigits_small h10]; omega
    · rw [nDigits_big h10]
      have hk1 : 1 ≤ k := by
        rcases Nat.eq_zero_or_pos k with rfl | h'
        · simp at h; omega
        · exact h'
      have := ih hk1 (n := n / 10) (by rw [Nat.div_lt_iff_lt_mul (by omega)]; rw [Nat.pow_succ] at h; exact h)
      omega
/-- A group is the digits, with noughts ahead of them. -/
theorem padk_eq : ∀ (k n : Nat), 1 ≤ k → n < 10 ^ k → padk k n = List.replicate (k - nDigits n) 48 ++ decDigits n
  | 0, _, h, _ => by omega
  | k + 1, n, _, h => by
    rw [padk]
    by_cases h10 : n < 10
    · rw [nDigits_small h10, decDigits_small h10, Nat.div_eq_of_lt h10, padk_zero, Nat.mod_eq_of_lt h10]; rfl
    · have hk1 : 1 ≤ k := by
        rcases Nat.eq_zero_or_pos k with rfl | h'
        · simp at h; omega
        · exact h'
      rw [padk_eq k (n / 10) hk1 (by rw [Nat.div_lt_iff_lt_mul (by omega)]; rw [Nat.pow_succ] at h; exact h), nDigits_big h10, decDigits_big h10, ← List.append_assoc, Nat.add_sub_add_right]

/-- Ten to the nineteenth. -/
def P19 : Nat := 10000000000000000000
theorem P19_eq : P19 = 10 ^ 19 := rfl
theorem P19_pos : 0 < P19 := by decide
theorem P19_lt : P19 < B64 := by decide

attribute [irreducible] P19

/-- What the first loop keeps. -/
structure TextInv (V X : Nat) (gs : List (List UInt8)) : Prop where
  eq : decDigits V = decDigits X ++ gs.reverse.flatten
  len : ∀ g ∈ gs, g.length = 19
theorem TextInv.start (V : Nat) : TextInv V V [] := ⟨by simp, by simp⟩
theorem TextInv.step {V X : Nat} {gs : List (List UInt8)} (h : TextInv V X gs) (hx : P19 ≤ X) : TextInv V (X / P19) (gs ++ [padk 19 (X % P19)]) := by
  have hd := decDigits_split 19 X (by rw [← P19_eq]; exact hx)
  have hl := padk_length 19 (X % P19)
  rw [← P19_eq] at hd
  generalize padk 19 (X % P19) = g at *
  refine ⟨?_, ?_⟩
  · rw [h.eq, hd, List.append_assoc, List.reverse_append, List.flatten_append]
    simp
  · intro g' hg
    rcases List.mem_append.1 hg with h' | h'
    · exact h.len g' h'
    · rw [List.mem_singleton.1 h']; exact hl
theorem flatten_len {gs : List (List UInt8)} (h : ∀ g ∈ gs, g.length = 19) : gs.flatten.length = 19 * gs.length := by
  induction gs with
  | nil => rfl
  | cons g gs ih =>
    rw [List.flatten_cons, List.length_append, ih (fun g' h' => h g' (by simp [h'])), h g (by simp), List.length_cons]; omega
theorem TextInv.count {V X : Nat} {gs : List (List UInt8)} (h : TextInv V X gs) : 19 * gs.length + 1 ≤ nDigits V := by
  have := congrArg List.length h.eq
  rw [decDigits_length, List.length_append, decDigits_length, flatten_len (by intro g hg; exact h.len g (List.mem_reverse.1 hg)), List.length_reverse] at this
  have := nDigits_pos X
  omega
theorem nDigits_limbs {V k : Nat} (h : (lim V).length ≤ k) : nDigits V ≤ 20 * k + 1 := by
  refine Nat.le_trans (nDigits_le (k := 20 * k + 1) (by omega) ?_) (Nat.le_refl _)
  refine Nat.lt_of_lt_of_le (lim_lt V) ?_
  calc B64 ^ (lim V).length ≤ B64 ^ k := Nat.pow_le_pow_right B64_pos h
    _ ≤ (10 ^ 20) ^ k := Nat.pow_le_pow_left (by decide) k
    _ = 10 ^ (20 * k) := (Nat.pow_mul ..).symm
    _ ≤ _ := Nat.pow_le_pow_right (by omega) (by omega)

/-- What the second loop keeps. -/
def textOut (X : Nat) (gs : List (List UInt8)) (i : Nat) : List UInt8 := decDigits X ++ (gs.drop i).reverse.flatten
theorem textOut_start (X : Nat) (gs : List (List UInt8)) : textOut X gs gs.length = decDigits X := by simp [textOut]
theorem textOut_step (X : Nat) (gs : List (List UInt8)) (i : Nat) (h : i < gs.length) : textOut X gs (i + 1) ++ gs[i] = textOut X gs i := by
  unfold textOut
  rw [List.drop_eq_getElem_cons h, List.reverse_cons, List.flatten_append, List.append_assoc]
  simp
theorem TextInv.fin {V X : Nat} {gs : List (List UInt8)} (h : TextInv V X gs) : textOut X gs 0 = decDigits V := by rw [h.eq]; rfl
theorem textOut_len {X : Nat} {gs : List (List UInt8)} (h : ∀ g ∈ gs, g.length = 19) (hX : X < B64) (i : Nat) : (textOut X gs i).length ≤ 20 + 19 * gs.length := by
  unfold textOut
  rw [List.length_append, decDigits_length, flatten_len (by intro g hg; exact h g (List.mem_of_mem_drop (List.mem_reverse.1 hg))), List.length_reverse, List.length_drop]
  have := nDigits_le20 X hX
  omega

theorem repeatL_one (c : Nat) : repeatL [48] c = List.replicate c 48 := by
  induction c with
  | zero => rfl
  | succ c ih => rw [repeatL, ih]; rfl
theorem repeat_calls (c : Nat) (hc : c ≤ 1000) (w : World) : Calls Tryz.prog 89 #[.string ⟨#[48]⟩, .int .i64 (c : Int)] w (StrE (List.replicate c 48) w) := by
  by_cases h0 : c = 0
  · subst h0
    refine (Tryz.strings_Repeat_zero ⟨#[48]⟩ w).mono ?_
    rintro e w' ⟨rfl, rfl⟩
    exact ⟨rfl, Ext.refl _⟩
  by_cases h1 : c = 1
  · subst h1
    refine (Tryz.strings_Repeat_one ⟨#[48]⟩ w).mono ?_
    rintro e w' ⟨rfl, rfl⟩
    exact ⟨rfl, Ext.refl _⟩
  · refine (Tryz.strings_Repeat_main ⟨#[48]⟩ c w (by omega) (by omega) (by show 1 * c ≤ _; omega) (by decide)).mono ?_
    rintro e w' ⟨rfl, h⟩
    refine ⟨?_, h⟩
    rw [show (⟨#[48]⟩ : ByteArray).data.toList = [48] from rfl, repeatL_one]

end Go.Proofs.YtimcnhlcepemjaaGreatDoor

/- nat.Text. -/
namespace Go.Proofs.YtimcnhlcepemjaaGreatDoor
open Go.RowKit Go.Lib

theorem infoStr : (Tryz.prog.info? 9).map (fun i => (i.zero, i.size, i.bytes)) = some (some (.string ⟨#[]⟩), 1, 16) := by kernel_rfl

theorem Tab.old {w w' : World} (h : Tab w) (he : Ext w w') : Tab w' := Lib.tabBelow_of_tabIs h w' he

def strs (gs : List (List UInt8)) : List Value := gs.map fun g => .string ⟨g.toArray⟩

def lenV : Value → Nat
  | .slice _ n _ => n
  | _ => 0
theorem lenV_row {w : World} {b e z : Nat} {v : Value} {n : Nat} {xs : List Value} (h : w.ownsRow b e z v n xs) : lenV v = n := by
  rcases h.2 with ⟨rfl, rfl⟩ | ⟨g, cap, cur, rfl, _⟩
  · rfl
  · rfl

/-- What the first loop keeps. -/
def TextRel (w : World) (V : Nat) (av gv : Value) (wr : World) : Prop :=
  ∃ (X n c : Nat) (a : Option Addr) (gs : List (List UInt8)), av = .slice a n c ∧ Own w.heap.size wr a n c (lim X) ∧ wr.ownsRow w.heap.size 9 1 gv gs.length (strs gs) ∧ TextInv V X gs ∧ Ext w wr ∧ X ≤ V

def TextRel2 (w2 : World) (X : Nat) (gs : List (List UInt8)) (ov iv : Value) (wr : World) : Prop :=
  ∃ k : Nat, k ≤ gs.length ∧ ov = .string ⟨(textOut X gs k).toArray⟩ ∧ iv = .int .i64 ((k : Int) - 1) ∧ wr = w2
theorem row_slice {w : World} {b e z : Nat} {v : Value} {n : Nat} {xs : List Value} (h : w.ownsRow b e z v n xs) : ∃ a c, v = .slice a n c := by
  rcases h.2 with ⟨rfl, rfl⟩ | ⟨g, cap, cur, rfl, _⟩
  · exact ⟨none, 0, rfl⟩
  · exact ⟨_, cap, rfl⟩
theorem getD_of_ltL {gs : List (List UInt8)} {j : Nat} (h : j < gs.length) : gs.getD j [] = gs[j] := by
  rw [List.getD_eq_getElem?_getD, List.getElem?_eq_getElem h]; rfl
theorem row_strs {w : World} {b e : Nat} {a : Option Addr} {m c n : Nat} {gs : List (List UInt8)} (h : w.ownsRow b e 1 (.slice a m c) n (strs gs)) (j : Nat) (hj : j < gs.length) :
    ∃ g, a = some ⟨g, 0, none⟩ ∧ w.cell? ⟨g, 0 + j, none⟩ = some (.string ⟨(gs.getD j []).toArray⟩) := by
  rcases h.2 with ⟨hv, hn⟩ | ⟨g, cap, cur, hv, hb, hh, hnc, hm, hs, ht⟩
  · have := h.1; simp [strs] at this; omega
  · cases hv
    refine ⟨g, rfl, ?_⟩
    rw [cell_of_row _ _ _ _ _ _ hh]
    have hl := h.1
    simp only [strs, List.length_map, Nat.mul_one] at hl
    have h2 : (cur.toList.take (m * 1))[j]? = (strs gs)[j]? := by rw [ht]
    rw [List.getElem?_take, if_pos (by omega)] at h2
    rw [Nat.zero_add, ← Array.getElem?_toList, h2, strs, List.getElem?_map, List.getElem?_eq_getElem hj, getD_of_ltL hj]
    rfl

end Go.Proofs.YtimcnhlcepemjaaGreatDoor

/- dec: made, compared, added, taken away. -/
namespace Go.Proofs.YtimcnhlcepemjaaGreatDoor
open Go.RowKit

/-- A number with places as a value. -/
abbrev DecV (a : Option Addr) (n c : Nat) : Value := .agg #[.slice a n c]

/-- A new number with places. -/
def NewD (w : World) (L : Nat) (xs : List Nat) (e : Ending) (w' : World) : Prop :=
  ∃ a n c, e = .returned (DecV a n c) ∧ Own w.heap.size w' a n c xs ∧ Ext w w' ∧ n ≤ L
/-- .. and an error that is a number. -/
def NewDE (w : World) (L : Nat) (xs : List Nat) (er : Int) (e : Ending) (w' : World) : Prop :=
  ∃ a n c, e = .returned (.tuple #[DecV a n c, .int .i64 er]) ∧ Own w.heap.size w' a n c xs ∧ Ext w w' ∧ n ≤ L

/-- A variable of the call's own, in a block of its own. -/
theorem box_cell {w w' : World} {v : Value} {T : TypeId} (E : Ext (w.alloc (.cells #[v] T (0, 0))) w') : w'.cell? ⟨w.heap.size, 0, none⟩ = some v :=
  E.cell (by rw [World.cell?_alloc_new]; rfl)
theorem box_free {w w' : World} {v : Value} {T : TypeId} (E : Ext (w.alloc (.cells #[v] T (0, 0))) w') : w'.frozen? ⟨w.heap.size, 0, none⟩ = false := by
  rw [World.frozen?_of_block (w := w.alloc (.cells #[v] T (0, 0)))]
  · exact World.frozen?_alloc_new _ _ _ _
  · exact E.block _ (by rw [World.size_alloc]; exact Nat.lt_succ_self _)
theorem setCell_by (w : World) (b : Nat) (u : Value) : w.grownBy (w.setCell ⟨b, 0, none⟩ u) (some b) :=
  ⟨rfl, rfl, rfl, by simp, fun j _ hj => heap_setCell_other w _ j _ (fun e => hj (by simp [e]))⟩
theorem box_store {w w' : World} {B : Nat} (u : Value) (E : Ext w w') (hB : w.heap.size ≤ B) : Ext w (w'.setCell ⟨B, 0, none⟩ u) :=
  Below.grown E (setCell_by w' B u) E.size (fun k hk => by cases hk; exact hB)
theorem Own.box {C B : Nat} {w' : World} {a : Option Addr} {n c : Nat} {xs : List Nat} (h : Own C w' a n c xs) (u : Value) (hB : B < C) : Own C (w'.setCell ⟨B, 0, none⟩ u) a n c xs :=
  h.grown (setCell_by w' B u) (.inr (fun e => by have := (h.ge B e).1; omega))
theorem alloc_size (w : World) (o : Obj) : (w.alloc o).heap.size = w.heap.size + 1 := World.size_alloc ..

theorem box_row {w w' : World} {v : Value} {T : TypeId} (E : Ext (w.alloc (.cells #[v] T (0, 0))) w') (u : Value) : (w'.setCell ⟨w.heap.size, 0, none⟩ u).heap[w.heap.size]? = some (.cells #[u] T (0, 0)) := by
  have h : w'.heap[w.heap.size]? = some (.cells #[v] T (0, 0)) := by
    rw [E.block _ (by rw [World.size_alloc]; exact Nat.lt_succ_self _)]; exact heap_alloc_new w _
  exact heap_setCell_same w' w.heap.size 0 _ T _ h
theorem box_row0 {w w' : World} {v : Value} {T : TypeId} (E : Ext (w.alloc (.cells #[v] T (0, 0))) w') : w'.heap[w.heap.size]? = some (.cells #[v] T (0, 0)) := by
  rw [E.block _ (by rw [World.size_alloc]; exact Nat.lt_succ_self _)]; exact heap_alloc_new w _
theorem decSize : (Tryz.prog.info? 35).map (·.size) = some 1 := by kernel_rfl
theorem load_dec {w : World} {g : Nat} {t : TypeId} {v : Value} (hg : w.heap[g]? = some (.cells #[v] t (0, 0))) : (loadVar 35 ⟨g, 0, none⟩).run Tryz.prog w = .ok (.agg #[v]) w :=
  run_loadVar_row w g t 35 #[v] (0, 0) _ hg Tryz.underlying35 rfl decSize
theorem results_box1 {fn : Func} {p : Tmp} {ty : TypeId} (h : fn.results = #[.cell p ty]) (tmps : Array Value) {P : Program} (w : World) (g : Nat) (v : Value)
    (hp : tmps.getD p undef = .pointer (some ⟨g, 0, none⟩)) (hl : (loadVar ty ⟨g, 0, none⟩).run P w = .ok v w) :
    (results fn tmps).run P w = .ok v w := by
  have hp' : tmps[p]?.getD undef = .pointer (some ⟨g, 0, none⟩) := by simpa using hp
  simp [results, h, hp', asAddr, hl]
theorem results_box2 {fn : Func} {p u : Tmp} {ty : TypeId} (h : fn.results = #[.cell p ty, .tmp u]) (tmps : Array Value) {P : Program} (w : World) (g : Nat) (v : Value)
    (hp : tmps.getD p undef = .pointer (some ⟨g, 0, none⟩)) (hl : (loadVar ty ⟨g, 0, none⟩).run P w = .ok v w) :
    (results fn tmps).run P w = .ok (.tuple #[v, tmps.getD u undef]) w := by
  rw [results_cell_tmp h, hp]
  simp [asAddr, hl, Result.andThen]
theorem results_box3 {fn : Func} {p u : Tmp} {ty : TypeId} (h : fn.results = #[.tmp u, .cell p ty]) (tmps : Array Value) {P : Program} (w : World) (g : Nat) (v : Value)
    (hp : tmps.getD p undef = .pointer (some ⟨g, 0, none⟩)) (hl : (loadVar ty ⟨g, 0, none⟩).run P w = .ok v w) :
    (results fn tmps).run P w = .ok (.tuple #[tmps.getD u undef, v]) w := by
  have hp' : tmps[p]?.getD undef = .pointer (some ⟨g, 0, none⟩) := by simpa using hp
  simp [results, h, hp', asAddr, hl, Result.andThen]
theorem box_fin {w X w2 : World} (EX : Ext w X) {B : Nat} (hB : X.heap.size = B) {v : Value} {T : TypeId} (h : Ext (X.alloc (.cells #[v] T (0, 0))) w2) (u : Value) :
    Ext w (w2.setCell ⟨B, 0, none⟩ u) ∧ (w2.setCell ⟨B, 0, none⟩ u).heap[B]? = some (.cells #[u] T (0, 0)) ∧
      ∀ {o : Option Addr} {n c : Nat} {xs : List Nat}, Own (X.alloc (.cells #[v] T (0, 0))).heap.size w2 o n c xs → Own w.heap.size (w2.setCell ⟨B, 0, none⟩ u) o n c xs := by
  subst hB
  have hs := EX.size
  refine ⟨box_store u ((EX.alloc _).trans h) hs, box_row h u, fun ho => ?_⟩
  rw [alloc_size] at ho
  exact (ho.box u (by omega)).mono (by omega)
theorem box_at {X w2 : World} {B : Nat} (hB : X.heap.size = B) {v : Value} {T : TypeId} (h : Ext (X.alloc (.cells #[v] T (0, 0))) w2) :
    w2.cell? ⟨B, 0, none⟩ = some v ∧ w2.frozen? ⟨B, 0, none⟩ = false := by subst hB; exact ⟨box_cell h, box_free h⟩

/-- One. -/
def U36 : Nat := 10 ^ 36
theorem lim_unit : lim U36 = [12919594847110692864, 54210108624275221] := lim_eq_of (by intro x hx; simp at hx; rcases hx with rfl | rfl <;> decide) (by simp [Nrm]) (by unfold U36; decide)

theorem own_lit2 (B : Nat) (w : World) (x y : Nat) (hx : x < B64) (hy : y < B64) (hB : B ≤ w.heap.size) :
    Own B (w.alloc (.cells #[.int .u64 (x : Int), .int .u64 (y : Int)] 31 (0, 0))) (some ⟨w.heap.size, 0, none⟩) 2 2 [x, y] := by
  have hc : (w.alloc (.cells #[.int .u64 (x : Int), .int .u64 (y : Int)] 31 (0, 0))).heap[w.heap.size]? = some (.cells #[.int .u64 (x : Int), .int .u64 (y : Int)] 31 (0, 0)) := heap_alloc_new w _
  refine ⟨⟨rfl, Nat.le_refl _, by decide, Bd.cons hx (Bd.cons hy (Bd.nil _)), .inr ⟨_, _, rfl, ?_⟩⟩, .inr ⟨_, _, _, _, rfl, hB, hc⟩⟩
  intro i hi
  have : i = 0 ∨ i = 1 := by omega
  rcases this with rfl | rfl <;> (rw [cell_of_row _ _ _ _ _ _ hc]; rfl)

set_option maxHeartbeats 1000000 in
set_option maxRecDepth 100000 in
theorem unit_calls (w : World) : Calls Tryz.prog 104 #[] w (New w 2 (lim U36)) := by
  go_enter Tryz.func104, Tryz.ntmps104
  go_wp2_with fail
  go_ret
  rw [lim_unit]
  exact ⟨_, 2, 2, rfl, own_lit2 _ w _ _ (by decide) (by decide) (Nat.le_refl _), (Ext.refl w).alloc _, Nat.le_refl _⟩

set_option maxHeartbeats 1000000 in
set_option maxRecDepth 100000 in
theorem dzero_calls {a : Option Addr} {n c : Nat} {xs : List Nat} {w : World} (h : Sl w a n c xs) (hn : n ≤ 1000000000) :
    Calls Tryz.prog 41 #[DecV a n c] w (RetE (.bool (decide (val xs = 0))) w) := by
  have CB := Lib.hid (bits_calls (h.old ((Ext.refl w).alloc (.cells #[.slice a n c] 35))) hn)
  have hz : ((bitLen (val xs) : Int) == 0) = decide (val xs = 0) := by
    rw [Bool.eq_iff_iff, beq_iff_eq, decide_eq_true_iff]
    constructor
    · intro h0
      apply Classical.byContradiction
      intro h1
      have := bitLen_pos h1
      omega
    · intro h0; rw [h0]; rfl
  go_enter Tryz.func41, Tryz.ntmps41
  go_wp2_with fail
  refine CB.out.mono ?_
  rintro e w' ⟨rfl, rfl⟩
  go_wp2_with fail
  go_ret
  exact ⟨by rw [← hz]; rfl, (Ext.refl w).alloc _⟩

set_option maxHeartbeats 1000000 in
set_option maxRecDepth 100000 in
theorem dofnat_calls {a : Option Addr} {n c : Nat} {xs : List Nat} {w : World} (h : Sl w a n c xs) (hn : n ≤ 900000000) :
    Calls Tryz.prog 77 #[.slice a n c] w (NewD w (n + 2) (lim (val xs * U36))) := by
  go_enter Tryz.func77, Tryz.ntmps77
  go_wp2_with fail
  refine (unit_calls _).mono ?_
  rintro e w1 ⟨o, no, co, rfl, hown, hext, hno⟩
  have E0 := (Ext.refl w).alloc (.cells #[.slice none 0 0] 35)
  go_wp2_with fail
  refine (mul_calls ((h.old E0).old hext) hown.sl (by omega) (by omega)).mono ?_
  rintro e w2 ⟨o2, no2, co2, rfl, hown2, hext2, hno2⟩
  have E2 := hext.trans hext2
  have k1 := box_cell E2
  have k2 := box_free E2
  go_wp2_with fail
  try simp only [Exit.inBlock, Exit.then]
  refine bodyPost_ret (results_box1 rfl _ _ _ _ rfl (load_dec (box_row E2 _))) rfl ?_
  rw [val_lim] at hown2
  have hs := hext.size
  rw [alloc_size] at hs
  exact ⟨o2, no2, co2, rfl, (hown2.box _ (by omega)).mono (by omega), box_store _ (E0.trans E2) (Nat.le_refl _), by omega⟩

set_option maxHeartbeats 1000000 in
set_option maxRecDepth 100000 in
theorem dof_calls (x : Nat) (hx : x < B64) (w : World) : Calls Tryz.prog 36 #[.int .u64 (x : Int)] w (NewD w 3 (lim (x * U36))) := by
  have HX := Lib.hid hx
  clear hx
  go_enter Tryz.func36, Tryz.ntmps36
  go_wp2_with fail
  refine (of_calls x HX.out _).mono ?_
  rintro e w1 ⟨o, no, co, rfl, hown, hext, hno⟩
  have E0 := (Ext.refl w).alloc (.cells #[.slice none 0 0] 35)
  go_wp2_with fail
  refine (dofnat_calls hown.sl (by omega)).mono ?_
  rintro e w2 ⟨o2, no2, co2, rfl, hown2, hext2, hno2⟩
  have E2 := hext.trans hext2
  have k1 := box_cell E2
  have k2 := box_free E2
  go_wp2_with fail
  try simp only [Exit.inBlock, Exit.then]
  refine bodyPost_ret (results_box1 rfl _ _ _ _ rfl (load_dec (box_row E2 _))) rfl ?_
  rw [val_lim] at hown2
  have hs := hext.size
  rw [alloc_size] at hs
  exact ⟨o2, no2, co2, rfl, (hown2.box _ (by omega)).mono (by omega), box_store _ (E0.trans E2) (Nat.le_refl _), by omega⟩

/-- Two boxes, then the result's. -/
def W2 (w : World) (u v : Value) : World := (w.alloc (.cells #[u] 35)).alloc (.cells #[v] 35)
theorem W2_ext (w : World) (u v : Value) : Ext w (W2 w u v) := ((Ext.refl w).alloc _).alloc _
theorem W2_size (w : World) (u v : Value) : (W2 w u v).heap.size = w.heap.size + 1 + 1 := by unfold W2; rw [alloc_size, alloc_size]

set_option maxHeartbeats 1000000 in
set_option maxRecDepth 100000 in
theorem dadd_calls {a b : Option Addr} {m n c d : Nat} {xs ys : List Nat} {w : World} (ha : Sl w a m c xs) (hb : Sl w b n d ys) (hm : m ≤ 900000000) (hn : n ≤ 900000000) :
    Calls Tryz.prog 35 #[DecV a m c, DecV b n d] w (NewD w (m + n + 1) (lim (val xs + val ys))) := by
  have E2 := W2_ext w (.slice a m c) (.slice b n d)
  have E3 := E2.alloc (.cells #[.slice none 0 0] 35)
  have CA := Lib.hid (add_calls (ha.old E3) (hb.old E3) (by omega) (by omega))
  go_enter Tryz.func35, Tryz.ntmps35
  go_wp2_with fail
  refine CA.out.mono ?_
  rintro e w2 ⟨o2, no2, co2, rfl, hown2, hext2, hno2⟩
  have hz := W2_size w (.slice a m c) (.slice b n d)
  obtain ⟨k1, k2⟩ := box_at hz hext2
  obtain ⟨f1, f2, f3⟩ := box_fin E2 hz hext2 (.slice o2 no2 co2)
  go_wp2_with fail
  try simp only [Exit.inBlock, Exit.then]
  refine bodyPost_ret (results_box1 rfl _ _ _ _ rfl (load_dec f2)) rfl ?_
  exact ⟨o2, no2, co2, rfl, f3 hown2, f1, by omega⟩

end Go.Proofs.YtimcnhlcepemjaaGreatDoor

/- dec: products and quotients. -/
namespace Go.Proofs.YtimcnhlcepemjaaGreatDoor
open Go.RowKit

/-- What is rounded: down, or up by one. -/
def rdV (up : Bool) (P Z : Nat) : Nat := P / Z + (if up ∧ P % Z ≠ 0 then 1 else 0)
def rdL (up : Bool) (P Z : Nat) : List Nat := if Z = 0 then [] else lim (rdV up P Z)
def rdE (Z : Nat) : Int := if Z = 0 then 21 else 0
/-- The list that the closure has taken. -/
def upL (up : Bool) : List Nat := if up then [1] else []

theorem lim_zero_iff {n : Nat} : (lim n).length = 0 ↔ n = 0 := ⟨lim_len_zero, fun h => by rw [h]; rfl⟩

end Go.Proofs.YtimcnhlcepemjaaGreatDoor

/- dec.rounder; what goes by it. -/
namespace Go.Proofs.YtimcnhlcepemjaaGreatDoor
open Go.RowKit

/-- Three boxes. -/
def W3 (w : World) (u v x : Value) : World := (W2 w u v).alloc (.cells #[x] 35)
theorem W3_ext (w : World) (u v x : Value) : Ext w (W3 w u v x) := (W2_ext w u v).alloc _
theorem W3_size (w : World) (u v x : Value) : (W3 w u v x).heap.size = w.heap.size + 1 + 1 + 1 := by unfold W3; rw [alloc_size, W2_size]
theorem W2_at (w : World) (u v : Value) {w' : World} (E : Ext (W2 w u v) w') :
    w'.cell? ⟨w.heap.size, 0, none⟩ = some u ∧ w'.cell? ⟨w.heap.size + 1, 0, none⟩ = some v := by
  constructor
  · exact box_cell (((Ext.refl _).alloc _).trans E)
  · have := box_cell (w := w.alloc (.cells #[u] 35)) E
    rwa [alloc_size] at this
theorem W3_at (w : World) (u v x : Value) {w' : World} (E : Ext (W3 w u v x) w') :
    w'.cell? ⟨w.heap.size, 0, none⟩ = some u ∧ w'.cell? ⟨w.heap.size + 1, 0, none⟩ = some v ∧ w'.cell? ⟨w.heap.size + 1 + 1, 0, none⟩ = some x := by
  have h := W2_at w u v (((Ext.refl _).alloc _).trans E)
  refine ⟨h.1, h.2, ?_⟩
  have := box_cell (w := W2 w u v) E
  rwa [W2_size] at this

end Go.Proofs.YtimcnhlcepemjaaGreatDoor

/- dec.Trunc. -/
namespace Go.Proofs.YtimcnhlcepemjaaGreatDoor
open Go.RowKit

/-- The whole part, and what is left. -/
def TruncRes (w : World) (L : Nat) (xs ys : List Nat) (e : Ending) (w' : World) : Prop :=
  ∃ a1 c1 L1 a2 c2 L2, e = .returned (.tuple #[.slice a1 L1 c1, DecV a2 L2 c2]) ∧ Own w.heap.size w' a1 L1 c1 xs ∧ Own w.heap.size w' a2 L2 c2 ys ∧ Ext w w' ∧ L1 ≤ L ∧ L2 ≤ L + 1

theorem U36_ne : U36 ≠ 0 := by unfold U36; decide

end Go.Proofs.YtimcnhlcepemjaaGreatDoor
