/- gleanlaw2.DecSums: the walk, with what Spoil may write over and the numbers of the second writing ahead of it. -/
import Derived.Test.YtifoflicflodcaaGreatDoorHDec
import Derived.Test.YtifoflicflodcaaGreatDoorDGen
import Derived.Test.YtifoflicflodcaaGreatDoorRefU
import Derived.Test.YtifoflicflodcaaGreatDoorKnown2
import Derived.Test.YtifoflicflodcaaGreatDoorHelp2
import Derived.Deep.Cut
import Derived.Deep.CutRange
import Derived.Deep.RegionHeld3
import Derived.Test.YtifoflicflodcaaGreatDoorMid
/- gleanhelp.Spoil, Copy; what Spoil may write over. -/
namespace Go.Proofs.YtifoflicflodcaaGreatDoor
open Go.RowKit

def SpoilRel (B : Nat) (w : World) (a : Option Addr) (n c : Nat) (iv : Value) (wr : World) : Prop :=
  ∃ (k : Nat) (os : List Nat), k ≤ n ∧ iv = .int .i64 (k : Int) ∧ Own B wr a n c os ∧ w.grownBy wr (blk a)
def Spoiled (B : Nat) (w : World) (a : Option Addr) (n c : Nat) (e : Ending) (w' : World) : Prop :=
  ∃ os, e = .returned (.tuple #[]) ∧ Own B w' a n c os ∧ w.grownBy w' (blk a)

set_option maxHeartbeats 2000000 in
set_option maxRecDepth 100000 in
theorem spoil_calls {B : Nat} {a : Option Addr} {n c : Nat} {xs : List Nat} {w : World} (ha : Own B w a n c xs) (hn : n ≤ 1000000000) :
    Calls Tryz.prog 25 #[.slice a n c] w (Spoiled B w a n c) := by
  obtain ⟨i0, hi, hz0, hs, hby⟩ := info_parts info64
  have H1 := Lib.hid hi; have H3 := Lib.hid hs
  clear hi hz0 hs hby
  have HA := Lib.hid ha
  clear ha
  go_enter Tryz.func25, Tryz.ntmps25
  go_wp2_with fail
  go_loopw [2] (fun iv wr => SpoilRel B w a n c iv wr) (fun iv _ => n - (intOf iv).toNat)
  case atStart => exact ⟨0, xs, by omega, rfl, HA.out, grownBy_refl _ _⟩
  case round =>
    obtain ⟨k, os, hk, rfl, hown, hg⟩ := hrel
    have HOWN := Lib.hid hown; have HG := Lib.hid hg
    clear hown hg
    by_cases hkn : k = n
    · subst hkn
      go_wp2_with fail
      go_end0
      exact ⟨os, rfl, HOWN.out, HG.out⟩
    · have hlt : (k : Int) < (n : Int) := by omega
      obtain ⟨bo, oo, hixo, hco, hao⟩ := HOWN.out.sl.ix (P := Tryz.prog) Tryz.underlying23 H1.out H3.out
      have x3 := hixo k (by omega)
      have x4 := hco k (by omega)
      have x5 := HOWN.out.free (hao (by omega)) (oo + k)
      have HAO := Lib.hid (hao (by omega))
      have hu := HOWN.out.sl.bd.getD B64_pos k
      clear hixo hco hao
      generalize os.getD k 0 = u at *
      rw [B64_eq] at hu
      obtain ⟨v, hv⟩ : ∃ v, u ^^^ 6510615555426900570 = v := ⟨_, rfl⟩
      have hvB : v < B64 := by rw [← hv]; exact Nat.xor_lt_two_pow (n := 64) hu (by decide)
      have hx : bits BinOp.xor IntKind.u64 (u : Int) 6510615555426900570 = (v : Int) := by
        have := bits_xor_u64_nat u 6510615555426900570 hu (by decide)
        rw [hv] at this
        exact this
      have HST := Lib.hid (HOWN.out.store HAO.out k v (by omega) hvB)
      clear hv
      go_wp2_with fail
      try go_region
      try go_wp2_with fail
      go_roundw
      case rel => exact ⟨k + 1, os.set k v, by omega, by go_num, by first | exact HST.out.1 | exact HST.out.1.old (Ext.refl _).drew, by first | exact grownBy_trans HG.out HST.out.2 | exact grownBy_trans (grownBy_trans HG.out HST.out.2) ((Ext.refl _).drew.by_ _)⟩
      case measure => simp only [intOf]; omega


/-- Nothing is written through this slice, or it is one's own. -/
def Free (B : Nat) (w : World) (a : Option Addr) (n c : Nat) : Prop := n = 0 ∨ ∃ xs, Own B w a n c xs
/-- At most the slice's own block has turned. -/
def Turned (a : Option Addr) (n : Nat) (w w' : World) : Prop := ∃ row, (row = none ∨ (0 < n ∧ row = blk a)) ∧ w.grownBy w' row
theorem Free.of {B : Nat} {w : World} {a : Option Addr} {n c : Nat} {xs : List Nat} (h : Own B w a n c xs) : Free B w a n c := .inr ⟨xs, h⟩
theorem Free.old {B : Nat} {w w' : World} {a : Option Addr} {n c : Nat} (h : Free B w a n c) (E : Ext w w') : Free B w' a n c := by
  rcases h with h | ⟨xs, h⟩
  · exact .inl h
  · exact .inr ⟨xs, h.old E⟩
theorem Free.next {B : Nat} {w w' : World} {a b : Option Addr} {n m d : Nat} (h : Free B w b m d) (ht : Turned a n w w') (hd : n = 0 ∨ m = 0 ∨ blk a ≠ blk b) : Free B w' b m d := by
  rcases h with h | ⟨xs, h⟩
  · exact .inl h
  · obtain ⟨row, hr, hg⟩ := ht
    rcases hr with rfl | ⟨hn, rfl⟩
    · exact .inr ⟨xs, h.grown hg (.inl rfl)⟩
    · rcases hd with h0 | h0 | h0
      · omega
      · exact .inl h0
      · exact .inr ⟨xs, h.grown hg (.inr fun e => h0 e.symm)⟩
theorem Free.ext {B : Nat} {W w w' : World} {a : Option Addr} {n c : Nat} (h : Free B w a n c) (E : Ext W w) (hB : W.heap.size ≤ B) (ht : Turned a n w w') : Ext W w' := by
  obtain ⟨row, hr, hg⟩ := ht
  rcases hr with rfl | ⟨hn, rfl⟩
  · exact Below.grown E hg E.size (fun k hk => by cases hk)
  · rcases h with h | ⟨xs, h⟩
    · omega
    · exact E.grown' h hB hg
/-- What was made later lies apart. -/
theorem Own.later {B B' : Nat} {w w' : World} {a b : Option Addr} {n c m d : Nat} {xs ys : List Nat} (h : Own B w a n c xs) (h' : Own B' w' b m d ys) (hB : w.heap.size ≤ B') : n = 0 ∨ m = 0 ∨ blk a ≠ blk b := by
  rcases h.row with rfl | ⟨k, off, cur, e, rfl, hk, hh⟩
  · exact .inl h.sl.none_len
  · refine .inr (.inr fun e => ?_)
    have h1 := (h'.ge k e.symm).1
    have h2 := (Array.getElem?_eq_some_iff.1 hh).1
    omega
set_option maxHeartbeats 1000000 in
set_option maxRecDepth 100000 in
theorem spoilF_calls {B : Nat} {a : Option Addr} {n c : Nat} {w : World} (h : Free B w a n c) (hn : n ≤ 1000000) :
    Calls Tryz.prog 25 #[.slice a n c] w (fun e w' => e = .returned (.tuple #[]) ∧ Turned a n w w') := by
  by_cases h0 : n = 0
  · subst h0
    clear h
    go_enter Tryz.func25, Tryz.ntmps25
    go_wp2_with fail
    go_loopw [2] (fun iv wr => iv = .int .i64 0 ∧ wr = w) (fun iv _ => 0)
    case atStart => exact ⟨rfl, rfl⟩
    case round =>
      obtain ⟨rfl, rfl⟩ := hrel
      go_wp2_with fail
      go_end0
      exact ⟨rfl, none, .inl rfl, grownBy_refl _ _⟩
  · rcases h with h | ⟨xs, h⟩
    · exact absurd h h0
    · refine (spoil_calls h (by omega)).mono ?_
      rintro e w' ⟨os, rfl, -, hg⟩
      exact ⟨rfl, blk a, .inr ⟨by omega, rfl⟩, hg⟩


def LoopRel (W : World) (iv : Value) (wr : World) : Prop := ∃ k : Nat, k ≤ 2 ∧ iv = .int .i64 (k : Int) ∧ Ext W wr

set_option maxHeartbeats 1000000 in
set_option maxRecDepth 100000 in
theorem copy_calls {a : Option Addr} {n c : Nat} {xs : List Nat} {w : World} (h : Sl w a n c xs) (hn : n ≤ 1000000000) :
    Calls Tryz.prog 7 #[.slice a n c] w (New w n xs) := by
  obtain ⟨i0, hi, hz0, hs, hby⟩ := info_parts info64
  have HT := Lib.hid h
  clear h
  go_enter Tryz.func7, Tryz.ntmps7
  go_wp2_with (at_builtin; refine append_nil_sl _ rfl _ _ _ rfl _ _ Tryz.underlying23 hi hz0 hs hby rfl _ _ _ _ rfl HT.out (by omega) ?_)
  intro a' c' w1 ho hext
  go_wp2_with fail
  go_ret
  exact ⟨a', _, c', rfl, ho, hext, Nat.le_refl _⟩

theorem Turned.row {B j n c : Nat} {W w w' : World} {a : Option Addr} {xs : List Nat} {o : Obj} (ht : Turned a n w w') (h : Own B W a n c xs) (hj : W.heap.size ≤ j) (hr : w.heap[j]? = some o) : w'.heap[j]? = some o := by
  obtain ⟨row, hr', hg⟩ := ht
  have hne : row ≠ some j := by
    rintro rfl
    rcases hr' with h0 | ⟨_, h0⟩
    · cases h0
    · have := (h.ge j h0.symm).2; omega
  rw [hg.block j (Array.getElem?_eq_some_iff.1 hr).1 hne.symm]
  exact hr

/-- Two variables of one cell and what they hold, each apart from the others. -/
structure Two (w W : World) (T : TypeId) (B1 B2 : Nat) (o1 : Option Addr) (n1 c1 : Nat) (xs1 : List Nat) (o2 : Option Addr) (n2 c2 : Nat) (xs2 : List Nat) : Prop where
  ne : B1 ≠ B2
  h1 : w.heap.size ≤ B1
  h2 : w.heap.size ≤ B2
  r1 : W.heap[B1]? = some (.cells #[.slice o1 n1 c1] T (0, 0))
  r2 : W.heap[B2]? = some (.cells #[.slice o2 n2 c2] T (0, 0))
  w1 : Own w.heap.size W o1 n1 c1 xs1
  w2 : Own w.heap.size W o2 n2 c2 xs2
  a1 : ∀ q, blk o1 = some q → q ≠ B1 ∧ q ≠ B2
  a2 : ∀ q, blk o2 = some q → q ≠ B1 ∧ q ≠ B2
  a12 : ∀ q, blk o1 = some q → blk o2 ≠ some q
  ext : Ext w W
theorem two_boxes {w W : World} {T : TypeId} {B1 B2 : Nat} {o1 : Option Addr} {n1 c1 : Nat} {xs1 : List Nat} {o2 : Option Addr} {n2 c2 : Nat} {xs2 : List Nat} {v1 v2 u1 u2 : Value}
    (R1 : W.heap[B1]? = some (.cells #[v1] T (0, 0))) (R2 : W.heap[B2]? = some (.cells #[v2] T (0, 0))) (ne : B1 ≠ B2) (E : Ext w W) (h1 : w.heap.size ≤ B1) (h2 : w.heap.size ≤ B2)
    (w1 : Own w.heap.size W o1 n1 c1 xs1) (w2 : Own w.heap.size W o2 n2 c2 xs2) (a1 : ∀ q, blk o1 = some q → q ≠ B1 ∧ q ≠ B2) (a2 : ∀ q, blk o2 = some q → q ≠ B1 ∧ q ≠ B2)
    (a12 : ∀ q, blk o1 = some q → blk o2 ≠ some q) (e1 : u1 = .slice o1 n1 c1) (e2 : u2 = .slice o2 n2 c2) :
    Two w ((W.setCell ⟨B1, 0, none⟩ u1).setCell ⟨B2, 0, none⟩ u2) T B1 B2 o1 n1 c1 xs1 o2 n2 c2 xs2 := by
  subst e1 e2
  have g1 := setCell_by W B1 (.slice o1 n1 c1)
  have g2 := setCell_by (W.setCell ⟨B1, 0, none⟩ (.slice o1 n1 c1)) B2 (.slice o2 n2 c2)
  have own : ∀ {o n c xs}, Own w.heap.size W o n c xs → (∀ q, blk o = some q → q ≠ B1 ∧ q ≠ B2) → Own w.heap.size ((W.setCell ⟨B1, 0, none⟩ (.slice o1 n1 c1)).setCell ⟨B2, 0, none⟩ (.slice o2 n2 c2)) o n c xs :=
    fun h a => (h.grown g1 (.inr fun e => (a _ e).1 rfl)).grown g2 (.inr fun e => (a _ e).2 rfl)
  refine ⟨ne, h1, h2, ?_, ?_, own w1 a1, own w2 a2, a1, a2, a12, ?_⟩
  · rw [heap_setCell_other _ _ _ _ (by simpa using ne)]
    exact heap_setCell_same W B1 0 _ T _ R1
  · exact heap_setCell_same _ B2 0 _ T _ (by rw [heap_setCell_other W ⟨B1, 0, none⟩ B2 (.slice o1 n1 c1) (by show B2 ≠ B1; exact ne.symm)]; exact R2)
  · exact Below.grown (Below.grown E g1 E.size (fun k hk => by cases hk; exact h1)) g2 (Below.grown E g1 E.size (fun k hk => by cases hk; exact h1)).size (fun k hk => by cases hk; exact h2)

theorem Two.apart {w W : World} {T : TypeId} {B1 B2 : Nat} {o1 : Option Addr} {n1 c1 : Nat} {xs1 : List Nat} {o2 : Option Addr} {n2 c2 : Nat} {xs2 : List Nat} (h : Two w W T B1 B2 o1 n1 c1 xs1 o2 n2 c2 xs2) : n1 = 0 ∨ n2 = 0 ∨ blk o1 ≠ blk o2 := by
  cases e : blk o1 with
  | none =>
    rcases h.w1.row with h0 | ⟨b, off, cur, t, h0, _⟩
    · have h1 := h.w1.sl
      rw [h0] at h1
      exact .inl h1.none_len
    · rw [h0] at e; cases e
  | some q => exact .inr (.inr fun e2 => h.a12 q e e2.symm)
theorem Turned.row' {j n : Nat} {w w' : World} {a : Option Addr} {o : Obj} (ht : Turned a n w w') (h : ∀ q, blk a = some q → q ≠ j) (hr : w.heap[j]? = some o) : w'.heap[j]? = some o := by
  obtain ⟨row, hr', hg⟩ := ht
  have hne : row ≠ some j := by
    rintro rfl
    rcases hr' with h0 | ⟨_, h0⟩
    · cases h0
    · exact h j h0.symm rfl
  rw [hg.block j (Array.getElem?_eq_some_iff.1 hr).1 hne.symm]
  exact hr

theorem rdsub_gen (X Y Z : Nat) (r : Int) {a b : Option Addr} {m n c d : Nat} {xs ys : List Nat} {w : World} (ha : Sl w a m c xs) (hb : Sl w b n d ys) (hx : val xs = X) (hy : val ys = Y) (h : X - Y = Z) (hr : (if X < Y then (20 : Int) else 0) = r) (hm : m ≤ 10000) (hn : n ≤ 10000) :
    Calls Tryz.prog 11 #[DecV a m c, DecV b n d] w (NewDE w (2 * m) (lim Z) r) := by
  have := rdsub_calls ha hb (by omega) (by omega)
  rw [hx, hy] at this
  unfold dsubL dsubE at this
  by_cases h0 : X < Y
  · rw [if_pos h0] at hr
    simp only [if_pos h0] at this
    rw [← hr, ← h, show X - Y = 0 by omega]
    exact this
  · rw [if_neg h0] at hr
    simp only [if_neg h0] at this
    rw [← hr, ← h]
    exact this
theorem rdadd_at (X Y Z : Nat) {a b : Option Addr} {m n c d : Nat} {xs ys : List Nat} {w : World} (ha : Sl w a m c xs) (hb : Sl w b n d ys) (hx : val xs = X) (hy : val ys = Y) (h : X + Y = Z) (hm : m ≤ 10000) (hn : n ≤ 10000) :
    Calls Tryz.prog 13 #[DecV a m c, DecV b n d] w (NewD w (2 * m + 2 * n + 1) (lim Z)) := by subst hx hy h; exact rdadd_calls ha hb (by omega) (by omega)
theorem rdtimes_at (X n Z : Nat) {a : Option Addr} {m c : Nat} {xs : List Nat} {w : World} (ha : Sl w a m c xs) (hx : val xs = X) (h : X * n = Z) (hm : m ≤ 10000) (hn : n < B64) :
    Calls Tryz.prog 14 #[DecV a m c, .int .u64 (n : Int)] w (NewD w (2 * m + 4) (lim Z)) := by subst hx h; exact rdtimes_calls ha (by omega) hn
theorem rdof_at (n X : Nat) (hn : n < B64) (hX : n * U36 = X) (w : World) : Calls Tryz.prog 16 #[.int .u64 (n : Int)] w (NewD w 8 (lim X)) := by subst hX; exact rdof_calls n hn w
theorem rdbasis_at (n Z : Nat) (hn : n < B64) (h : U36 / 10000 * n = Z) (w : World) : Calls Tryz.prog 18 #[.int .u64 (n : Int)] w (NewD w 1000 (lim Z)) := by subst h; exact rdbasis_calls n hn w
theorem rddcmp_at (X Y : Nat) (q : Int) {a b : Option Addr} {m n c d : Nat} {xs ys : List Nat} {w : World} (ha : Sl w a m c xs) (hb : Sl w b n d ys) (hx : val xs = X) (hy : val ys = Y) (h : cmpN X Y = q) (hm : m ≤ 10000) (hn : n ≤ 10000) :
    Calls Tryz.prog 24 #[DecV a m c, DecV b n d] w (RetE (.int .i64 q) w) := by subst hx hy h; exact rddcmp_calls ha hb (by omega) (by omega)
theorem rdzero_at (X : Nat) (v : Bool) {a : Option Addr} {m c : Nat} {xs : List Nat} {w : World} (ha : Sl w a m c xs) (hx : val xs = X) (h : decide (X = 0) = v) (hm : m ≤ 10000) :
    Calls Tryz.prog 22 #[DecV a m c] w (RetE (.bool v) w) := by subst hx h; exact rdzero_calls ha (by omega)
theorem rdofnat_at (X Z : Nat) {a : Option Addr} {m c : Nat} {xs : List Nat} {w : World} (ha : Sl w a m c xs) (hx : val xs = X) (h : X * U36 = Z) (hm : m ≤ 10000) :
    Calls Tryz.prog 20 #[.slice a m c] w (NewD w (2 * m + 4) (lim Z)) := by subst hx h; exact rdofnat_calls ha (by omega)

end Go.Proofs.YtifoflicflodcaaGreatDoor

/- gleanlaw2.DecSums: the walk. -/
namespace Go.Proofs.YtifoflicflodcaaGreatDoor
open Go.RowKit Go.Lib

set_option maxHeartbeats 16000000 in
set_option maxRecDepth 100000 in
theorem dsum_law {a1 a2 : Option Addr} {m1 c1 m2 c2 : Nat} {xs1 xs2 : List Nat} {w : World} (ha1 : Sl w a1 m1 c1 xs1) (ha2 : Sl w a2 m2 c2 xs2) {nn : Nat} (hnn : nn < B64) (htab : Tab w) (hM : MaxL w) :
    Calls Tryz.prog 3 #[DecV a1 m1 c1, DecV a2 m2 c2, .int .u64 (nn : Int)] w (RetE (.bool true) w) := by
  obtain ⟨A, hv1⟩ : ∃ X, val xs1 = X := ⟨_, rfl⟩
  obtain ⟨B, hv2⟩ : ∃ X, val xs2 = X := ⟨_, rfl⟩
  have HQ1 := Lib.hid hv1; have HA1 := Lib.hid ha1
  have HQ2 := Lib.hid hv2; have HA2 := Lib.hid ha2
  have HT := Lib.hid htab; have HM := Lib.hid hM
  clear hv1 ha1 hv2 ha2 htab hM
  have HN := Lib.hid hnn; clear hnn
  obtain ⟨V1, hV⟩ : ∃ V, w.alloc (.cells #[.slice a1 m1 c1] 25) = V := ⟨_, rfl⟩
  have R1 := Lib.hid (show V1.heap[w.heap.size]? = some (.cells #[.slice a1 m1 c1] 25 (0, 0)) by rw [← hV]; exact heap_alloc_new w _)
  have x1 : Ext w V1 := by rw [← hV]; exact (Ext.refl _).alloc _
  have HV1 := Lib.hid hV
  clear hV
  have D1 := Lib.hid x1
  have EX1 := Lib.hid x1
  clear x1
  obtain ⟨V2, hV⟩ : ∃ V, V1.alloc (.cells #[.slice a2 m2 c2] 25) = V := ⟨_, rfl⟩
  have R2 := Lib.hid (show V2.heap[V1.heap.size]? = some (.cells #[.slice a2 m2 c2] 25 (0, 0)) by rw [← hV]; exact heap_alloc_new V1 _)
  have x2 : Ext V1 V2 := by rw [← hV]; exact (Ext.refl _).alloc _
  have HV2 := Lib.hid hV
  clear hV
  have D2 := Lib.hid x2
  have EX2 := Lib.hid (EX1.out.trans x2)
  clear x2
  go_enter Tryz.func3, Tryz.ntmps3
  have C3 := Lib.hid (known2_calls V2 (HT.out.old EX2.out) (HM.out.old EX2.out))
  go_wp2_with (first | rw [HV1.out] | rw [HV2.out])
  refine C3.out.mono ?_
  rintro e w3 ⟨rfl, x3⟩
  have D3 := Lib.hid x3
  have EX3 := Lib.hid (EX2.out.trans x3)
  clear x3
  clear C3
  obtain ⟨Z, hZ⟩ : ∃ Z, w3.alloc (.cells #[.slice a1 m1 c1, .slice a2 m2 c2] 25) = Z := ⟨_, rfl⟩
  have hxz : Ext w3 Z := by rw [← hZ]; exact (Ext.refl _).alloc _
  by_cases h60 : m1 ≤ 40 ∧ m2 ≤ 40
  rotate_left
  · have HSM := Lib.hid (sd_no2 w3 (a1 := a1) (m1 := m1) (c1 := c1) (a2 := a2) (m2 := m2) (c2 := c2) h60)
    rw [hZ] at HSM
    have HZ := Lib.hid hZ; have HEZ := Lib.hid (EX3.out.trans hxz)
    clear hZ hxz
    have ja := drow_cell (rowE (Ext.trans D2.out D3.out) R1.out)
    have jb := drow_cell (rowE D3.out R2.out)
    go_wp2_with (rw [HZ.out])
    refine HSM.out.mono ?_
    rintro e w' ⟨rfl, rfl⟩
    go_wp2_with fail
    go_ret
    exact ⟨rfl, HEZ.out⟩
  have HSM := Lib.hid (sd_yes2 w3 (a1 := a1) (m1 := m1) (c1 := c1) (a2 := a2) (m2 := m2) (c2 := c2) h60)
  rw [hZ] at HSM
  have HZ := Lib.hid hZ
  obtain ⟨q1, q2⟩ := h60
  clear hZ
  have ja := drow_cell (rowE (Ext.trans D2.out D3.out) R1.out)
  have jb := drow_cell (rowE D3.out R2.out)
  have D4 := Lib.hid hxz
  have EX4 := Lib.hid (EX3.out.trans hxz)
  clear hxz
  go_wp2_with (rw [HZ.out])
  refine HSM.out.mono ?_
  rintro e w' ⟨rfl, rfl⟩
  clear HSM ja jb
  obtain ⟨sm, h_sm⟩ : ∃ x, A + B = x := ⟨_, rfl⟩
  have H_sm := Lib.hid h_sm
  clear h_sm
  obtain ⟨tt, h_tt⟩ : ∃ x, A * nn = x := ⟨_, rfl⟩
  have H_tt := Lib.hid h_tt
  clear h_tt
  obtain ⟨dd, h_dd⟩ : ∃ x, A - B = x := ⟨_, rfl⟩
  have H_dd := Lib.hid h_dd
  clear h_dd
  obtain ⟨er, h_er⟩ : ∃ x, (if A < B then (20 : Int) else 0) = x := ⟨_, rfl⟩
  have H_er := Lib.hid h_er
  clear h_er
  obtain ⟨of, h_of⟩ : ∃ x, nn * U36 = x := ⟨_, rfl⟩
  have H_of := Lib.hid h_of
  clear h_of
  obtain ⟨ba, h_ba⟩ : ∃ x, U36 / 10000 * nn = x := ⟨_, rfl⟩
  have H_ba := Lib.hid h_ba
  clear h_ba
  obtain ⟨on, h_on⟩ : ∃ x, A * U36 = x := ⟨_, rfl⟩
  have H_on := Lib.hid h_on
  clear h_on
  obtain ⟨zz, h_zz⟩ : ∃ x, decide (A = 0) = x := ⟨_, rfl⟩
  have H_zz := Lib.hid h_zz
  clear h_zz
  obtain ⟨cc, h_cc⟩ : ∃ x, cmpN A B = x := ⟨_, rfl⟩
  have H_cc := Lib.hid h_cc
  clear h_cc
  have H4 : Hid (∀ w', Ext Z w' → w'.cell? ⟨w.heap.size, 0, none⟩ = some (.slice a1 m1 c1) ∧ w'.cell? ⟨V1.heap.size, 0, none⟩ = some (.slice a2 m2 c2)) := Lib.hid (fun w' h => ⟨drow_cell (rowE (Ext.trans (Ext.trans D2.out (Ext.trans D3.out D4.out)) h) R1.out), drow_cell (rowE (Ext.trans (Ext.trans D3.out D4.out) h) R2.out)⟩)
  go_upto_region 5 with (fail)
  go_cut [7, 8] from 23 to 30 (fun v1 v2 wx => ∃ (B1 B2 : Nat) (o1 : Option Addr) (n1 c1 : Nat) (o2 : Option Addr) (n2 c2 : Nat), v1 = .pointer (some ⟨B1, 0, none⟩) ∧ v2 = .pointer (some ⟨B2, 0, none⟩) ∧ n1 ≤ m1 ∧ n2 ≤ m2 ∧ Two Z wx 25 B1 B2 o1 n1 c1 (xs1) o2 n2 c2 (xs2))
  case first =>
    obtain ⟨u0, hu0⟩ : ∃ u, Z.drew = u := ⟨_, rfl⟩
    have HE0 := Lib.hid (show Ext Z u0 by rw [← hu0]; exact (Ext.refl _).drew)
    go_wp2_with fail
    refine wp_region_held_drew (S := fun w' => w'.cell? ⟨w.heap.size, 0, none⟩ = some (.slice a1 m1 c1) ∧ w'.cell? ⟨V1.heap.size, 0, none⟩ = some (.slice a2 m2 c2)) (by kernel_rfl) (H4.out _ (Ext.refl _).drew) (fun hHeld => ?_)
    rw [hu0] at hHeld ⊢
    clear hu0
    refine takeW (i := 0) (v := ?_) rfl (by kernel_rfl) (by kernel_rfl) (by kernel_rfl) (fun _ _ _ h => h) (Or.inl ⟨by rfl, ?_⟩) (by assumption) ?_
    rotate_left
    · (intro wz hSw; (try dsimp only at hSw); go_simp <;> with_reducible rfl)
    try simp only [Act.put, List.setIfInBounds_toArray, List.set_cons_zero, List.set_cons_succ]
    refine takeW (i := 1) (v := ?_) rfl (by kernel_rfl) (by kernel_rfl) (by kernel_rfl) (fun _ _ _ h => h) (Or.inl ⟨by rfl, ?_⟩) (by assumption) ?_
    rotate_left
    · (intro wz hSw; (try dsimp only at hSw); go_simp <;> with_reducible rfl)
    try simp only [Act.put, List.setIfInBounds_toArray, List.set_cons_zero, List.set_cons_succ]
    refine takeW (i := 4) (v := ?_) rfl (by kernel_rfl) (by kernel_rfl) (by kernel_rfl) (fun _ _ _ h => h) (Or.inl ⟨by rfl, ?_⟩) (by assumption) ?_
    rotate_left
    · (intro wz hSw; (try dsimp only at hSw); go_simp <;> with_reducible rfl)
    try simp only [Act.put, List.setIfInBounds_toArray, List.set_cons_zero, List.set_cons_succ]
    refine takeW (i := 5) (v := ?_) rfl (by kernel_rfl) (by kernel_rfl) (by kernel_rfl) (fun _ _ _ h => h) (Or.inl ⟨by rfl, ?_⟩) (by assumption) ?_
    rotate_left
    · (intro wz hSw; (try dsimp only at hSw); go_simp <;> with_reducible rfl)
    try simp only [Act.put, List.setIfInBounds_toArray, List.set_cons_zero, List.set_cons_succ]
    refine wpAnyH_ready (rs := [2, 8, 9]) (by kernel_rfl) (by simp) ?_
    refine consW rfl (fun K hK => ?_) ?_
    · go_simp
      go_at_call 7
      refine (copy_calls (HA1.out.old ((Ext.trans D1.out (Ext.trans D2.out (Ext.trans D3.out D4.out))).trans HE0.out)) (by omega)).mono ?_
      rintro e u1 ⟨o_x, n_x, c_x, rfl, ho, hx, hn_x⟩
      have HX1 := Lib.hid hx; have HE1 := Lib.hid (HE0.out.trans hx); have HO_x := Lib.hid ho; have HG_x := Lib.hid (fun q h => ho.ge q h)
      clear ho hx
      try go_wp2_with fail
      refine hK.out _ _ ?_ (fun hHeld => ?_)
      · (try dsimp only); exact H4.out _ HE1.out
      clear hK K
      try simp only [Act.put, List.setIfInBounds_toArray, List.set_cons_zero, List.set_cons_succ]
      refine takeW (i := 3) (v := ?_) rfl (by kernel_rfl) (by kernel_rfl) (by kernel_rfl) (fun _ _ _ h => h) (Or.inl ⟨by rfl, ?_⟩) (by assumption) ?_
      rotate_left
      · (intro wz hSw; (try dsimp only at hSw); go_simp <;> with_reducible rfl)
      try simp only [Act.put, List.setIfInBounds_toArray, List.set_cons_zero, List.set_cons_succ]
      refine wpAnyH_ready (rs := [6, 8, 9]) (by kernel_rfl) (by simp) ?_
      refine consW rfl (fun K hK => ?_) ?_
      · go_simp
        go_at_call 7
        refine (copy_calls (HA2.out.old ((Ext.trans D1.out (Ext.trans D2.out (Ext.trans D3.out D4.out))).trans HE1.out)) (by omega)).mono ?_
        rintro e u2 ⟨o_y, n_y, c_y, rfl, ho, hx, hn_y⟩
        have HX2 := Lib.hid hx; have HE2 := Lib.hid (HE1.out.trans hx); have HO_y := Lib.hid ho; have HG_y := Lib.hid (fun q h => ho.ge q h)
        clear ho hx
        try go_wp2_with fail
        refine hK.out _ _ ?_ (fun hHeld => ?_)
        · (try dsimp only); exact H4.out _ HE2.out
        clear hK K
        try simp only [Act.put, List.setIfInBounds_toArray, List.set_cons_zero, List.set_cons_succ]
        refine takeW (i := 7) (v := ?_) rfl (by kernel_rfl) (by kernel_rfl) (by kernel_rfl) (fun _ _ _ h => h) (Or.inl ⟨by rfl, ?_⟩) (by assumption) ?_
        rotate_left
        · (intro wz hSw; (try dsimp only at hSw); go_simp <;> with_reducible rfl)
        try simp only [Act.put, List.setIfInBounds_toArray, List.set_cons_zero, List.set_cons_succ]
        refine wpAnyH_ready (rs := [8, 9]) (by kernel_rfl) (by simp) ?_
        refine consW rfl (fun K hK => ?_) ?_
        · obtain ⟨u3, hu⟩ : ∃ u, u2.alloc (.cells #[.slice none 0 0] 25) = u := ⟨_, rfl⟩
          have HX3 := Lib.hid (show Ext u2 u3 by rw [← hu]; exact (Ext.refl _).alloc _); have HE3 := Lib.hid (HE2.out.trans HX3.out)
          have HB_x := Lib.hid (show u3.heap[u2.heap.size]? = some (.cells #[.slice none 0 0] 25 (0, 0)) by rw [← hu]; exact heap_alloc_new u2 _)
          have HS_x := Lib.hid (show u3.heap.size = u2.heap.size + 1 by rw [← hu, alloc_size])
          have HU := Lib.hid hu; clear hu
          go_simp
          rw [HU.out]
          clear HU
          refine hK.out _ _ ?_ (fun hHeld => ?_)
          · (try dsimp only); exact H4.out _ HE3.out
          clear hK K
          try simp only [Act.put, List.setIfInBounds_toArray, List.set_cons_zero, List.set_cons_succ]
          refine wpAnyH_ready (rs := [9]) (by kernel_rfl) (by simp) ?_
          refine consW rfl (fun K hK => ?_) AllReadyH.nil
          obtain ⟨u4, hu⟩ : ∃ u, u3.alloc (.cells #[.slice none 0 0] 25) = u := ⟨_, rfl⟩
          have HX4 := Lib.hid (show Ext u3 u4 by rw [← hu]; exact (Ext.refl _).alloc _); have HE4 := Lib.hid (HE3.out.trans HX4.out)
          have HB_y := Lib.hid (show u4.heap[u3.heap.size]? = some (.cells #[.slice none 0 0] 25 (0, 0)) by rw [← hu]; exact heap_alloc_new u3 _)
          have HS_y := Lib.hid (show u4.heap.size = u3.heap.size + 1 by rw [← hu, alloc_size])
          have HU := Lib.hid hu; clear hu
          go_simp
          rw [HU.out]
          clear HU
          refine hK.out _ _ ?_ (fun hHeld => ?_)
          · (try dsimp only); exact H4.out _ HE4.out
          clear hK K
          try simp only [Act.put, List.setIfInBounds_toArray, List.set_cons_zero, List.set_cons_succ]
          refine wpAnyH_ready (rs := [10]) (by kernel_rfl) (by simp) ?_
          refine consW rfl (fun K hK => ?_) AllReadyH.nil
          have HR_x := Lib.hid (rowE HX4.out HB_x.out)
          have HR_y := HB_y
          have HNE := Lib.hid (show u2.heap.size ≠ u3.heap.size by have z1 := HX1.out.size; have z2 := HX2.out.size; have z3 := HX3.out.size; have z4 := HX4.out.size; have y_x := HS_x.out; have y_y := HS_y.out; have z0 := HE0.out.size; omega)
          have HL1 := Lib.hid (show Z.heap.size ≤ u2.heap.size by have z1 := HX1.out.size; have z2 := HX2.out.size; have z3 := HX3.out.size; have z4 := HX4.out.size; have y_x := HS_x.out; have y_y := HS_y.out; have z0 := HE0.out.size; omega); have HL2 := Lib.hid (show Z.heap.size ≤ u3.heap.size by have z1 := HX1.out.size; have z2 := HX2.out.size; have z3 := HX3.out.size; have z4 := HX4.out.size; have y_x := HS_x.out; have y_y := HS_y.out; have z0 := HE0.out.size; omega)
          have HP_x := Lib.hid (show ∀ q, blk o_x = some q → q ≠ u2.heap.size ∧ q ≠ u3.heap.size from fun q hq => by have g := HG_x.out q hq; have z1 := HX1.out.size; have z2 := HX2.out.size; have z3 := HX3.out.size; have z4 := HX4.out.size; have y_x := HS_x.out; have y_y := HS_y.out; have z0 := HE0.out.size; omega)
          have HP_y := Lib.hid (show ∀ q, blk o_y = some q → q ≠ u2.heap.size ∧ q ≠ u3.heap.size from fun q hq => by have g := HG_y.out q hq; have z1 := HX1.out.size; have z2 := HX2.out.size; have z3 := HX3.out.size; have z4 := HX4.out.size; have y_x := HS_x.out; have y_y := HS_y.out; have z0 := HE0.out.size; omega)
          have HPP := Lib.hid (show ∀ q, blk o_x = some q → blk o_y ≠ some q from fun q hq h2 => by have g := HG_x.out q hq; have g2 := HG_y.out q h2; have z1 := HX1.out.size; have z2 := HX2.out.size; have z3 := HX3.out.size; have z4 := HX4.out.size; have y_x := HS_x.out; have y_y := HS_y.out; have z0 := HE0.out.size; omega)
          have HQ_x := Lib.hid ((HO_x.out.old (Ext.trans HX2.out (Ext.trans HX3.out HX4.out))).mono (show Z.heap.size ≤ u0.heap.size by have z1 := HX1.out.size; have z2 := HX2.out.size; have z3 := HX3.out.size; have z4 := HX4.out.size; have y_x := HS_x.out; have y_y := HS_y.out; have z0 := HE0.out.size; omega))
          have HQ_y := Lib.hid ((HO_y.out.old (Ext.trans HX3.out HX4.out)).mono (show Z.heap.size ≤ u1.heap.size by have z1 := HX1.out.size; have z2 := HX2.out.size; have z3 := HX3.out.size; have z4 := HX4.out.size; have y_x := HS_x.out; have y_y := HS_y.out; have z0 := HE0.out.size; omega))
          have HTW := Lib.hid (two_boxes (u1 := .slice o_x n_x c_x) (u2 := .slice o_y n_y c_y) HR_x.out HR_y.out HNE.out HE4.out HL1.out HL2.out HQ_x.out HQ_y.out HP_x.out HP_y.out HPP.out rfl rfl)
          have g1 := drow_cell HR_x.out; have g2 := row_free HR_x.out
          go_simp
          clear g1 g2
          refine hK.out _ _ ?_ (fun hHeld => ?_)
          · (try dsimp only); exact H4.out _ (box_store _ HE4.out HL1.out)
          clear hK K
          try simp only [Act.put, List.setIfInBounds_toArray, List.set_cons_zero, List.set_cons_succ]
          refine wpAnyH_ready (rs := [11]) (by kernel_rfl) (by simp) ?_
          refine consW rfl (fun K hK => ?_) AllReadyH.nil
          have g0 : (u4.setCell ⟨u2.heap.size, 0, none⟩ (.slice o_x n_x c_x)).heap[u3.heap.size]? = some (.cells #[.slice none 0 0] 25 (0, 0)) := by rw [heap_setCell_other _ ⟨u2.heap.size, 0, none⟩ (u3.heap.size) _ (by show u3.heap.size ≠ u2.heap.size; exact HNE.out.symm)]; exact HR_y.out
          have g1 := drow_cell g0; have g2 := row_free g0
          go_simp
          clear g0 g1 g2
          refine hK.out _ _ ?_ (fun hHeld => ?_)
          · (try dsimp only); exact H4.out _ (box_store _ (box_store _ HE4.out HL1.out) HL2.out)
          clear hK K
          try simp only [Act.put, List.setIfInBounds_toArray, List.set_cons_zero, List.set_cons_succ]
          refine wpAnyH_done (by kernel_rfl) ?_ _
          go_wp2_with fail
          go_meet
          exact ⟨_, _, _, _, _, _, _, _, rfl, rfl, by omega, by omega, HTW.out⟩
        refine consW rfl (fun K hK => ?_) AllReadyH.nil
        obtain ⟨u3, hu⟩ : ∃ u, u2.alloc (.cells #[.slice none 0 0] 25) = u := ⟨_, rfl⟩
        have HX3 := Lib.hid (show Ext u2 u3 by rw [← hu]; exact (Ext.refl _).alloc _); have HE3 := Lib.hid (HE2.out.trans HX3.out)
        have HB_y := Lib.hid (show u3.heap[u2.heap.size]? = some (.cells #[.slice none 0 0] 25 (0, 0)) by rw [← hu]; exact heap_alloc_new u2 _)
        have HS_y := Lib.hid (show u3.heap.size = u2.heap.size + 1 by rw [← hu, alloc_size])
        have HU := Lib.hid hu; clear hu
        go_simp
        rw [HU.out]
        clear HU
        refine hK.out _ _ ?_ (fun hHeld => ?_)
        · (try dsimp only); exact H4.out _ HE3.out
        clear hK K
        try simp only [Act.put, List.setIfInBounds_toArray, List.set_cons_zero, List.set_cons_succ]
        refine wpAnyH_ready (rs := [8]) (by kernel_rfl) (by simp) ?_
        refine consW rfl (fun K hK => ?_) AllReadyH.nil
        obtain ⟨u4, hu⟩ : ∃ u, u3.alloc (.cells #[.slice none 0 0] 25) = u := ⟨_, rfl⟩
        have HX4 := Lib.hid (show Ext u3 u4 by rw [← hu]; exact (Ext.refl _).alloc _); have HE4 := Lib.hid (HE3.out.trans HX4.out)
        have HB_x := Lib.hid (show u4.heap[u3.heap.size]? = some (.cells #[.slice none 0 0] 25 (0, 0)) by rw [← hu]; exact heap_alloc_new u3 _)
        have HS_x := Lib.hid (show u4.heap.size = u3.heap.size + 1 by rw [← hu, alloc_size])
        have HU := Lib.hid hu; clear hu
        go_simp
        rw [HU.out]
        clear HU
        refine hK.out _ _ ?_ (fun hHeld => ?_)
        · (try dsimp only); exact H4.out _ HE4.out
        clear hK K
        try simp only [Act.put, List.setIfInBounds_toArray, List.set_cons_zero, List.set_cons_succ]
        refine wpAnyH_ready (rs := [10]) (by kernel_rfl) (by simp) ?_
        refine consW rfl (fun K hK => ?_) AllReadyH.nil
        have HR_x := HB_x
        have HR_y := Lib.hid (rowE HX4.out HB_y.out)
        have HNE := Lib.hid (show u3.heap.size ≠ u2.heap.size by have z1 := HX1.out.size; have z2 := HX2.out.size; have z3 := HX3.out.size; have z4 := HX4.out.size; have y_x := HS_x.out; have y_y := HS_y.out; have z0 := HE0.out.size; omega)
        have HL1 := Lib.hid (show Z.heap.size ≤ u3.heap.size by have z1 := HX1.out.size; have z2 := HX2.out.size; have z3 := HX3.out.size; have z4 := HX4.out.size; have y_x := HS_x.out; have y_y := HS_y.out; have z0 := HE0.out.size; omega); have HL2 := Lib.hid (show Z.heap.size ≤ u2.heap.size by have z1 := HX1.out.size; have z2 := HX2.out.size; have z3 := HX3.out.size; have z4 := HX4.out.size; have y_x := HS_x.out; have y_y := HS_y.out; have z0 := HE0.out.size; omega)
        have HP_x := Lib.hid (show ∀ q, blk o_x = some q → q ≠ u3.heap.size ∧ q ≠ u2.heap.size from fun q hq => by have g := HG_x.out q hq; have z1 := HX1.out.size; have z2 := HX2.out.size; have z3 := HX3.out.size; have z4 := HX4.out.size; have y_x := HS_x.out; have y_y := HS_y.out; have z0 := HE0.out.size; omega)
        have HP_y := Lib.hid (show ∀ q, blk o_y = some q → q ≠ u3.heap.size ∧ q ≠ u2.heap.size from fun q hq => by have g := HG_y.out q hq; have z1 := HX1.out.size; have z2 := HX2.out.size; have z3 := HX3.out.size; have z4 := HX4.out.size; have y_x := HS_x.out; have y_y := HS_y.out; have z0 := HE0.out.size; omega)
        have HPP := Lib.hid (show ∀ q, blk o_x = some q → blk o_y ≠ some q from fun q hq h2 => by have g := HG_x.out q hq; have g2 := HG_y.out q h2; have z1 := HX1.out.size; have z2 := HX2.out.size; have z3 := HX3.out.size; have z4 := HX4.out.size; have y_x := HS_x.out; have y_y := HS_y.out; have z0 := HE0.out.size; omega)
        have HQ_x := Lib.hid ((HO_x.out.old (Ext.trans HX2.out (Ext.trans HX3.out HX4.out))).mono (show Z.heap.size ≤ u0.heap.size by have z1 := HX1.out.size; have z2 := HX2.out.size; have z3 := HX3.out.size; have z4 := HX4.out.size; have y_x := HS_x.out; have y_y := HS_y.out; have z0 := HE0.out.size; omega))
        have HQ_y := Lib.hid ((HO_y.out.old (Ext.trans HX3.out HX4.out)).mono (show Z.heap.size ≤ u1.heap.size by have z1 := HX1.out.size; have z2 := HX2.out.size; have z3 := HX3.out.size; have z4 := HX4.out.size; have y_x := HS_x.out; have y_y := HS_y.out; have z0 := HE0.out.size; omega))
        have HTW := Lib.hid (two_boxes (u1 := .slice o_x n_x c_x) (u2 := .slice o_y n_y c_y) HR_x.out HR_y.out HNE.out HE4.out HL1.out HL2.out HQ_x.out HQ_y.out HP_x.out HP_y.out HPP.out rfl rfl)
        have g1 := drow_cell HR_x.out; have g2 := row_free HR_x.out
        go_simp
        clear g1 g2
        refine hK.out _ _ ?_ (fun hHeld => ?_)
        · (try dsimp only); exact H4.out _ (box_store _ HE4.out HL1.out)
        clear hK K
        try simp only [Act.put, List.setIfInBounds_toArray, List.set_cons_zero, List.set_cons_succ]
        refine wpAnyH_ready (rs := [11]) (by kernel_rfl) (by simp) ?_
        refine consW rfl (fun K hK => ?_) AllReadyH.nil
        have g0 : (u4.setCell ⟨u3.heap.size, 0, none⟩ (.slice o_x n_x c_x)).heap[u2.heap.size]? = some (.cells #[.slice none 0 0] 25 (0, 0)) := by rw [heap_setCell_other _ ⟨u3.heap.size, 0, none⟩ (u2.heap.size) _ (by show u2.heap.size ≠ u3.heap.size; exact HNE.out.symm)]; exact HR_y.out
        have g1 := drow_cell g0; have g2 := row_free g0
        go_simp
        clear g0 g1 g2
        refine hK.out _ _ ?_ (fun hHeld => ?_)
        · (try dsimp only); exact H4.out _ (box_store _ (box_store _ HE4.out HL1.out) HL2.out)
        clear hK K
        try simp only [Act.put, List.setIfInBounds_toArray, List.set_cons_zero, List.set_cons_succ]
        refine wpAnyH_done (by kernel_rfl) ?_ _
        go_wp2_with fail
        go_meet
        exact ⟨_, _, _, _, _, _, _, _, rfl, rfl, by omega, by omega, HTW.out⟩
      refine consW rfl (fun K hK => ?_) ?_
      · obtain ⟨u2, hu⟩ : ∃ u, u1.alloc (.cells #[.slice none 0 0] 25) = u := ⟨_, rfl⟩
        have HX2 := Lib.hid (show Ext u1 u2 by rw [← hu]; exact (Ext.refl _).alloc _); have HE2 := Lib.hid (HE1.out.trans HX2.out)
        have HB_x := Lib.hid (show u2.heap[u1.heap.size]? = some (.cells #[.slice none 0 0] 25 (0, 0)) by rw [← hu]; exact heap_alloc_new u1 _)
        have HS_x := Lib.hid (show u2.heap.size = u1.heap.size + 1 by rw [← hu, alloc_size])
        have HU := Lib.hid hu; clear hu
        go_simp
        rw [HU.out]
        clear HU
        refine hK.out _ _ ?_ (fun hHeld => ?_)
        · (try dsimp only); exact H4.out _ HE2.out
        clear hK K
        try simp only [Act.put, List.setIfInBounds_toArray, List.set_cons_zero, List.set_cons_succ]
        refine wpAnyH_ready (rs := [6, 9]) (by kernel_rfl) (by simp) ?_
        refine consW rfl (fun K hK => ?_) ?_
        · go_simp
          go_at_call 7
          refine (copy_calls (HA2.out.old ((Ext.trans D1.out (Ext.trans D2.out (Ext.trans D3.out D4.out))).trans HE2.out)) (by omega)).mono ?_
          rintro e u3 ⟨o_y, n_y, c_y, rfl, ho, hx, hn_y⟩
          have HX3 := Lib.hid hx; have HE3 := Lib.hid (HE2.out.trans hx); have HO_y := Lib.hid ho; have HG_y := Lib.hid (fun q h => ho.ge q h)
          clear ho hx
          try go_wp2_with fail
          refine hK.out _ _ ?_ (fun hHeld => ?_)
          · (try dsimp only); exact H4.out _ HE3.out
          clear hK K
          try simp only [Act.put, List.setIfInBounds_toArray, List.set_cons_zero, List.set_cons_succ]
          refine takeW (i := 7) (v := ?_) rfl (by kernel_rfl) (by kernel_rfl) (by kernel_rfl) (fun _ _ _ h => h) (Or.inl ⟨by rfl, ?_⟩) (by assumption) ?_
          rotate_left
          · (intro wz hSw; (try dsimp only at hSw); go_simp <;> with_reducible rfl)
          try simp only [Act.put, List.setIfInBounds_toArray, List.set_cons_zero, List.set_cons_succ]
          refine wpAnyH_ready (rs := [9]) (by kernel_rfl) (by simp) ?_
          refine consW rfl (fun K hK => ?_) AllReadyH.nil
          obtain ⟨u4, hu⟩ : ∃ u, u3.alloc (.cells #[.slice none 0 0] 25) = u := ⟨_, rfl⟩
          have HX4 := Lib.hid (show Ext u3 u4 by rw [← hu]; exact (Ext.refl _).alloc _); have HE4 := Lib.hid (HE3.out.trans HX4.out)
          have HB_y := Lib.hid (show u4.heap[u3.heap.size]? = some (.cells #[.slice none 0 0] 25 (0, 0)) by rw [← hu]; exact heap_alloc_new u3 _)
          have HS_y := Lib.hid (show u4.heap.size = u3.heap.size + 1 by rw [← hu, alloc_size])
          have HU := Lib.hid hu; clear hu
          go_simp
          rw [HU.out]
          clear HU
          refine hK.out _ _ ?_ (fun hHeld => ?_)
          · (try dsimp only); exact H4.out _ HE4.out
          clear hK K
          try simp only [Act.put, List.setIfInBounds_toArray, List.set_cons_zero, List.set_cons_succ]
          refine wpAnyH_ready (rs := [10]) (by kernel_rfl) (by simp) ?_
          refine consW rfl (fun K hK => ?_) AllReadyH.nil
          have HR_x := Lib.hid (rowE (Ext.trans HX3.out HX4.out) HB_x.out)
          have HR_y := HB_y
          have HNE := Lib.hid (show u1.heap.size ≠ u3.heap.size by have z1 := HX1.out.size; have z2 := HX2.out.size; have z3 := HX3.out.size; have z4 := HX4.out.size; have y_x := HS_x.out; have y_y := HS_y.out; have z0 := HE0.out.size; omega)
          have HL1 := Lib.hid (show Z.heap.size ≤ u1.heap.size by have z1 := HX1.out.size; have z2 := HX2.out.size; have z3 := HX3.out.size; have z4 := HX4.out.size; have y_x := HS_x.out; have y_y := HS_y.out; have z0 := HE0.out.size; omega); have HL2 := Lib.hid (show Z.heap.size ≤ u3.heap.size by have z1 := HX1.out.size; have z2 := HX2.out.size; have z3 := HX3.out.size; have z4 := HX4.out.size; have y_x := HS_x.out; have y_y := HS_y.out; have z0 := HE0.out.size; omega)
          have HP_x := Lib.hid (show ∀ q, blk o_x = some q → q ≠ u1.heap.size ∧ q ≠ u3.heap.size from fun q hq => by have g := HG_x.out q hq; have z1 := HX1.out.size; have z2 := HX2.out.size; have z3 := HX3.out.size; have z4 := HX4.out.size; have y_x := HS_x.out; have y_y := HS_y.out; have z0 := HE0.out.size; omega)
          have HP_y := Lib.hid (show ∀ q, blk o_y = some q → q ≠ u1.heap.size ∧ q ≠ u3.heap.size from fun q hq => by have g := HG_y.out q hq; have z1 := HX1.out.size; have z2 := HX2.out.size; have z3 := HX3.out.size; have z4 := HX4.out.size; have y_x := HS_x.out; have y_y := HS_y.out; have z0 := HE0.out.size; omega)
          have HPP := Lib.hid (show ∀ q, blk o_x = some q → blk o_y ≠ some q from fun q hq h2 => by have g := HG_x.out q hq; have g2 := HG_y.out q h2; have z1 := HX1.out.size; have z2 := HX2.out.size; have z3 := HX3.out.size; have z4 := HX4.out.size; have y_x := HS_x.out; have y_y := HS_y.out; have z0 := HE0.out.size; omega)
          have HQ_x := Lib.hid ((HO_x.out.old (Ext.trans HX2.out (Ext.trans HX3.out HX4.out))).mono (show Z.heap.size ≤ u0.heap.size by have z1 := HX1.out.size; have z2 := HX2.out.size; have z3 := HX3.out.size; have z4 := HX4.out.size; have y_x := HS_x.out; have y_y := HS_y.out; have z0 := HE0.out.size; omega))
          have HQ_y := Lib.hid ((HO_y.out.old HX4.out).mono (show Z.heap.size ≤ u2.heap.size by have z1 := HX1.out.size; have z2 := HX2.out.size; have z3 := HX3.out.size; have z4 := HX4.out.size; have y_x := HS_x.out; have y_y := HS_y.out; have z0 := HE0.out.size; omega))
          have HTW := Lib.hid (two_boxes (u1 := .slice o_x n_x c_x) (u2 := .slice o_y n_y c_y) HR_x.out HR_y.out HNE.out HE4.out HL1.out HL2.out HQ_x.out HQ_y.out HP_x.out HP_y.out HPP.out rfl rfl)
          have g1 := drow_cell HR_x.out; have g2 := row_free HR_x.out
          go_simp
          clear g1 g2
          refine hK.out _ _ ?_ (fun hHeld => ?_)
          · (try dsimp only); exact H4.out _ (box_store _ HE4.out HL1.out)
          clear hK K
          try simp only [Act.put, List.setIfInBounds_toArray, List.set_cons_zero, List.set_cons_succ]
          refine wpAnyH_ready (rs := [11]) (by kernel_rfl) (by simp) ?_
          refine consW rfl (fun K hK => ?_) AllReadyH.nil
          have g0 : (u4.setCell ⟨u1.heap.size, 0, none⟩ (.slice o_x n_x c_x)).heap[u3.heap.size]? = some (.cells #[.slice none 0 0] 25 (0, 0)) := by rw [heap_setCell_other _ ⟨u1.heap.size, 0, none⟩ (u3.heap.size) _ (by show u3.heap.size ≠ u1.heap.size; exact HNE.out.symm)]; exact HR_y.out
          have g1 := drow_cell g0; have g2 := row_free g0
          go_simp
          clear g0 g1 g2
          refine hK.out _ _ ?_ (fun hHeld => ?_)
          · (try dsimp only); exact H4.out _ (box_store _ (box_store _ HE4.out HL1.out) HL2.out)
          clear hK K
          try simp only [Act.put, List.setIfInBounds_toArray, List.set_cons_zero, List.set_cons_succ]
          refine wpAnyH_done (by kernel_rfl) ?_ _
          go_wp2_with fail
          go_meet
          exact ⟨_, _, _, _, _, _, _, _, rfl, rfl, by omega, by omega, HTW.out⟩
        refine consW rfl (fun K hK => ?_) AllReadyH.nil
        obtain ⟨u3, hu⟩ : ∃ u, u2.alloc (.cells #[.slice none 0 0] 25) = u := ⟨_, rfl⟩
        have HX3 := Lib.hid (show Ext u2 u3 by rw [← hu]; exact (Ext.refl _).alloc _); have HE3 := Lib.hid (HE2.out.trans HX3.out)
        have HB_y := Lib.hid (show u3.heap[u2.heap.size]? = some (.cells #[.slice none 0 0] 25 (0, 0)) by rw [← hu]; exact heap_alloc_new u2 _)
        have HS_y := Lib.hid (show u3.heap.size = u2.heap.size + 1 by rw [← hu, alloc_size])
        have HU := Lib.hid hu; clear hu
        go_simp
        rw [HU.out]
        clear HU
        refine hK.out _ _ ?_ (fun hHeld => ?_)
        · (try dsimp only); exact H4.out _ HE3.out
        clear hK K
        try simp only [Act.put, List.setIfInBounds_toArray, List.set_cons_zero, List.set_cons_succ]
        refine wpAnyH_ready (rs := [6]) (by kernel_rfl) (by simp) ?_
        refine consW rfl (fun K hK => ?_) AllReadyH.nil
        go_simp
        go_at_call 7
        refine (copy_calls (HA2.out.old ((Ext.trans D1.out (Ext.trans D2.out (Ext.trans D3.out D4.out))).trans HE3.out)) (by omega)).mono ?_
        rintro e u4 ⟨o_y, n_y, c_y, rfl, ho, hx, hn_y⟩
        have HX4 := Lib.hid hx; have HE4 := Lib.hid (HE3.out.trans hx); have HO_y := Lib.hid ho; have HG_y := Lib.hid (fun q h => ho.ge q h)
        clear ho hx
        try go_wp2_with fail
        refine hK.out _ _ ?_ (fun hHeld => ?_)
        · (try dsimp only); exact H4.out _ HE4.out
        clear hK K
        try simp only [Act.put, List.setIfInBounds_toArray, List.set_cons_zero, List.set_cons_succ]
        refine takeW (i := 7) (v := ?_) rfl (by kernel_rfl) (by kernel_rfl) (by kernel_rfl) (fun _ _ _ h => h) (Or.inl ⟨by rfl, ?_⟩) (by assumption) ?_
        rotate_left
        · (intro wz hSw; (try dsimp only at hSw); go_simp <;> with_reducible rfl)
        try simp only [Act.put, List.setIfInBounds_toArray, List.set_cons_zero, List.set_cons_succ]
        refine wpAnyH_ready (rs := [10]) (by kernel_rfl) (by simp) ?_
        refine consW rfl (fun K hK => ?_) AllReadyH.nil
        have HR_x := Lib.hid (rowE (Ext.trans HX3.out HX4.out) HB_x.out)
        have HR_y := Lib.hid (rowE HX4.out HB_y.out)
        have HNE := Lib.hid (show u1.heap.size ≠ u2.heap.size by have z1 := HX1.out.size; have z2 := HX2.out.size; have z3 := HX3.out.size; have z4 := HX4.out.size; have y_x := HS_x.out; have y_y := HS_y.out; have z0 := HE0.out.size; omega)
        have HL1 := Lib.hid (show Z.heap.size ≤ u1.heap.size by have z1 := HX1.out.size; have z2 := HX2.out.size; have z3 := HX3.out.size; have z4 := HX4.out.size; have y_x := HS_x.out; have y_y := HS_y.out; have z0 := HE0.out.size; omega); have HL2 := Lib.hid (show Z.heap.size ≤ u2.heap.size by have z1 := HX1.out.size; have z2 := HX2.out.size; have z3 := HX3.out.size; have z4 := HX4.out.size; have y_x := HS_x.out; have y_y := HS_y.out; have z0 := HE0.out.size; omega)
        have HP_x := Lib.hid (show ∀ q, blk o_x = some q → q ≠ u1.heap.size ∧ q ≠ u2.heap.size from fun q hq => by have g := HG_x.out q hq; have z1 := HX1.out.size; have z2 := HX2.out.size; have z3 := HX3.out.size; have z4 := HX4.out.size; have y_x := HS_x.out; have y_y := HS_y.out; have z0 := HE0.out.size; omega)
        have HP_y := Lib.hid (show ∀ q, blk o_y = some q → q ≠ u1.heap.size ∧ q ≠ u2.heap.size from fun q hq => by have g := HG_y.out q hq; have z1 := HX1.out.size; have z2 := HX2.out.size; have z3 := HX3.out.size; have z4 := HX4.out.size; have y_x := HS_x.out; have y_y := HS_y.out; have z0 := HE0.out.size; omega)
        have HPP := Lib.hid (show ∀ q, blk o_x = some q → blk o_y ≠ some q from fun q hq h2 => by have g := HG_x.out q hq; have g2 := HG_y.out q h2; have z1 := HX1.out.size; have z2 := HX2.out.size; have z3 := HX3.out.size; have z4 := HX4.out.size; have y_x := HS_x.out; have y_y := HS_y.out; have z0 := HE0.out.size; omega)
        have HQ_x := Lib.hid ((HO_x.out.old (Ext.trans HX2.out (Ext.trans HX3.out HX4.out))).mono (show Z.heap.size ≤ u0.heap.size by have z1 := HX1.out.size; have z2 := HX2.out.size; have z3 := HX3.out.size; have z4 := HX4.out.size; have y_x := HS_x.out; have y_y := HS_y.out; have z0 := HE0.out.size; omega))
        have HQ_y := Lib.hid ((HO_y.out.old (Ext.refl _)).mono (show Z.heap.size ≤ u3.heap.size by have z1 := HX1.out.size; have z2 := HX2.out.size; have z3 := HX3.out.size; have z4 := HX4.out.size; have y_x := HS_x.out; have y_y := HS_y.out; have z0 := HE0.out.size; omega))
        have HTW := Lib.hid (two_boxes (u1 := .slice o_x n_x c_x) (u2 := .slice o_y n_y c_y) HR_x.out HR_y.out HNE.out HE4.out HL1.out HL2.out HQ_x.out HQ_y.out HP_x.out HP_y.out HPP.out rfl rfl)
        have g1 := drow_cell HR_x.out; have g2 := row_free HR_x.out
        go_simp
        clear g1 g2
        refine hK.out _ _ ?_ (fun hHeld => ?_)
        · (try dsimp only); exact H4.out _ (box_store _ HE4.out HL1.out)
        clear hK K
        try simp only [Act.put, List.setIfInBounds_toArray, List.set_cons_zero, List.set_cons_succ]
        refine wpAnyH_ready (rs := [11]) (by kernel_rfl) (by simp) ?_
        refine consW rfl (fun K hK => ?_) AllReadyH.nil
        have g0 : (u4.setCell ⟨u1.heap.size, 0, none⟩ (.slice o_x n_x c_x)).heap[u2.heap.size]? = some (.cells #[.slice none 0 0] 25 (0, 0)) := by rw [heap_setCell_other _ ⟨u1.heap.size, 0, none⟩ (u2.heap.size) _ (by show u2.heap.size ≠ u1.heap.size; exact HNE.out.symm)]; exact HR_y.out
        have g1 := drow_cell g0; have g2 := row_free g0
        go_simp
        clear g0 g1 g2
        refine hK.out _ _ ?_ (fun hHeld => ?_)
        · (try dsimp only); exact H4.out _ (box_store _ (box_store _ HE4.out HL1.out) HL2.out)
        clear hK K
        try simp only [Act.put, List.setIfInBounds_toArray, List.set_cons_zero, List.set_cons_succ]
        refine wpAnyH_done (by kernel_rfl) ?_ _
        go_wp2_with fail
        go_meet
        exact ⟨_, _, _, _, _, _, _, _, rfl, rfl, by omega, by omega, HTW.out⟩
      refine consW rfl (fun K hK => ?_) AllReadyH.nil
      obtain ⟨u2, hu⟩ : ∃ u, u1.alloc (.cells #[.slice none 0 0] 25) = u := ⟨_, rfl⟩
      have HX2 := Lib.hid (show Ext u1 u2 by rw [← hu]; exact (Ext.refl _).alloc _); have HE2 := Lib.hid (HE1.out.trans HX2.out)
      have HB_y := Lib.hid (show u2.heap[u1.heap.size]? = some (.cells #[.slice none 0 0] 25 (0, 0)) by rw [← hu]; exact heap_alloc_new u1 _)
      have HS_y := Lib.hid (show u2.heap.size = u1.heap.size + 1 by rw [← hu, alloc_size])
      have HU := Lib.hid hu; clear hu
      go_simp
      rw [HU.out]
      clear HU
      refine hK.out _ _ ?_ (fun hHeld => ?_)
      · (try dsimp only); exact H4.out _ HE2.out
      clear hK K
      try simp only [Act.put, List.setIfInBounds_toArray, List.set_cons_zero, List.set_cons_succ]
      refine wpAnyH_ready (rs := [6, 8]) (by kernel_rfl) (by simp) ?_
      refine consW rfl (fun K hK => ?_) ?_
      · go_simp
        go_at_call 7
        refine (copy_calls (HA2.out.old ((Ext.trans D1.out (Ext.trans D2.out (Ext.trans D3.out D4.out))).trans HE2.out)) (by omega)).mono ?_
        rintro e u3 ⟨o_y, n_y, c_y, rfl, ho, hx, hn_y⟩
        have HX3 := Lib.hid hx; have HE3 := Lib.hid (HE2.out.trans hx); have HO_y := Lib.hid ho; have HG_y := Lib.hid (fun q h => ho.ge q h)
        clear ho hx
        try go_wp2_with fail
        refine hK.out _ _ ?_ (fun hHeld => ?_)
        · (try dsimp only); exact H4.out _ HE3.out
        clear hK K
        try simp only [Act.put, List.setIfInBounds_toArray, List.set_cons_zero, List.set_cons_succ]
        refine takeW (i := 7) (v := ?_) rfl (by kernel_rfl) (by kernel_rfl) (by kernel_rfl) (fun _ _ _ h => h) (Or.inl ⟨by rfl, ?_⟩) (by assumption) ?_
        rotate_left
        · (intro wz hSw; (try dsimp only at hSw); go_simp <;> with_reducible rfl)
        try simp only [Act.put, List.setIfInBounds_toArray, List.set_cons_zero, List.set_cons_succ]
        refine wpAnyH_ready (rs := [8]) (by kernel_rfl) (by simp) ?_
        refine consW rfl (fun K hK => ?_) AllReadyH.nil
        obtain ⟨u4, hu⟩ : ∃ u, u3.alloc (.cells #[.slice none 0 0] 25) = u := ⟨_, rfl⟩
        have HX4 := Lib.hid (show Ext u3 u4 by rw [← hu]; exact (Ext.refl _).alloc _); have HE4 := Lib.hid (HE3.out.trans HX4.out)
        have HB_x := Lib.hid (show u4.heap[u3.heap.size]? = some (.cells #[.slice none 0 0] 25 (0, 0)) by rw [← hu]; exact heap_alloc_new u3 _)
        have HS_x := Lib.hid (show u4.heap.size = u3.heap.size + 1 by rw [← hu, alloc_size])
        have HU := Lib.hid hu; clear hu
        go_simp
        rw [HU.out]
        clear HU
        refine hK.out _ _ ?_ (fun hHeld => ?_)
        · (try dsimp only); exact H4.out _ HE4.out
        clear hK K
        try simp only [Act.put, List.setIfInBounds_toArray, List.set_cons_zero, List.set_cons_succ]
        refine wpAnyH_ready (rs := [10]) (by kernel_rfl) (by simp) ?_
        refine consW rfl (fun K hK => ?_) AllReadyH.nil
        have HR_x := HB_x
        have HR_y := Lib.hid (rowE (Ext.trans HX3.out HX4.out) HB_y.out)
        have HNE := Lib.hid (show u3.heap.size ≠ u1.heap.size by have z1 := HX1.out.size; have z2 := HX2.out.size; have z3 := HX3.out.size; have z4 := HX4.out.size; have y_x := HS_x.out; have y_y := HS_y.out; have z0 := HE0.out.size; omega)
        have HL1 := Lib.hid (show Z.heap.size ≤ u3.heap.size by have z1 := HX1.out.size; have z2 := HX2.out.size; have z3 := HX3.out.size; have z4 := HX4.out.size; have y_x := HS_x.out; have y_y := HS_y.out; have z0 := HE0.out.size; omega); have HL2 := Lib.hid (show Z.heap.size ≤ u1.heap.size by have z1 := HX1.out.size; have z2 := HX2.out.size; have z3 := HX3.out.size; have z4 := HX4.out.size; have y_x := HS_x.out; have y_y := HS_y.out; have z0 := HE0.out.size; omega)
        have HP_x := Lib.hid (show ∀ q, blk o_x = some q → q ≠ u3.heap.size ∧ q ≠ u1.heap.size from fun q hq => by have g := HG_x.out q hq; have z1 := HX1.out.size; have z2 := HX2.out.size; have z3 := HX3.out.size; have z4 := HX4.out.size; have y_x := HS_x.out; have y_y := HS_y.out; have z0 := HE0.out.size; omega)
        have HP_y := Lib.hid (show ∀ q, blk o_y = some q → q ≠ u3.heap.size ∧ q ≠ u1.heap.size from fun q hq => by have g := HG_y.out q hq; have z1 := HX1.out.size; have z2 := HX2.out.size; have z3 := HX3.out.size; have z4 := HX4.out.size; have y_x := HS_x.out; have y_y := HS_y.out; have z0 := HE0.out.size; omega)
        have HPP := Lib.hid (show ∀ q, blk o_x = some q → blk o_y ≠ some q from fun q hq h2 => by have g := HG_x.out q hq; have g2 := HG_y.out q h2; have z1 := HX1.out.size; have z2 := HX2.out.size; have z3 := HX3.out.size; have z4 := HX4.out.size; have y_x := HS_x.out; have y_y := HS_y.out; have z0 := HE0.out.size; omega)
        have HQ_x := Lib.hid ((HO_x.out.old (Ext.trans HX2.out (Ext.trans HX3.out HX4.out))).mono (show Z.heap.size ≤ u0.heap.size by have z1 := HX1.out.size; have z2 := HX2.out.size; have z3 := HX3.out.size; have z4 := HX4.out.size; have y_x := HS_x.out; have y_y := HS_y.out; have z0 := HE0.out.size; omega))
        have HQ_y := Lib.hid ((HO_y.out.old HX4.out).mono (show Z.heap.size ≤ u2.heap.size by have z1 := HX1.out.size; have z2 := HX2.out.size; have z3 := HX3.out.size; have z4 := HX4.out.size; have y_x := HS_x.out; have y_y := HS_y.out; have z0 := HE0.out.size; omega))
        have HTW := Lib.hid (two_boxes (u1 := .slice o_x n_x c_x) (u2 := .slice o_y n_y c_y) HR_x.out HR_y.out HNE.out HE4.out HL1.out HL2.out HQ_x.out HQ_y.out HP_x.out HP_y.out HPP.out rfl rfl)
        have g1 := drow_cell HR_x.out; have g2 := row_free HR_x.out
        go_simp
        clear g1 g2
        refine hK.out _ _ ?_ (fun hHeld => ?_)
        · (try dsimp only); exact H4.out _ (box_store _ HE4.out HL1.out)
        clear hK K
        try simp only [Act.put, List.setIfInBounds_toArray, List.set_cons_zero, List.set_cons_succ]
        refine wpAnyH_ready (rs := [11]) (by kernel_rfl) (by simp) ?_
        refine consW rfl (fun K hK => ?_) AllReadyH.nil
        have g0 : (u4.setCell ⟨u3.heap.size, 0, none⟩ (.slice o_x n_x c_x)).heap[u1.heap.size]? = some (.cells #[.slice none 0 0] 25 (0, 0)) := by rw [heap_setCell_other _ ⟨u3.heap.size, 0, none⟩ (u1.heap.size) _ (by show u1.heap.size ≠ u3.heap.size; exact HNE.out.symm)]; exact HR_y.out
        have g1 := drow_cell g0; have g2 := row_free g0
        go_simp
        clear g0 g1 g2
        refine hK.out _ _ ?_ (fun hHeld => ?_)
        · (try dsimp only); exact H4.out _ (box_store _ (box_store _ HE4.out HL1.out) HL2.out)
        clear hK K
        try simp only [Act.put, List.setIfInBounds_toArray, List.set_cons_zero, List.set_cons_succ]
        refine wpAnyH_done (by kernel_rfl) ?_ _
        go_wp2_with fail
        go_meet
        exact ⟨_, _, _, _, _, _, _, _, rfl, rfl, by omega, by omega, HTW.out⟩
      refine consW rfl (fun K hK => ?_) AllReadyH.nil
      obtain ⟨u3, hu⟩ : ∃ u, u2.alloc (.cells #[.slice none 0 0] 25) = u := ⟨_, rfl⟩
      have HX3 := Lib.hid (show Ext u2 u3 by rw [← hu]; exact (Ext.refl _).alloc _); have HE3 := Lib.hid (HE2.out.trans HX3.out)
      have HB_x := Lib.hid (show u3.heap[u2.heap.size]? = some (.cells #[.slice none 0 0] 25 (0, 0)) by rw [← hu]; exact heap_alloc_new u2 _)
      have HS_x := Lib.hid (show u3.heap.size = u2.heap.size + 1 by rw [← hu, alloc_size])
      have HU := Lib.hid hu; clear hu
      go_simp
      rw [HU.out]
      clear HU
      refine hK.out _ _ ?_ (fun hHeld => ?_)
      · (try dsimp only); exact H4.out _ HE3.out
      clear hK K
      try simp only [Act.put, List.setIfInBounds_toArray, List.set_cons_zero, List.set_cons_succ]
      refine wpAnyH_ready (rs := [6]) (by kernel_rfl) (by simp) ?_
      refine consW rfl (fun K hK => ?_) AllReadyH.nil
      go_simp
      go_at_call 7
      refine (copy_calls (HA2.out.old ((Ext.trans D1.out (Ext.trans D2.out (Ext.trans D3.out D4.out))).trans HE3.out)) (by omega)).mono ?_
      rintro e u4 ⟨o_y, n_y, c_y, rfl, ho, hx, hn_y⟩
      have HX4 := Lib.hid hx; have HE4 := Lib.hid (HE3.out.trans hx); have HO_y := Lib.hid ho; have HG_y := Lib.hid (fun q h => ho.ge q h)
      clear ho hx
      try go_wp2_with fail
      refine hK.out _ _ ?_ (fun hHeld => ?_)
      · (try dsimp only); exact H4.out _ HE4.out
      clear hK K
      try simp only [Act.put, List.setIfInBounds_toArray, List.set_cons_zero, List.set_cons_succ]
      refine takeW (i := 7) (v := ?_) rfl (by kernel_rfl) (by kernel_rfl) (by kernel_rfl) (fun _ _ _ h => h) (Or.inl ⟨by rfl, ?_⟩) (by assumption) ?_
      rotate_left
      · (intro wz hSw; (try dsimp only at hSw); go_simp <;> with_reducible rfl)
      try simp only [Act.put, List.setIfInBounds_toArray, List.set_cons_zero, List.set_cons_succ]
      refine wpAnyH_ready (rs := [10]) (by kernel_rfl) (by simp) ?_
      refine consW rfl (fun K hK => ?_) AllReadyH.nil
      have HR_x := Lib.hid (rowE HX4.out HB_x.out)
      have HR_y := Lib.hid (rowE (Ext.trans HX3.out HX4.out) HB_y.out)
      have HNE := Lib.hid (show u2.heap.size ≠ u1.heap.size by have z1 := HX1.out.size; have z2 := HX2.out.size; have z3 := HX3.out.size; have z4 := HX4.out.size; have y_x := HS_x.out; have y_y := HS_y.out; have z0 := HE0.out.size; omega)
      have HL1 := Lib.hid (show Z.heap.size ≤ u2.heap.size by have z1 := HX1.out.size; have z2 := HX2.out.size; have z3 := HX3.out.size; have z4 := HX4.out.size; have y_x := HS_x.out; have y_y := HS_y.out; have z0 := HE0.out.size; omega); have HL2 := Lib.hid (show Z.heap.size ≤ u1.heap.size by have z1 := HX1.out.size; have z2 := HX2.out.size; have z3 := HX3.out.size; have z4 := HX4.out.size; have y_x := HS_x.out; have y_y := HS_y.out; have z0 := HE0.out.size; omega)
      have HP_x := Lib.hid (show ∀ q, blk o_x = some q → q ≠ u2.heap.size ∧ q ≠ u1.heap.size from fun q hq => by have g := HG_x.out q hq; have z1 := HX1.out.size; have z2 := HX2.out.size; have z3 := HX3.out.size; have z4 := HX4.out.size; have y_x := HS_x.out; have y_y := HS_y.out; have z0 := HE0.out.size; omega)
      have HP_y := Lib.hid (show ∀ q, blk o_y = some q → q ≠ u2.heap.size ∧ q ≠ u1.heap.size from fun q hq => by have g := HG_y.out q hq; have z1 := HX1.out.size; have z2 := HX2.out.size; have z3 := HX3.out.size; have z4 := HX4.out.size; have y_x := HS_x.out; have y_y := HS_y.out; have z0 := HE0.out.size; omega)
      have HPP := Lib.hid (show ∀ q, blk o_x = some q → blk o_y ≠ some q from fun q hq h2 => by have g := HG_x.out q hq; have g2 := HG_y.out q h2; have z1 := HX1.out.size; have z2 := HX2.out.size; have z3 := HX3.out.size; have z4 := HX4.out.size; have y_x := HS_x.out; have y_y := HS_y.out; have z0 := HE0.out.size; omega)
      have HQ_x := Lib.hid ((HO_x.out.old (Ext.trans HX2.out (Ext.trans HX3.out HX4.out))).mono (show Z.heap.size ≤ u0.heap.size by have z1 := HX1.out.size; have z2 := HX2.out.size; have z3 := HX3.out.size; have z4 := HX4.out.size; have y_x := HS_x.out; have y_y := HS_y.out; have z0 := HE0.out.size; omega))
      have HQ_y := Lib.hid ((HO_y.out.old (Ext.refl _)).mono (show Z.heap.size ≤ u3.heap.size by have z1 := HX1.out.size; have z2 := HX2.out.size; have z3 := HX3.out.size; have z4 := HX4.out.size; have y_x := HS_x.out; have y_y := HS_y.out; have z0 := HE0.out.size; omega))
      have HTW := Lib.hid (two_boxes (u1 := .slice o_x n_x c_x) (u2 := .slice o_y n_y c_y) HR_x.out HR_y.out HNE.out HE4.out HL1.out HL2.out HQ_x.out HQ_y.out HP_x.out HP_y.out HPP.out rfl rfl)
      have g1 := drow_cell HR_x.out; have g2 := row_free HR_x.out
      go_simp
      clear g1 g2
      refine hK.out _ _ ?_ (fun hHeld => ?_)
      · (try dsimp only); exact H4.out _ (box_store _ HE4.out HL1.out)
      clear hK K
      try simp only [Act.put, List.setIfInBounds_toArray, List.set_cons_zero, List.set_cons_succ]
      refine wpAnyH_ready (rs := [11]) (by kernel_rfl) (by simp) ?_
      refine consW rfl (fun K hK => ?_) AllReadyH.nil
      have g0 : (u4.setCell ⟨u2.heap.size, 0, none⟩ (.slice o_x n_x c_x)).heap[u1.heap.size]? = some (.cells #[.slice none 0 0] 25 (0, 0)) := by rw [heap_setCell_other _ ⟨u2.heap.size, 0, none⟩ (u1.heap.size) _ (by show u1.heap.size ≠ u2.heap.size; exact HNE.out.symm)]; exact HR_y.out
      have g1 := drow_cell g0; have g2 := row_free g0
      go_simp
      clear g0 g1 g2
      refine hK.out _ _ ?_ (fun hHeld => ?_)
      · (try dsimp only); exact H4.out _ (box_store _ (box_store _ HE4.out HL1.out) HL2.out)
      clear hK K
      try simp only [Act.put, List.setIfInBounds_toArray, List.set_cons_zero, List.set_cons_succ]
      refine wpAnyH_done (by kernel_rfl) ?_ _
      go_wp2_with fail
      go_meet
      exact ⟨_, _, _, _, _, _, _, _, rfl, rfl, by omega, by omega, HTW.out⟩
    refine consW rfl (fun K hK => ?_) ?_
    · obtain ⟨u1, hu⟩ : ∃ u, u0.alloc (.cells #[.slice none 0 0] 25) = u := ⟨_, rfl⟩
      have HX1 := Lib.hid (show Ext u0 u1 by rw [← hu]; exact (Ext.refl _).alloc _); have HE1 := Lib.hid (HE0.out.trans HX1.out)
      have HB_x := Lib.hid (show u1.heap[u0.heap.size]? = some (.cells #[.slice none 0 0] 25 (0, 0)) by rw [← hu]; exact heap_alloc_new u0 _)
      have HS_x := Lib.hid (show u1.heap.size = u0.heap.size + 1 by rw [← hu, alloc_size])
      have HU := Lib.hid hu; clear hu
      go_simp
      rw [HU.out]
      clear HU
      refine hK.out _ _ ?_ (fun hHeld => ?_)
      · (try dsimp only); exact H4.out _ HE1.out
      clear hK K
      try simp only [Act.put, List.setIfInBounds_toArray, List.set_cons_zero, List.set_cons_succ]
      refine wpAnyH_ready (rs := [2, 9]) (by kernel_rfl) (by simp) ?_
      refine consW rfl (fun K hK => ?_) ?_
      · go_simp
        go_at_call 7
        refine (copy_calls (HA1.out.old ((Ext.trans D1.out (Ext.trans D2.out (Ext.trans D3.out D4.out))).trans HE1.out)) (by omega)).mono ?_
        rintro e u2 ⟨o_x, n_x, c_x, rfl, ho, hx, hn_x⟩
        have HX2 := Lib.hid hx; have HE2 := Lib.hid (HE1.out.trans hx); have HO_x := Lib.hid ho; have HG_x := Lib.hid (fun q h => ho.ge q h)
        clear ho hx
        try go_wp2_with fail
        refine hK.out _ _ ?_ (fun hHeld => ?_)
        · (try dsimp only); exact H4.out _ HE2.out
        clear hK K
        try simp only [Act.put, List.setIfInBounds_toArray, List.set_cons_zero, List.set_cons_succ]
        refine takeW (i := 3) (v := ?_) rfl (by kernel_rfl) (by kernel_rfl) (by kernel_rfl) (fun _ _ _ h => h) (Or.inl ⟨by rfl, ?_⟩) (by assumption) ?_
        rotate_left
        · (intro wz hSw; (try dsimp only at hSw); go_simp <;> with_reducible rfl)
        try simp only [Act.put, List.setIfInBounds_toArray, List.set_cons_zero, List.set_cons_succ]
        refine wpAnyH_ready (rs := [6, 9]) (by kernel_rfl) (by simp) ?_
        refine consW rfl (fun K hK => ?_) ?_
        · go_simp
          go_at_call 7
          refine (copy_calls (HA2.out.old ((Ext.trans D1.out (Ext.trans D2.out (Ext.trans D3.out D4.out))).trans HE2.out)) (by omega)).mono ?_
          rintro e u3 ⟨o_y, n_y, c_y, rfl, ho, hx, hn_y⟩
          have HX3 := Lib.hid hx; have HE3 := Lib.hid (HE2.out.trans hx); have HO_y := Lib.hid ho; have HG_y := Lib.hid (fun q h => ho.ge q h)
          clear ho hx
          try go_wp2_with fail
          refine hK.out _ _ ?_ (fun hHeld => ?_)
          · (try dsimp only); exact H4.out _ HE3.out
          clear hK K
          try simp only [Act.put, List.setIfInBounds_toArray, List.set_cons_zero, List.set_cons_succ]
          refine takeW (i := 7) (v := ?_) rfl (by kernel_rfl) (by kernel_rfl) (by kernel_rfl) (fun _ _ _ h => h) (Or.inl ⟨by rfl, ?_⟩) (by assumption) ?_
          rotate_left
          · (intro wz hSw; (try dsimp only at hSw); go_simp <;> with_reducible rfl)
          try simp only [Act.put, List.setIfInBounds_toArray, List.set_cons_zero, List.set_cons_succ]
          refine wpAnyH_ready (rs := [9]) (by kernel_rfl) (by simp) ?_
          refine consW rfl (fun K hK => ?_) AllReadyH.nil
          obtain ⟨u4, hu⟩ : ∃ u, u3.alloc (.cells #[.slice none 0 0] 25) = u := ⟨_, rfl⟩
          have HX4 := Lib.hid (show Ext u3 u4 by rw [← hu]; exact (Ext.refl _).alloc _); have HE4 := Lib.hid (HE3.out.trans HX4.out)
          have HB_y := Lib.hid (show u4.heap[u3.heap.size]? = some (.cells #[.slice none 0 0] 25 (0, 0)) by rw [← hu]; exact heap_alloc_new u3 _)
          have HS_y := Lib.hid (show u4.heap.size = u3.heap.size + 1 by rw [← hu, alloc_size])
          have HU := Lib.hid hu; clear hu
          go_simp
          rw [HU.out]
          clear HU
          refine hK.out _ _ ?_ (fun hHeld => ?_)
          · (try dsimp only); exact H4.out _ HE4.out
          clear hK K
          try simp only [Act.put, List.setIfInBounds_toArray, List.set_cons_zero, List.set_cons_succ]
          refine wpAnyH_ready (rs := [10]) (by kernel_rfl) (by simp) ?_
          refine consW rfl (fun K hK => ?_) AllReadyH.nil
          have HR_x := Lib.hid (rowE (Ext.trans HX2.out (Ext.trans HX3.out HX4.out)) HB_x.out)
          have HR_y := HB_y
          have HNE := Lib.hid (show u0.heap.size ≠ u3.heap.size by have z1 := HX1.out.size; have z2 := HX2.out.size; have z3 := HX3.out.size; have z4 := HX4.out.size; have y_x := HS_x.out; have y_y := HS_y.out; have z0 := HE0.out.size; omega)
          have HL1 := Lib.hid (show Z.heap.size ≤ u0.heap.size by have z1 := HX1.out.size; have z2 := HX2.out.size; have z3 := HX3.out.size; have z4 := HX4.out.size; have y_x := HS_x.out; have y_y := HS_y.out; have z0 := HE0.out.size; omega); have HL2 := Lib.hid (show Z.heap.size ≤ u3.heap.size by have z1 := HX1.out.size; have z2 := HX2.out.size; have z3 := HX3.out.size; have z4 := HX4.out.size; have y_x := HS_x.out; have y_y := HS_y.out; have z0 := HE0.out.size; omega)
          have HP_x := Lib.hid (show ∀ q, blk o_x = some q → q ≠ u0.heap.size ∧ q ≠ u3.heap.size from fun q hq => by have g := HG_x.out q hq; have z1 := HX1.out.size; have z2 := HX2.out.size; have z3 := HX3.out.size; have z4 := HX4.out.size; have y_x := HS_x.out; have y_y := HS_y.out; have z0 := HE0.out.size; omega)
          have HP_y := Lib.hid (show ∀ q, blk o_y = some q → q ≠ u0.heap.size ∧ q ≠ u3.heap.size from fun q hq => by have g := HG_y.out q hq; have z1 := HX1.out.size; have z2 := HX2.out.size; have z3 := HX3.out.size; have z4 := HX4.out.size; have y_x := HS_x.out; have y_y := HS_y.out; have z0 := HE0.out.size; omega)
          have HPP := Lib.hid (show ∀ q, blk o_x = some q → blk o_y ≠ some q from fun q hq h2 => by have g := HG_x.out q hq; have g2 := HG_y.out q h2; have z1 := HX1.out.size; have z2 := HX2.out.size; have z3 := HX3.out.size; have z4 := HX4.out.size; have y_x := HS_x.out; have y_y := HS_y.out; have z0 := HE0.out.size; omega)
          have HQ_x := Lib.hid ((HO_x.out.old (Ext.trans HX3.out HX4.out)).mono (show Z.heap.size ≤ u1.heap.size by have z1 := HX1.out.size; have z2 := HX2.out.size; have z3 := HX3.out.size; have z4 := HX4.out.size; have y_x := HS_x.out; have y_y := HS_y.out; have z0 := HE0.out.size; omega))
          have HQ_y := Lib.hid ((HO_y.out.old HX4.out).mono (show Z.heap.size ≤ u2.heap.size by have z1 := HX1.out.size; have z2 := HX2.out.size; have z3 := HX3.out.size; have z4 := HX4.out.size; have y_x := HS_x.out; have y_y := HS_y.out; have z0 := HE0.out.size; omega))
          have HTW := Lib.hid (two_boxes (u1 := .slice o_x n_x c_x) (u2 := .slice o_y n_y c_y) HR_x.out HR_y.out HNE.out HE4.out HL1.out HL2.out HQ_x.out HQ_y.out HP_x.out HP_y.out HPP.out rfl rfl)
          have g1 := drow_cell HR_x.out; have g2 := row_free HR_x.out
          go_simp
          clear g1 g2
          refine hK.out _ _ ?_ (fun hHeld => ?_)
          · (try dsimp only); exact H4.out _ (box_store _ HE4.out HL1.out)
          clear hK K
          try simp only [Act.put, List.setIfInBounds_toArray, List.set_cons_zero, List.set_cons_succ]
          refine wpAnyH_ready (rs := [11]) (by kernel_rfl) (by simp) ?_
          refine consW rfl (fun K hK => ?_) AllReadyH.nil
          have g0 : (u4.setCell ⟨u0.heap.size, 0, none⟩ (.slice o_x n_x c_x)).heap[u3.heap.size]? = some (.cells #[.slice none 0 0] 25 (0, 0)) := by rw [heap_setCell_other _ ⟨u0.heap.size, 0, none⟩ (u3.heap.size) _ (by show u3.heap.size ≠ u0.heap.size; exact HNE.out.symm)]; exact HR_y.out
          have g1 := drow_cell g0; have g2 := row_free g0
          go_simp
          clear g0 g1 g2
          refine hK.out _ _ ?_ (fun hHeld => ?_)
          · (try dsimp only); exact H4.out _ (box_store _ (box_store _ HE4.out HL1.out) HL2.out)
          clear hK K
          try simp only [Act.put, List.setIfInBounds_toArray, List.set_cons_zero, List.set_cons_succ]
          refine wpAnyH_done (by kernel_rfl) ?_ _
          go_wp2_with fail
          go_meet
          exact ⟨_, _, _, _, _, _, _, _, rfl, rfl, by omega, by omega, HTW.out⟩
        refine consW rfl (fun K hK => ?_) AllReadyH.nil
        obtain ⟨u3, hu⟩ : ∃ u, u2.alloc (.cells #[.slice none 0 0] 25) = u := ⟨_, rfl⟩
        have HX3 := Lib.hid (show Ext u2 u3 by rw [← hu]; exact (Ext.refl _).alloc _); have HE3 := Lib.hid (HE2.out.trans HX3.out)
        have HB_y := Lib.hid (show u3.heap[u2.heap.size]? = some (.cells #[.slice none 0 0] 25 (0, 0)) by rw [← hu]; exact heap_alloc_new u2 _)
        have HS_y := Lib.hid (show u3.heap.size = u2.heap.size + 1 by rw [← hu, alloc_size])
        have HU := Lib.hid hu; clear hu
        go_simp
        rw [HU.out]
        clear HU
        refine hK.out _ _ ?_ (fun hHeld => ?_)
        · (try dsimp only); exact H4.out _ HE3.out
        clear hK K
        try simp only [Act.put, List.setIfInBounds_toArray, List.set_cons_zero, List.set_cons_succ]
        refine wpAnyH_ready (rs := [6]) (by kernel_rfl) (by simp) ?_
        refine consW rfl (fun K hK => ?_) AllReadyH.nil
        go_simp
        go_at_call 7
        refine (copy_calls (HA2.out.old ((Ext.trans D1.out (Ext.trans D2.out (Ext.trans D3.out D4.out))).trans HE3.out)) (by omega)).mono ?_
        rintro e u4 ⟨o_y, n_y, c_y, rfl, ho, hx, hn_y⟩
        have HX4 := Lib.hid hx; have HE4 := Lib.hid (HE3.out.trans hx); have HO_y := Lib.hid ho; have HG_y := Lib.hid (fun q h => ho.ge q h)
        clear ho hx
        try go_wp2_with fail
        refine hK.out _ _ ?_ (fun hHeld => ?_)
        · (try dsimp only); exact H4.out _ HE4.out
        clear hK K
        try simp only [Act.put, List.setIfInBounds_toArray, List.set_cons_zero, List.set_cons_succ]
        refine takeW (i := 7) (v := ?_) rfl (by kernel_rfl) (by kernel_rfl) (by kernel_rfl) (fun _ _ _ h => h) (Or.inl ⟨by rfl, ?_⟩) (by assumption) ?_
        rotate_left
        · (intro wz hSw; (try dsimp only at hSw); go_simp <;> with_reducible rfl)
        try simp only [Act.put, List.setIfInBounds_toArray, List.set_cons_zero, List.set_cons_succ]
        refine wpAnyH_ready (rs := [10]) (by kernel_rfl) (by simp) ?_
        refine consW rfl (fun K hK => ?_) AllReadyH.nil
        have HR_x := Lib.hid (rowE (Ext.trans HX2.out (Ext.trans HX3.out HX4.out)) HB_x.out)
        have HR_y := Lib.hid (rowE HX4.out HB_y.out)
        have HNE := Lib.hid (show u0.heap.size ≠ u2.heap.size by have z1 := HX1.out.size; have z2 := HX2.out.size; have z3 := HX3.out.size; have z4 := HX4.out.size; have y_x := HS_x.out; have y_y := HS_y.out; have z0 := HE0.out.size; omega)
        have HL1 := Lib.hid (show Z.heap.size ≤ u0.heap.size by have z1 := HX1.out.size; have z2 := HX2.out.size; have z3 := HX3.out.size; have z4 := HX4.out.size; have y_x := HS_x.out; have y_y := HS_y.out; have z0 := HE0.out.size; omega); have HL2 := Lib.hid (show Z.heap.size ≤ u2.heap.size by have z1 := HX1.out.size; have z2 := HX2.out.size; have z3 := HX3.out.size; have z4 := HX4.out.size; have y_x := HS_x.out; have y_y := HS_y.out; have z0 := HE0.out.size; omega)
        have HP_x := Lib.hid (show ∀ q, blk o_x = some q → q ≠ u0.heap.size ∧ q ≠ u2.heap.size from fun q hq => by have g := HG_x.out q hq; have z1 := HX1.out.size; have z2 := HX2.out.size; have z3 := HX3.out.size; have z4 := HX4.out.size; have y_x := HS_x.out; have y_y := HS_y.out; have z0 := HE0.out.size; omega)
        have HP_y := Lib.hid (show ∀ q, blk o_y = some q → q ≠ u0.heap.size ∧ q ≠ u2.heap.size from fun q hq => by have g := HG_y.out q hq; have z1 := HX1.out.size; have z2 := HX2.out.size; have z3 := HX3.out.size; have z4 := HX4.out.size; have y_x := HS_x.out; have y_y := HS_y.out; have z0 := HE0.out.size; omega)
        have HPP := Lib.hid (show ∀ q, blk o_x = some q → blk o_y ≠ some q from fun q hq h2 => by have g := HG_x.out q hq; have g2 := HG_y.out q h2; have z1 := HX1.out.size; have z2 := HX2.out.size; have z3 := HX3.out.size; have z4 := HX4.out.size; have y_x := HS_x.out; have y_y := HS_y.out; have z0 := HE0.out.size; omega)
        have HQ_x := Lib.hid ((HO_x.out.old (Ext.trans HX3.out HX4.out)).mono (show Z.heap.size ≤ u1.heap.size by have z1 := HX1.out.size; have z2 := HX2.out.size; have z3 := HX3.out.size; have z4 := HX4.out.size; have y_x := HS_x.out; have y_y := HS_y.out; have z0 := HE0.out.size; omega))
        have HQ_y := Lib.hid ((HO_y.out.old (Ext.refl _)).mono (show Z.heap.size ≤ u3.heap.size by have z1 := HX1.out.size; have z2 := HX2.out.size; have z3 := HX3.out.size; have z4 := HX4.out.size; have y_x := HS_x.out; have y_y := HS_y.out; have z0 := HE0.out.size; omega))
        have HTW := Lib.hid (two_boxes (u1 := .slice o_x n_x c_x) (u2 := .slice o_y n_y c_y) HR_x.out HR_y.out HNE.out HE4.out HL1.out HL2.out HQ_x.out HQ_y.out HP_x.out HP_y.out HPP.out rfl rfl)
        have g1 := drow_cell HR_x.out; have g2 := row_free HR_x.out
        go_simp
        clear g1 g2
        refine hK.out _ _ ?_ (fun hHeld => ?_)
        · (try dsimp only); exact H4.out _ (box_store _ HE4.out HL1.out)
        clear hK K
        try simp only [Act.put, List.setIfInBounds_toArray, List.set_cons_zero, List.set_cons_succ]
        refine wpAnyH_ready (rs := [11]) (by kernel_rfl) (by simp) ?_
        refine consW rfl (fun K hK => ?_) AllReadyH.nil
        have g0 : (u4.setCell ⟨u0.heap.size, 0, none⟩ (.slice o_x n_x c_x)).heap[u2.heap.size]? = some (.cells #[.slice none 0 0] 25 (0, 0)) := by rw [heap_setCell_other _ ⟨u0.heap.size, 0, none⟩ (u2.heap.size) _ (by show u2.heap.size ≠ u0.heap.size; exact HNE.out.symm)]; exact HR_y.out
        have g1 := drow_cell g0; have g2 := row_free g0
        go_simp
        clear g0 g1 g2
        refine hK.out _ _ ?_ (fun hHeld => ?_)
        · (try dsimp only); exact H4.out _ (box_store _ (box_store _ HE4.out HL1.out) HL2.out)
        clear hK K
        try simp only [Act.put, List.setIfInBounds_toArray, List.set_cons_zero, List.set_cons_succ]
        refine wpAnyH_done (by kernel_rfl) ?_ _
        go_wp2_with fail
        go_meet
        exact ⟨_, _, _, _, _, _, _, _, rfl, rfl, by omega, by omega, HTW.out⟩
      refine consW rfl (fun K hK => ?_) AllReadyH.nil
      obtain ⟨u2, hu⟩ : ∃ u, u1.alloc (.cells #[.slice none 0 0] 25) = u := ⟨_, rfl⟩
      have HX2 := Lib.hid (show Ext u1 u2 by rw [← hu]; exact (Ext.refl _).alloc _); have HE2 := Lib.hid (HE1.out.trans HX2.out)
      have HB_y := Lib.hid (show u2.heap[u1.heap.size]? = some (.cells #[.slice none 0 0] 25 (0, 0)) by rw [← hu]; exact heap_alloc_new u1 _)
      have HS_y := Lib.hid (show u2.heap.size = u1.heap.size + 1 by rw [← hu, alloc_size])
      have HU := Lib.hid hu; clear hu
      go_simp
      rw [HU.out]
      clear HU
      refine hK.out _ _ ?_ (fun hHeld => ?_)
      · (try dsimp only); exact H4.out _ HE2.out
      clear hK K
      try simp only [Act.put, List.setIfInBounds_toArray, List.set_cons_zero, List.set_cons_succ]
      refine wpAnyH_ready (rs := [2]) (by kernel_rfl) (by simp) ?_
      refine consW rfl (fun K hK => ?_) AllReadyH.nil
      go_simp
      go_at_call 7
      refine (copy_calls (HA1.out.old ((Ext.trans D1.out (Ext.trans D2.out (Ext.trans D3.out D4.out))).trans HE2.out)) (by omega)).mono ?_
      rintro e u3 ⟨o_x, n_x, c_x, rfl, ho, hx, hn_x⟩
      have HX3 := Lib.hid hx; have HE3 := Lib.hid (HE2.out.trans hx); have HO_x := Lib.hid ho; have HG_x := Lib.hid (fun q h => ho.ge q h)
      clear ho hx
      try go_wp2_with fail
      refine hK.out _ _ ?_ (fun hHeld => ?_)
      · (try dsimp only); exact H4.out _ HE3.out
      clear hK K
      try simp only [Act.put, List.setIfInBounds_toArray, List.set_cons_zero, List.set_cons_succ]
      refine takeW (i := 3) (v := ?_) rfl (by kernel_rfl) (by kernel_rfl) (by kernel_rfl) (fun _ _ _ h => h) (Or.inl ⟨by rfl, ?_⟩) (by assumption) ?_
      rotate_left
      · (intro wz hSw; (try dsimp only at hSw); go_simp <;> with_reducible rfl)
      try simp only [Act.put, List.setIfInBounds_toArray, List.set_cons_zero, List.set_cons_succ]
      refine wpAnyH_ready (rs := [6]) (by kernel_rfl) (by simp) ?_
      refine consW rfl (fun K hK => ?_) AllReadyH.nil
      go_simp
      go_at_call 7
      refine (copy_calls (HA2.out.old ((Ext.trans D1.out (Ext.trans D2.out (Ext.trans D3.out D4.out))).trans HE3.out)) (by omega)).mono ?_
      rintro e u4 ⟨o_y, n_y, c_y, rfl, ho, hx, hn_y⟩
      have HX4 := Lib.hid hx; have HE4 := Lib.hid (HE3.out.trans hx); have HO_y := Lib.hid ho; have HG_y := Lib.hid (fun q h => ho.ge q h)
      clear ho hx
      try go_wp2_with fail
      refine hK.out _ _ ?_ (fun hHeld => ?_)
      · (try dsimp only); exact H4.out _ HE4.out
      clear hK K
      try simp only [Act.put, List.setIfInBounds_toArray, List.set_cons_zero, List.set_cons_succ]
      refine takeW (i := 7) (v := ?_) rfl (by kernel_rfl) (by kernel_rfl) (by kernel_rfl) (fun _ _ _ h => h) (Or.inl ⟨by rfl, ?_⟩) (by assumption) ?_
      rotate_left
      · (intro wz hSw; (try dsimp only at hSw); go_simp <;> with_reducible rfl)
      try simp only [Act.put, List.setIfInBounds_toArray, List.set_cons_zero, List.set_cons_succ]
      refine wpAnyH_ready (rs := [10]) (by kernel_rfl) (by simp) ?_
      refine consW rfl (fun K hK => ?_) AllReadyH.nil
      have HR_x := Lib.hid (rowE (Ext.trans HX2.out (Ext.trans HX3.out HX4.out)) HB_x.out)
      have HR_y := Lib.hid (rowE (Ext.trans HX3.out HX4.out) HB_y.out)
      have HNE := Lib.hid (show u0.heap.size ≠ u1.heap.size by have z1 := HX1.out.size; have z2 := HX2.out.size; have z3 := HX3.out.size; have z4 := HX4.out.size; have y_x := HS_x.out; have y_y := HS_y.out; have z0 := HE0.out.size; omega)
      have HL1 := Lib.hid (show Z.heap.size ≤ u0.heap.size by have z1 := HX1.out.size; have z2 := HX2.out.size; have z3 := HX3.out.size; have z4 := HX4.out.size; have y_x := HS_x.out; have y_y := HS_y.out; have z0 := HE0.out.size; omega); have HL2 := Lib.hid (show Z.heap.size ≤ u1.heap.size by have z1 := HX1.out.size; have z2 := HX2.out.size; have z3 := HX3.out.size; have z4 := HX4.out.size; have y_x := HS_x.out; have y_y := HS_y.out; have z0 := HE0.out.size; omega)
      have HP_x := Lib.hid (show ∀ q, blk o_x = some q → q ≠ u0.heap.size ∧ q ≠ u1.heap.size from fun q hq => by have g := HG_x.out q hq; have z1 := HX1.out.size; have z2 := HX2.out.size; have z3 := HX3.out.size; have z4 := HX4.out.size; have y_x := HS_x.out; have y_y := HS_y.out; have z0 := HE0.out.size; omega)
      have HP_y := Lib.hid (show ∀ q, blk o_y = some q → q ≠ u0.heap.size ∧ q ≠ u1.heap.size from fun q hq => by have g := HG_y.out q hq; have z1 := HX1.out.size; have z2 := HX2.out.size; have z3 := HX3.out.size; have z4 := HX4.out.size; have y_x := HS_x.out; have y_y := HS_y.out; have z0 := HE0.out.size; omega)
      have HPP := Lib.hid (show ∀ q, blk o_x = some q → blk o_y ≠ some q from fun q hq h2 => by have g := HG_x.out q hq; have g2 := HG_y.out q h2; have z1 := HX1.out.size; have z2 := HX2.out.size; have z3 := HX3.out.size; have z4 := HX4.out.size; have y_x := HS_x.out; have y_y := HS_y.out; have z0 := HE0.out.size; omega)
      have HQ_x := Lib.hid ((HO_x.out.old HX4.out).mono (show Z.heap.size ≤ u2.heap.size by have z1 := HX1.out.size; have z2 := HX2.out.size; have z3 := HX3.out.size; have z4 := HX4.out.size; have y_x := HS_x.out; have y_y := HS_y.out; have z0 := HE0.out.size; omega))
      have HQ_y := Lib.hid ((HO_y.out.old (Ext.refl _)).mono (show Z.heap.size ≤ u3.heap.size by have z1 := HX1.out.size; have z2 := HX2.out.size; have z3 := HX3.out.size; have z4 := HX4.out.size; have y_x := HS_x.out; have y_y := HS_y.out; have z0 := HE0.out.size; omega))
      have HTW := Lib.hid (two_boxes (u1 := .slice o_x n_x c_x) (u2 := .slice o_y n_y c_y) HR_x.out HR_y.out HNE.out HE4.out HL1.out HL2.out HQ_x.out HQ_y.out HP_x.out HP_y.out HPP.out rfl rfl)
      have g1 := drow_cell HR_x.out; have g2 := row_free HR_x.out
      go_simp
      clear g1 g2
      refine hK.out _ _ ?_ (fun hHeld => ?_)
      · (try dsimp only); exact H4.out _ (box_store _ HE4.out HL1.out)
      clear hK K
      try simp only [Act.put, List.setIfInBounds_toArray, List.set_cons_zero, List.set_cons_succ]
      refine wpAnyH_ready (rs := [11]) (by kernel_rfl) (by simp) ?_
      refine consW rfl (fun K hK => ?_) AllReadyH.nil
      have g0 : (u4.setCell ⟨u0.heap.size, 0, none⟩ (.slice o_x n_x c_x)).heap[u1.heap.size]? = some (.cells #[.slice none 0 0] 25 (0, 0)) := by rw [heap_setCell_other _ ⟨u0.heap.size, 0, none⟩ (u1.heap.size) _ (by show u1.heap.size ≠ u0.heap.size; exact HNE.out.symm)]; exact HR_y.out
      have g1 := drow_cell g0; have g2 := row_free g0
      go_simp
      clear g0 g1 g2
      refine hK.out _ _ ?_ (fun hHeld => ?_)
      · (try dsimp only); exact H4.out _ (box_store _ (box_store _ HE4.out HL1.out) HL2.out)
      clear hK K
      try simp only [Act.put, List.setIfInBounds_toArray, List.set_cons_zero, List.set_cons_succ]
      refine wpAnyH_done (by kernel_rfl) ?_ _
      go_wp2_with fail
      go_meet
      exact ⟨_, _, _, _, _, _, _, _, rfl, rfl, by omega, by omega, HTW.out⟩
    refine consW rfl (fun K hK => ?_) AllReadyH.nil
    obtain ⟨u1, hu⟩ : ∃ u, u0.alloc (.cells #[.slice none 0 0] 25) = u := ⟨_, rfl⟩
    have HX1 := Lib.hid (show Ext u0 u1 by rw [← hu]; exact (Ext.refl _).alloc _); have HE1 := Lib.hid (HE0.out.trans HX1.out)
    have HB_y := Lib.hid (show u1.heap[u0.heap.size]? = some (.cells #[.slice none 0 0] 25 (0, 0)) by rw [← hu]; exact heap_alloc_new u0 _)
    have HS_y := Lib.hid (show u1.heap.size = u0.heap.size + 1 by rw [← hu, alloc_size])
    have HU := Lib.hid hu; clear hu
    go_simp
    rw [HU.out]
    clear HU
    refine hK.out _ _ ?_ (fun hHeld => ?_)
    · (try dsimp only); exact H4.out _ HE1.out
    clear hK K
    try simp only [Act.put, List.setIfInBounds_toArray, List.set_cons_zero, List.set_cons_succ]
    refine wpAnyH_ready (rs := [2, 8]) (by kernel_rfl) (by simp) ?_
    refine consW rfl (fun K hK => ?_) ?_
    · go_simp
      go_at_call 7
      refine (copy_calls (HA1.out.old ((Ext.trans D1.out (Ext.trans D2.out (Ext.trans D3.out D4.out))).trans HE1.out)) (by omega)).mono ?_
      rintro e u2 ⟨o_x, n_x, c_x, rfl, ho, hx, hn_x⟩
      have HX2 := Lib.hid hx; have HE2 := Lib.hid (HE1.out.trans hx); have HO_x := Lib.hid ho; have HG_x := Lib.hid (fun q h => ho.ge q h)
      clear ho hx
      try go_wp2_with fail
      refine hK.out _ _ ?_ (fun hHeld => ?_)
      · (try dsimp only); exact H4.out _ HE2.out
      clear hK K
      try simp only [Act.put, List.setIfInBounds_toArray, List.set_cons_zero, List.set_cons_succ]
      refine takeW (i := 3) (v := ?_) rfl (by kernel_rfl) (by kernel_rfl) (by kernel_rfl) (fun _ _ _ h => h) (Or.inl ⟨by rfl, ?_⟩) (by assumption) ?_
      rotate_left
      · (intro wz hSw; (try dsimp only at hSw); go_simp <;> with_reducible rfl)
      try simp only [Act.put, List.setIfInBounds_toArray, List.set_cons_zero, List.set_cons_succ]
      refine wpAnyH_ready (rs := [6, 8]) (by kernel_rfl) (by simp) ?_
      refine consW rfl (fun K hK => ?_) ?_
      · go_simp
        go_at_call 7
        refine (copy_calls (HA2.out.old ((Ext.trans D1.out (Ext.trans D2.out (Ext.trans D3.out D4.out))).trans HE2.out)) (by omega)).mono ?_
        rintro e u3 ⟨o_y, n_y, c_y, rfl, ho, hx, hn_y⟩
        have HX3 := Lib.hid hx; have HE3 := Lib.hid (HE2.out.trans hx); have HO_y := Lib.hid ho; have HG_y := Lib.hid (fun q h => ho.ge q h)
        clear ho hx
        try go_wp2_with fail
        refine hK.out _ _ ?_ (fun hHeld => ?_)
        · (try dsimp only); exact H4.out _ HE3.out
        clear hK K
        try simp only [Act.put, List.setIfInBounds_toArray, List.set_cons_zero, List.set_cons_succ]
        refine takeW (i := 7) (v := ?_) rfl (by kernel_rfl) (by kernel_rfl) (by kernel_rfl) (fun _ _ _ h => h) (Or.inl ⟨by rfl, ?_⟩) (by assumption) ?_
        rotate_left
        · (intro wz hSw; (try dsimp only at hSw); go_simp <;> with_reducible rfl)
        try simp only [Act.put, List.setIfInBounds_toArray, List.set_cons_zero, List.set_cons_succ]
        refine wpAnyH_ready (rs := [8]) (by kernel_rfl) (by simp) ?_
        refine consW rfl (fun K hK => ?_) AllReadyH.nil
        obtain ⟨u4, hu⟩ : ∃ u, u3.alloc (.cells #[.slice none 0 0] 25) = u := ⟨_, rfl⟩
        have HX4 := Lib.hid (show Ext u3 u4 by rw [← hu]; exact (Ext.refl _).alloc _); have HE4 := Lib.hid (HE3.out.trans HX4.out)
        have HB_x := Lib.hid (show u4.heap[u3.heap.size]? = some (.cells #[.slice none 0 0] 25 (0, 0)) by rw [← hu]; exact heap_alloc_new u3 _)
        have HS_x := Lib.hid (show u4.heap.size = u3.heap.size + 1 by rw [← hu, alloc_size])
        have HU := Lib.hid hu; clear hu
        go_simp
        rw [HU.out]
        clear HU
        refine hK.out _ _ ?_ (fun hHeld => ?_)
        · (try dsimp only); exact H4.out _ HE4.out
        clear hK K
        try simp only [Act.put, List.setIfInBounds_toArray, List.set_cons_zero, List.set_cons_succ]
        refine wpAnyH_ready (rs := [10]) (by kernel_rfl) (by simp) ?_
        refine consW rfl (fun K hK => ?_) AllReadyH.nil
        have HR_x := HB_x
        have HR_y := Lib.hid (rowE (Ext.trans HX2.out (Ext.trans HX3.out HX4.out)) HB_y.out)
        have HNE := Lib.hid (show u3.heap.size ≠ u0.heap.size by have z1 := HX1.out.size; have z2 := HX2.out.size; have z3 := HX3.out.size; have z4 := HX4.out.size; have y_x := HS_x.out; have y_y := HS_y.out; have z0 := HE0.out.size; omega)
        have HL1 := Lib.hid (show Z.heap.size ≤ u3.heap.size by have z1 := HX1.out.size; have z2 := HX2.out.size; have z3 := HX3.out.size; have z4 := HX4.out.size; have y_x := HS_x.out; have y_y := HS_y.out; have z0 := HE0.out.size; omega); have HL2 := Lib.hid (show Z.heap.size ≤ u0.heap.size by have z1 := HX1.out.size; have z2 := HX2.out.size; have z3 := HX3.out.size; have z4 := HX4.out.size; have y_x := HS_x.out; have y_y := HS_y.out; have z0 := HE0.out.size; omega)
        have HP_x := Lib.hid (show ∀ q, blk o_x = some q → q ≠ u3.heap.size ∧ q ≠ u0.heap.size from fun q hq => by have g := HG_x.out q hq; have z1 := HX1.out.size; have z2 := HX2.out.size; have z3 := HX3.out.size; have z4 := HX4.out.size; have y_x := HS_x.out; have y_y := HS_y.out; have z0 := HE0.out.size; omega)
        have HP_y := Lib.hid (show ∀ q, blk o_y = some q → q ≠ u3.heap.size ∧ q ≠ u0.heap.size from fun q hq => by have g := HG_y.out q hq; have z1 := HX1.out.size; have z2 := HX2.out.size; have z3 := HX3.out.size; have z4 := HX4.out.size; have y_x := HS_x.out; have y_y := HS_y.out; have z0 := HE0.out.size; omega)
        have HPP := Lib.hid (show ∀ q, blk o_x = some q → blk o_y ≠ some q from fun q hq h2 => by have g := HG_x.out q hq; have g2 := HG_y.out q h2; have z1 := HX1.out.size; have z2 := HX2.out.size; have z3 := HX3.out.size; have z4 := HX4.out.size; have y_x := HS_x.out; have y_y := HS_y.out; have z0 := HE0.out.size; omega)
        have HQ_x := Lib.hid ((HO_x.out.old (Ext.trans HX3.out HX4.out)).mono (show Z.heap.size ≤ u1.heap.size by have z1 := HX1.out.size; have z2 := HX2.out.size; have z3 := HX3.out.size; have z4 := HX4.out.size; have y_x := HS_x.out; have y_y := HS_y.out; have z0 := HE0.out.size; omega))
        have HQ_y := Lib.hid ((HO_y.out.old HX4.out).mono (show Z.heap.size ≤ u2.heap.size by have z1 := HX1.out.size; have z2 := HX2.out.size; have z3 := HX3.out.size; have z4 := HX4.out.size; have y_x := HS_x.out; have y_y := HS_y.out; have z0 := HE0.out.size; omega))
        have HTW := Lib.hid (two_boxes (u1 := .slice o_x n_x c_x) (u2 := .slice o_y n_y c_y) HR_x.out HR_y.out HNE.out HE4.out HL1.out HL2.out HQ_x.out HQ_y.out HP_x.out HP_y.out HPP.out rfl rfl)
        have g1 := drow_cell HR_x.out; have g2 := row_free HR_x.out
        go_simp
        clear g1 g2
        refine hK.out _ _ ?_ (fun hHeld => ?_)
        · (try dsimp only); exact H4.out _ (box_store _ HE4.out HL1.out)
        clear hK K
        try simp only [Act.put, List.setIfInBounds_toArray, List.set_cons_zero, List.set_cons_succ]
        refine wpAnyH_ready (rs := [11]) (by kernel_rfl) (by simp) ?_
        refine consW rfl (fun K hK => ?_) AllReadyH.nil
        have g0 : (u4.setCell ⟨u3.heap.size, 0, none⟩ (.slice o_x n_x c_x)).heap[u0.heap.size]? = some (.cells #[.slice none 0 0] 25 (0, 0)) := by rw [heap_setCell_other _ ⟨u3.heap.size, 0, none⟩ (u0.heap.size) _ (by show u0.heap.size ≠ u3.heap.size; exact HNE.out.symm)]; exact HR_y.out
        have g1 := drow_cell g0; have g2 := row_free g0
        go_simp
        clear g0 g1 g2
        refine hK.out _ _ ?_ (fun hHeld => ?_)
        · (try dsimp only); exact H4.out _ (box_store _ (box_store _ HE4.out HL1.out) HL2.out)
        clear hK K
        try simp only [Act.put, List.setIfInBounds_toArray, List.set_cons_zero, List.set_cons_succ]
        refine wpAnyH_done (by kernel_rfl) ?_ _
        go_wp2_with fail
        go_meet
        exact ⟨_, _, _, _, _, _, _, _, rfl, rfl, by omega, by omega, HTW.out⟩
      refine consW rfl (fun K hK => ?_) AllReadyH.nil
      obtain ⟨u3, hu⟩ : ∃ u, u2.alloc (.cells #[.slice none 0 0] 25) = u := ⟨_, rfl⟩
      have HX3 := Lib.hid (show Ext u2 u3 by rw [← hu]; exact (Ext.refl _).alloc _); have HE3 := Lib.hid (HE2.out.trans HX3.out)
      have HB_x := Lib.hid (show u3.heap[u2.heap.size]? = some (.cells #[.slice none 0 0] 25 (0, 0)) by rw [← hu]; exact heap_alloc_new u2 _)
      have HS_x := Lib.hid (show u3.heap.size = u2.heap.size + 1 by rw [← hu, alloc_size])
      have HU := Lib.hid hu; clear hu
      go_simp
      rw [HU.out]
      clear HU
      refine hK.out _ _ ?_ (fun hHeld => ?_)
      · (try dsimp only); exact H4.out _ HE3.out
      clear hK K
      try simp only [Act.put, List.setIfInBounds_toArray, List.set_cons_zero, List.set_cons_succ]
      refine wpAnyH_ready (rs := [6]) (by kernel_rfl) (by simp) ?_
      refine consW rfl (fun K hK => ?_) AllReadyH.nil
      go_simp
      go_at_call 7
      refine (copy_calls (HA2.out.old ((Ext.trans D1.out (Ext.trans D2.out (Ext.trans D3.out D4.out))).trans HE3.out)) (by omega)).mono ?_
      rintro e u4 ⟨o_y, n_y, c_y, rfl, ho, hx, hn_y⟩
      have HX4 := Lib.hid hx; have HE4 := Lib.hid (HE3.out.trans hx); have HO_y := Lib.hid ho; have HG_y := Lib.hid (fun q h => ho.ge q h)
      clear ho hx
      try go_wp2_with fail
      refine hK.out _ _ ?_ (fun hHeld => ?_)
      · (try dsimp only); exact H4.out _ HE4.out
      clear hK K
      try simp only [Act.put, List.setIfInBounds_toArray, List.set_cons_zero, List.set_cons_succ]
      refine takeW (i := 7) (v := ?_) rfl (by kernel_rfl) (by kernel_rfl) (by kernel_rfl) (fun _ _ _ h => h) (Or.inl ⟨by rfl, ?_⟩) (by assumption) ?_
      rotate_left
      · (intro wz hSw; (try dsimp only at hSw); go_simp <;> with_reducible rfl)
      try simp only [Act.put, List.setIfInBounds_toArray, List.set_cons_zero, List.set_cons_succ]
      refine wpAnyH_ready (rs := [10]) (by kernel_rfl) (by simp) ?_
      refine consW rfl (fun K hK => ?_) AllReadyH.nil
      have HR_x := Lib.hid (rowE HX4.out HB_x.out)
      have HR_y := Lib.hid (rowE (Ext.trans HX2.out (Ext.trans HX3.out HX4.out)) HB_y.out)
      have HNE := Lib.hid (show u2.heap.size ≠ u0.heap.size by have z1 := HX1.out.size; have z2 := HX2.out.size; have z3 := HX3.out.size; have z4 := HX4.out.size; have y_x := HS_x.out; have y_y := HS_y.out; have z0 := HE0.out.size; omega)
      have HL1 := Lib.hid (show Z.heap.size ≤ u2.heap.size by have z1 := HX1.out.size; have z2 := HX2.out.size; have z3 := HX3.out.size; have z4 := HX4.out.size; have y_x := HS_x.out; have y_y := HS_y.out; have z0 := HE0.out.size; omega); have HL2 := Lib.hid (show Z.heap.size ≤ u0.heap.size by have z1 := HX1.out.size; have z2 := HX2.out.size; have z3 := HX3.out.size; have z4 := HX4.out.size; have y_x := HS_x.out; have y_y := HS_y.out; have z0 := HE0.out.size; omega)
      have HP_x := Lib.hid (show ∀ q, blk o_x = some q → q ≠ u2.heap.size ∧ q ≠ u0.heap.size from fun q hq => by have g := HG_x.out q hq; have z1 := HX1.out.size; have z2 := HX2.out.size; have z3 := HX3.out.size; have z4 := HX4.out.size; have y_x := HS_x.out; have y_y := HS_y.out; have z0 := HE0.out.size; omega)
      have HP_y := Lib.hid (show ∀ q, blk o_y = some q → q ≠ u2.heap.size ∧ q ≠ u0.heap.size from fun q hq => by have g := HG_y.out q hq; have z1 := HX1.out.size; have z2 := HX2.out.size; have z3 := HX3.out.size; have z4 := HX4.out.size; have y_x := HS_x.out; have y_y := HS_y.out; have z0 := HE0.out.size; omega)
      have HPP := Lib.hid (show ∀ q, blk o_x = some q → blk o_y ≠ some q from fun q hq h2 => by have g := HG_x.out q hq; have g2 := HG_y.out q h2; have z1 := HX1.out.size; have z2 := HX2.out.size; have z3 := HX3.out.size; have z4 := HX4.out.size; have y_x := HS_x.out; have y_y := HS_y.out; have z0 := HE0.out.size; omega)
      have HQ_x := Lib.hid ((HO_x.out.old (Ext.trans HX3.out HX4.out)).mono (show Z.heap.size ≤ u1.heap.size by have z1 := HX1.out.size; have z2 := HX2.out.size; have z3 := HX3.out.size; have z4 := HX4.out.size; have y_x := HS_x.out; have y_y := HS_y.out; have z0 := HE0.out.size; omega))
      have HQ_y := Lib.hid ((HO_y.out.old (Ext.refl _)).mono (show Z.heap.size ≤ u3.heap.size by have z1 := HX1.out.size; have z2 := HX2.out.size; have z3 := HX3.out.size; have z4 := HX4.out.size; have y_x := HS_x.out; have y_y := HS_y.out; have z0 := HE0.out.size; omega))
      have HTW := Lib.hid (two_boxes (u1 := .slice o_x n_x c_x) (u2 := .slice o_y n_y c_y) HR_x.out HR_y.out HNE.out HE4.out HL1.out HL2.out HQ_x.out HQ_y.out HP_x.out HP_y.out HPP.out rfl rfl)
      have g1 := drow_cell HR_x.out; have g2 := row_free HR_x.out
      go_simp
      clear g1 g2
      refine hK.out _ _ ?_ (fun hHeld => ?_)
      · (try dsimp only); exact H4.out _ (box_store _ HE4.out HL1.out)
      clear hK K
      try simp only [Act.put, List.setIfInBounds_toArray, List.set_cons_zero, List.set_cons_succ]
      refine wpAnyH_ready (rs := [11]) (by kernel_rfl) (by simp) ?_
      refine consW rfl (fun K hK => ?_) AllReadyH.nil
      have g0 : (u4.setCell ⟨u2.heap.size, 0, none⟩ (.slice o_x n_x c_x)).heap[u0.heap.size]? = some (.cells #[.slice none 0 0] 25 (0, 0)) := by rw [heap_setCell_other _ ⟨u2.heap.size, 0, none⟩ (u0.heap.size) _ (by show u0.heap.size ≠ u2.heap.size; exact HNE.out.symm)]; exact HR_y.out
      have g1 := drow_cell g0; have g2 := row_free g0
      go_simp
      clear g0 g1 g2
      refine hK.out _ _ ?_ (fun hHeld => ?_)
      · (try dsimp only); exact H4.out _ (box_store _ (box_store _ HE4.out HL1.out) HL2.out)
      clear hK K
      try simp only [Act.put, List.setIfInBounds_toArray, List.set_cons_zero, List.set_cons_succ]
      refine wpAnyH_done (by kernel_rfl) ?_ _
      go_wp2_with fail
      go_meet
      exact ⟨_, _, _, _, _, _, _, _, rfl, rfl, by omega, by omega, HTW.out⟩
    refine consW rfl (fun K hK => ?_) AllReadyH.nil
    obtain ⟨u2, hu⟩ : ∃ u, u1.alloc (.cells #[.slice none 0 0] 25) = u := ⟨_, rfl⟩
    have HX2 := Lib.hid (show Ext u1 u2 by rw [← hu]; exact (Ext.refl _).alloc _); have HE2 := Lib.hid (HE1.out.trans HX2.out)
    have HB_x := Lib.hid (show u2.heap[u1.heap.size]? = some (.cells #[.slice none 0 0] 25 (0, 0)) by rw [← hu]; exact heap_alloc_new u1 _)
    have HS_x := Lib.hid (show u2.heap.size = u1.heap.size + 1 by rw [← hu, alloc_size])
    have HU := Lib.hid hu; clear hu
    go_simp
    rw [HU.out]
    clear HU
    refine hK.out _ _ ?_ (fun hHeld => ?_)
    · (try dsimp only); exact H4.out _ HE2.out
    clear hK K
    try simp only [Act.put, List.setIfInBounds_toArray, List.set_cons_zero, List.set_cons_succ]
    refine wpAnyH_ready (rs := [2]) (by kernel_rfl) (by simp) ?_
    refine consW rfl (fun K hK => ?_) AllReadyH.nil
    go_simp
    go_at_call 7
    refine (copy_calls (HA1.out.old ((Ext.trans D1.out (Ext.trans D2.out (Ext.trans D3.out D4.out))).trans HE2.out)) (by omega)).mono ?_
    rintro e u3 ⟨o_x, n_x, c_x, rfl, ho, hx, hn_x⟩
    have HX3 := Lib.hid hx; have HE3 := Lib.hid (HE2.out.trans hx); have HO_x := Lib.hid ho; have HG_x := Lib.hid (fun q h => ho.ge q h)
    clear ho hx
    try go_wp2_with fail
    refine hK.out _ _ ?_ (fun hHeld => ?_)
    · (try dsimp only); exact H4.out _ HE3.out
    clear hK K
    try simp only [Act.put, List.setIfInBounds_toArray, List.set_cons_zero, List.set_cons_succ]
    refine takeW (i := 3) (v := ?_) rfl (by kernel_rfl) (by kernel_rfl) (by kernel_rfl) (fun _ _ _ h => h) (Or.inl ⟨by rfl, ?_⟩) (by assumption) ?_
    rotate_left
    · (intro wz hSw; (try dsimp only at hSw); go_simp <;> with_reducible rfl)
    try simp only [Act.put, List.setIfInBounds_toArray, List.set_cons_zero, List.set_cons_succ]
    refine wpAnyH_ready (rs := [6]) (by kernel_rfl) (by simp) ?_
    refine consW rfl (fun K hK => ?_) AllReadyH.nil
    go_simp
    go_at_call 7
    refine (copy_calls (HA2.out.old ((Ext.trans D1.out (Ext.trans D2.out (Ext.trans D3.out D4.out))).trans HE3.out)) (by omega)).mono ?_
    rintro e u4 ⟨o_y, n_y, c_y, rfl, ho, hx, hn_y⟩
    have HX4 := Lib.hid hx; have HE4 := Lib.hid (HE3.out.trans hx); have HO_y := Lib.hid ho; have HG_y := Lib.hid (fun q h => ho.ge q h)
    clear ho hx
    try go_wp2_with fail
    refine hK.out _ _ ?_ (fun hHeld => ?_)
    · (try dsimp only); exact H4.out _ HE4.out
    clear hK K
    try simp only [Act.put, List.setIfInBounds_toArray, List.set_cons_zero, List.set_cons_succ]
    refine takeW (i := 7) (v := ?_) rfl (by kernel_rfl) (by kernel_rfl) (by kernel_rfl) (fun _ _ _ h => h) (Or.inl ⟨by rfl, ?_⟩) (by assumption) ?_
    rotate_left
    · (intro wz hSw; (try dsimp only at hSw); go_simp <;> with_reducible rfl)
    try simp only [Act.put, List.setIfInBounds_toArray, List.set_cons_zero, List.set_cons_succ]
    refine wpAnyH_ready (rs := [10]) (by kernel_rfl) (by simp) ?_
    refine consW rfl (fun K hK => ?_) AllReadyH.nil
    have HR_x := Lib.hid (rowE (Ext.trans HX3.out HX4.out) HB_x.out)
    have HR_y := Lib.hid (rowE (Ext.trans HX2.out (Ext.trans HX3.out HX4.out)) HB_y.out)
    have HNE := Lib.hid (show u1.heap.size ≠ u0.heap.size by have z1 := HX1.out.size; have z2 := HX2.out.size; have z3 := HX3.out.size; have z4 := HX4.out.size; have y_x := HS_x.out; have y_y := HS_y.out; have z0 := HE0.out.size; omega)
    have HL1 := Lib.hid (show Z.heap.size ≤ u1.heap.size by have z1 := HX1.out.size; have z2 := HX2.out.size; have z3 := HX3.out.size; have z4 := HX4.out.size; have y_x := HS_x.out; have y_y := HS_y.out; have z0 := HE0.out.size; omega); have HL2 := Lib.hid (show Z.heap.size ≤ u0.heap.size by have z1 := HX1.out.size; have z2 := HX2.out.size; have z3 := HX3.out.size; have z4 := HX4.out.size; have y_x := HS_x.out; have y_y := HS_y.out; have z0 := HE0.out.size; omega)
    have HP_x := Lib.hid (show ∀ q, blk o_x = some q → q ≠ u1.heap.size ∧ q ≠ u0.heap.size from fun q hq => by have g := HG_x.out q hq; have z1 := HX1.out.size; have z2 := HX2.out.size; have z3 := HX3.out.size; have z4 := HX4.out.size; have y_x := HS_x.out; have y_y := HS_y.out; have z0 := HE0.out.size; omega)
    have HP_y := Lib.hid (show ∀ q, blk o_y = some q → q ≠ u1.heap.size ∧ q ≠ u0.heap.size from fun q hq => by have g := HG_y.out q hq; have z1 := HX1.out.size; have z2 := HX2.out.size; have z3 := HX3.out.size; have z4 := HX4.out.size; have y_x := HS_x.out; have y_y := HS_y.out; have z0 := HE0.out.size; omega)
    have HPP := Lib.hid (show ∀ q, blk o_x = some q → blk o_y ≠ some q from fun q hq h2 => by have g := HG_x.out q hq; have g2 := HG_y.out q h2; have z1 := HX1.out.size; have z2 := HX2.out.size; have z3 := HX3.out.size; have z4 := HX4.out.size; have y_x := HS_x.out; have y_y := HS_y.out; have z0 := HE0.out.size; omega)
    have HQ_x := Lib.hid ((HO_x.out.old HX4.out).mono (show Z.heap.size ≤ u2.heap.size by have z1 := HX1.out.size; have z2 := HX2.out.size; have z3 := HX3.out.size; have z4 := HX4.out.size; have y_x := HS_x.out; have y_y := HS_y.out; have z0 := HE0.out.size; omega))
    have HQ_y := Lib.hid ((HO_y.out.old (Ext.refl _)).mono (show Z.heap.size ≤ u3.heap.size by have z1 := HX1.out.size; have z2 := HX2.out.size; have z3 := HX3.out.size; have z4 := HX4.out.size; have y_x := HS_x.out; have y_y := HS_y.out; have z0 := HE0.out.size; omega))
    have HTW := Lib.hid (two_boxes (u1 := .slice o_x n_x c_x) (u2 := .slice o_y n_y c_y) HR_x.out HR_y.out HNE.out HE4.out HL1.out HL2.out HQ_x.out HQ_y.out HP_x.out HP_y.out HPP.out rfl rfl)
    have g1 := drow_cell HR_x.out; have g2 := row_free HR_x.out
    go_simp
    clear g1 g2
    refine hK.out _ _ ?_ (fun hHeld => ?_)
    · (try dsimp only); exact H4.out _ (box_store _ HE4.out HL1.out)
    clear hK K
    try simp only [Act.put, List.setIfInBounds_toArray, List.set_cons_zero, List.set_cons_succ]
    refine wpAnyH_ready (rs := [11]) (by kernel_rfl) (by simp) ?_
    refine consW rfl (fun K hK => ?_) AllReadyH.nil
    have g0 : (u4.setCell ⟨u1.heap.size, 0, none⟩ (.slice o_x n_x c_x)).heap[u0.heap.size]? = some (.cells #[.slice none 0 0] 25 (0, 0)) := by rw [heap_setCell_other _ ⟨u1.heap.size, 0, none⟩ (u0.heap.size) _ (by show u0.heap.size ≠ u1.heap.size; exact HNE.out.symm)]; exact HR_y.out
    have g1 := drow_cell g0; have g2 := row_free g0
    go_simp
    clear g0 g1 g2
    refine hK.out _ _ ?_ (fun hHeld => ?_)
    · (try dsimp only); exact H4.out _ (box_store _ (box_store _ HE4.out HL1.out) HL2.out)
    clear hK K
    try simp only [Act.put, List.setIfInBounds_toArray, List.set_cons_zero, List.set_cons_succ]
    refine wpAnyH_done (by kernel_rfl) ?_ _
    go_wp2_with fail
    go_meet
    exact ⟨_, _, _, _, _, _, _, _, rfl, rfl, by omega, by omega, HTW.out⟩
  rename World => wq
  obtain ⟨Bx, By, ox, nx, cx, oy, ny, cy, rfl, rfl, lx, ly, tw⟩ := hcut
  have TWX := Lib.hid tw; have xF := tw.ext; clear tw
  have D5 := Lib.hid xF
  have EX5 := Lib.hid (EX4.out.trans xF)
  clear xF
  have RBx := Lib.hid TWX.out.r1; have SBx := Lib.hid TWX.out.w1.sl
  have RBy := Lib.hid TWX.out.r2; have SBy := Lib.hid TWX.out.w2.sl
  go_wp2_with fail
  go_loopw [9] (fun iv wr => LoopRel wq iv wr) (fun iv _ => 2 - (RowKit.intOf iv).toNat)
  case atStart => exact ⟨0, by omega, rfl, Ext.refl _⟩
  case round =>
    obtain ⟨k, hk, rfl, hex⟩ := hrel
    have D6 := Lib.hid hex
    have EX6 := Lib.hid (EX5.out.trans hex)
    clear hex
    by_cases hk2 : k = 2
    · subst hk2
      go_wp2_with fail
      go_ret
      exact ⟨rfl, EX6.out⟩
    have hlt : (k : Int) < 2 := by omega
    have H5 : Hid (∀ w', Ext wr w' → w'.cell? ⟨Bx, 0, none⟩ = some (.slice ox nx cx) ∧ w'.cell? ⟨By, 0, none⟩ = some (.slice oy ny cy)) := Lib.hid (fun w' h => ⟨drow_cell (rowE (Ext.trans D6.out h) RBx.out), drow_cell (rowE (Ext.trans D6.out h) RBy.out)⟩)
    go_upto_region 9 with (fail)
    go_cut [10, 11] from 31 to 136 (fun v1 v2 wx => ∃ (B1 B2 : Nat) (o1 : Option Addr) (n1 c1 : Nat) (o2 : Option Addr) (n2 c2 : Nat), v1 = .pointer (some ⟨B1, 0, none⟩) ∧ v2 = .pointer (some ⟨B2, 0, none⟩) ∧ n1 ≤ m1 + m2 + 1 ∧ n2 ≤ m1 + 1 ∧ Two wr wx 25 B1 B2 o1 n1 c1 (lim sm) o2 n2 c2 (lim tt))
    case first =>
      obtain ⟨u0, hu0⟩ : ∃ u, wr.drew = u := ⟨_, rfl⟩
      have HE0 := Lib.hid (show Ext wr u0 by rw [← hu0]; exact (Ext.refl _).drew)
      go_wp2_with fail
      refine wp_region_held_drew (S := fun w' => w'.cell? ⟨Bx, 0, none⟩ = some (.slice ox nx cx) ∧ w'.cell? ⟨By, 0, none⟩ = some (.slice oy ny cy)) (by kernel_rfl) (H5.out _ (Ext.refl _).drew) (fun hHeld => ?_)
      rw [hu0] at hHeld ⊢
      clear hu0
      refine takeW (i := 0) (v := ?_) rfl (by kernel_rfl) (by kernel_rfl) (by kernel_rfl) (fun _ _ _ h => h) (Or.inl ⟨by rfl, ?_⟩) (by assumption) ?_
      rotate_left
      · (intro wz hSw; (try dsimp only at hSw); go_simp <;> with_reducible rfl)
      try simp only [Act.put, List.setIfInBounds_toArray, List.set_cons_zero, List.set_cons_succ]
      refine takeW (i := 1) (v := ?_) rfl (by kernel_rfl) (by kernel_rfl) (by kernel_rfl) (fun _ _ _ h => h) (Or.inl ⟨by rfl, ?_⟩) (by assumption) ?_
      rotate_left
      · (intro wz hSw; (try dsimp only at hSw); go_simp <;> with_reducible rfl)
      try simp only [Act.put, List.setIfInBounds_toArray, List.set_cons_zero, List.set_cons_succ]
      refine takeW (i := 3) (v := ?_) rfl (by kernel_rfl) (by kernel_rfl) (by kernel_rfl) (fun _ _ _ h => h) (Or.inl ⟨by rfl, ?_⟩) (by assumption) ?_
      rotate_left
      · (intro wz hSw; (try dsimp only at hSw); go_simp <;> with_reducible rfl)
      try simp only [Act.put, List.setIfInBounds_toArray, List.set_cons_zero, List.set_cons_succ]
      refine takeW (i := 4) (v := ?_) rfl (by kernel_rfl) (by kernel_rfl) (by kernel_rfl) (fun _ _ _ h => h) (Or.inl ⟨by rfl, ?_⟩) (by assumption) ?_
      rotate_left
      · (intro wz hSw; (try dsimp only at hSw); go_simp <;> with_reducible rfl)
      try simp only [Act.put, List.setIfInBounds_toArray, List.set_cons_zero, List.set_cons_succ]
      refine wpAnyH_ready (rs := [2, 6, 7]) (by kernel_rfl) (by simp) ?_
      refine consW rfl (fun K hK => ?_) ?_
      · go_simp
        go_at_call 8
        refine (dadd_at A B sm (SBx.out.old (D6.out.trans HE0.out)) (SBy.out.old (D6.out.trans HE0.out)) HQ1.out HQ2.out H_sm.out (by omega) (by omega)).mono ?_
        rintro e u1 ⟨o_s, n_s, c_s, rfl, ho, hx, hn_s⟩
        have HX1 := Lib.hid hx; have HE1 := Lib.hid (HE0.out.trans hx); have HO_s := Lib.hid ho; have HG_s := Lib.hid (fun q h => ho.ge q h)
        clear ho hx
        try go_wp2_with fail
        refine hK.out _ _ ?_ (fun hHeld => ?_)
        · (try dsimp only); exact H5.out _ HE1.out
        clear hK K
        try simp only [Act.put, List.setIfInBounds_toArray, List.set_cons_zero, List.set_cons_succ]
        refine wpAnyH_ready (rs := [5, 6, 7]) (by kernel_rfl) (by simp) ?_
        refine consW rfl (fun K hK => ?_) ?_
        · go_simp
          go_at_call 9
          refine (dtimes_at A nn tt (SBx.out.old (D6.out.trans HE1.out)) HQ1.out H_tt.out (by omega) HN.out).mono ?_
          rintro e u2 ⟨o_t, n_t, c_t, rfl, ho, hx, hn_t⟩
          have HX2 := Lib.hid hx; have HE2 := Lib.hid (HE1.out.trans hx); have HO_t := Lib.hid ho; have HG_t := Lib.hid (fun q h => ho.ge q h)
          clear ho hx
          try go_wp2_with fail
          refine hK.out _ _ ?_ (fun hHeld => ?_)
          · (try dsimp only); exact H5.out _ HE2.out
          clear hK K
          try simp only [Act.put, List.setIfInBounds_toArray, List.set_cons_zero, List.set_cons_succ]
          refine wpAnyH_ready (rs := [6, 7]) (by kernel_rfl) (by simp) ?_
          refine consW rfl (fun K hK => ?_) ?_
          · obtain ⟨u3, hu⟩ : ∃ u, u2.alloc (.cells #[.slice none 0 0] 25) = u := ⟨_, rfl⟩
            have HX3 := Lib.hid (show Ext u2 u3 by rw [← hu]; exact (Ext.refl _).alloc _); have HE3 := Lib.hid (HE2.out.trans HX3.out)
            have HB_s := Lib.hid (show u3.heap[u2.heap.size]? = some (.cells #[.slice none 0 0] 25 (0, 0)) by rw [← hu]; exact heap_alloc_new u2 _)
            have HS_s := Lib.hid (show u3.heap.size = u2.heap.size + 1 by rw [← hu, alloc_size])
            have HU := Lib.hid hu; clear hu
            go_simp
            rw [HU.out]
            clear HU
            refine hK.out _ _ ?_ (fun hHeld => ?_)
            · (try dsimp only); exact H5.out _ HE3.out
            clear hK K
            try simp only [Act.put, List.setIfInBounds_toArray, List.set_cons_zero, List.set_cons_succ]
            refine wpAnyH_ready (rs := [7]) (by kernel_rfl) (by simp) ?_
            refine consW rfl (fun K hK => ?_) AllReadyH.nil
            obtain ⟨u4, hu⟩ : ∃ u, u3.alloc (.cells #[.slice none 0 0] 25) = u := ⟨_, rfl⟩
            have HX4 := Lib.hid (show Ext u3 u4 by rw [← hu]; exact (Ext.refl _).alloc _); have HE4 := Lib.hid (HE3.out.trans HX4.out)
            have HB_t := Lib.hid (show u4.heap[u3.heap.size]? = some (.cells #[.slice none 0 0] 25 (0, 0)) by rw [← hu]; exact heap_alloc_new u3 _)
            have HS_t := Lib.hid (show u4.heap.size = u3.heap.size + 1 by rw [← hu, alloc_size])
            have HU := Lib.hid hu; clear hu
            go_simp
            rw [HU.out]
            clear HU
            refine hK.out _ _ ?_ (fun hHeld => ?_)
            · (try dsimp only); exact H5.out _ HE4.out
            clear hK K
            try simp only [Act.put, List.setIfInBounds_toArray, List.set_cons_zero, List.set_cons_succ]
            refine wpAnyH_ready (rs := [8]) (by kernel_rfl) (by simp) ?_
            refine consW rfl (fun K hK => ?_) AllReadyH.nil
            have HR_s := Lib.hid (rowE HX4.out HB_s.out)
            have HR_t := HB_t
            have HNE := Lib.hid (show u2.heap.size ≠ u3.heap.size by have z1 := HX1.out.size; have z2 := HX2.out.size; have z3 := HX3.out.size; have z4 := HX4.out.size; have y_s := HS_s.out; have y_t := HS_t.out; have z0 := HE0.out.size; omega)
            have HL1 := Lib.hid (show wr.heap.size ≤ u2.heap.size by have z1 := HX1.out.size; have z2 := HX2.out.size; have z3 := HX3.out.size; have z4 := HX4.out.size; have y_s := HS_s.out; have y_t := HS_t.out; have z0 := HE0.out.size; omega); have HL2 := Lib.hid (show wr.heap.size ≤ u3.heap.size by have z1 := HX1.out.size; have z2 := HX2.out.size; have z3 := HX3.out.size; have z4 := HX4.out.size; have y_s := HS_s.out; have y_t := HS_t.out; have z0 := HE0.out.size; omega)
            have HP_s := Lib.hid (show ∀ q, blk o_s = some q → q ≠ u2.heap.size ∧ q ≠ u3.heap.size from fun q hq => by have g := HG_s.out q hq; have z1 := HX1.out.size; have z2 := HX2.out.size; have z3 := HX3.out.size; have z4 := HX4.out.size; have y_s := HS_s.out; have y_t := HS_t.out; have z0 := HE0.out.size; omega)
            have HP_t := Lib.hid (show ∀ q, blk o_t = some q → q ≠ u2.heap.size ∧ q ≠ u3.heap.size from fun q hq => by have g := HG_t.out q hq; have z1 := HX1.out.size; have z2 := HX2.out.size; have z3 := HX3.out.size; have z4 := HX4.out.size; have y_s := HS_s.out; have y_t := HS_t.out; have z0 := HE0.out.size; omega)
            have HPP := Lib.hid (show ∀ q, blk o_s = some q → blk o_t ≠ some q from fun q hq h2 => by have g := HG_s.out q hq; have g2 := HG_t.out q h2; have z1 := HX1.out.size; have z2 := HX2.out.size; have z3 := HX3.out.size; have z4 := HX4.out.size; have y_s := HS_s.out; have y_t := HS_t.out; have z0 := HE0.out.size; omega)
            have HQ_s := Lib.hid ((HO_s.out.old (Ext.trans HX2.out (Ext.trans HX3.out HX4.out))).mono (show wr.heap.size ≤ u0.heap.size by have z1 := HX1.out.size; have z2 := HX2.out.size; have z3 := HX3.out.size; have z4 := HX4.out.size; have y_s := HS_s.out; have y_t := HS_t.out; have z0 := HE0.out.size; omega))
            have HQ_t := Lib.hid ((HO_t.out.old (Ext.trans HX3.out HX4.out)).mono (show wr.heap.size ≤ u1.heap.size by have z1 := HX1.out.size; have z2 := HX2.out.size; have z3 := HX3.out.size; have z4 := HX4.out.size; have y_s := HS_s.out; have y_t := HS_t.out; have z0 := HE0.out.size; omega))
            have HTW := Lib.hid (two_boxes (u1 := .slice o_s n_s c_s) (u2 := .slice o_t n_t c_t) HR_s.out HR_t.out HNE.out HE4.out HL1.out HL2.out HQ_s.out HQ_t.out HP_s.out HP_t.out HPP.out rfl rfl)
            have g1 := drow_cell HR_s.out; have g2 := row_free HR_s.out
            go_simp
            clear g1 g2
            refine hK.out _ _ ?_ (fun hHeld => ?_)
            · (try dsimp only); exact H5.out _ (box_store _ HE4.out HL1.out)
            clear hK K
            try simp only [Act.put, List.setIfInBounds_toArray, List.set_cons_zero, List.set_cons_succ]
            refine wpAnyH_ready (rs := [9]) (by kernel_rfl) (by simp) ?_
            refine consW rfl (fun K hK => ?_) AllReadyH.nil
            have g0 : (u4.setCell ⟨u2.heap.size, 0, none⟩ (.slice o_s n_s c_s)).heap[u3.heap.size]? = some (.cells #[.slice none 0 0] 25 (0, 0)) := by rw [heap_setCell_other _ ⟨u2.heap.size, 0, none⟩ (u3.heap.size) _ (by show u3.heap.size ≠ u2.heap.size; exact HNE.out.symm)]; exact HR_t.out
            have g1 := drow_cell g0; have g2 := row_free g0
            go_simp
            clear g0 g1 g2
            refine hK.out _ _ ?_ (fun hHeld => ?_)
            · (try dsimp only); exact H5.out _ (box_store _ (box_store _ HE4.out HL1.out) HL2.out)
            clear hK K
            try simp only [Act.put, List.setIfInBounds_toArray, List.set_cons_zero, List.set_cons_succ]
            refine wpAnyH_done (by kernel_rfl) ?_ _
            go_wp2_with fail
            go_meet
            exact ⟨_, _, _, _, _, _, _, _, rfl, rfl, by omega, by omega, HTW.out⟩
          refine consW rfl (fun K hK => ?_) AllReadyH.nil
          obtain ⟨u3, hu⟩ : ∃ u, u2.alloc (.cells #[.slice none 0 0] 25) = u := ⟨_, rfl⟩
          have HX3 := Lib.hid (show Ext u2 u3 by rw [← hu]; exact (Ext.refl _).alloc _); have HE3 := Lib.hid (HE2.out.trans HX3.out)
          have HB_t := Lib.hid (show u3.heap[u2.heap.size]? = some (.cells #[.slice none 0 0] 25 (0, 0)) by rw [← hu]; exact heap_alloc_new u2 _)
          have HS_t := Lib.hid (show u3.heap.size = u2.heap.size + 1 by rw [← hu, alloc_size])
          have HU := Lib.hid hu; clear hu
          go_simp
          rw [HU.out]
          clear HU
          refine hK.out _ _ ?_ (fun hHeld => ?_)
          · (try dsimp only); exact H5.out _ HE3.out
          clear hK K
          try simp only [Act.put, List.setIfInBounds_toArray, List.set_cons_zero, List.set_cons_succ]
          refine wpAnyH_ready (rs := [6]) (by kernel_rfl) (by simp) ?_
          refine consW rfl (fun K hK => ?_) AllReadyH.nil
          obtain ⟨u4, hu⟩ : ∃ u, u3.alloc (.cells #[.slice none 0 0] 25) = u := ⟨_, rfl⟩
          have HX4 := Lib.hid (show Ext u3 u4 by rw [← hu]; exact (Ext.refl _).alloc _); have HE4 := Lib.hid (HE3.out.trans HX4.out)
          have HB_s := Lib.hid (show u4.heap[u3.heap.size]? = some (.cells #[.slice none 0 0] 25 (0, 0)) by rw [← hu]; exact heap_alloc_new u3 _)
          have HS_s := Lib.hid (show u4.heap.size = u3.heap.size + 1 by rw [← hu, alloc_size])
          have HU := Lib.hid hu; clear hu
          go_simp
          rw [HU.out]
          clear HU
          refine hK.out _ _ ?_ (fun hHeld => ?_)
          · (try dsimp only); exact H5.out _ HE4.out
          clear hK K
          try simp only [Act.put, List.setIfInBounds_toArray, List.set_cons_zero, List.set_cons_succ]
          refine wpAnyH_ready (rs := [8]) (by kernel_rfl) (by simp) ?_
          refine consW rfl (fun K hK => ?_) AllReadyH.nil
          have HR_s := HB_s
          have HR_t := Lib.hid (rowE HX4.out HB_t.out)
          have HNE := Lib.hid (show u3.heap.size ≠ u2.heap.size by have z1 := HX1.out.size; have z2 := HX2.out.size; have z3 := HX3.out.size; have z4 := HX4.out.size; have y_s := HS_s.out; have y_t := HS_t.out; have z0 := HE0.out.size; omega)
          have HL1 := Lib.hid (show wr.heap.size ≤ u3.heap.size by have z1 := HX1.out.size; have z2 := HX2.out.size; have z3 := HX3.out.size; have z4 := HX4.out.size; have y_s := HS_s.out; have y_t := HS_t.out; have z0 := HE0.out.size; omega); have HL2 := Lib.hid (show wr.heap.size ≤ u2.heap.size by have z1 := HX1.out.size; have z2 := HX2.out.size; have z3 := HX3.out.size; have z4 := HX4.out.size; have y_s := HS_s.out; have y_t := HS_t.out; have z0 := HE0.out.size; omega)
          have HP_s := Lib.hid (show ∀ q, blk o_s = some q → q ≠ u3.heap.size ∧ q ≠ u2.heap.size from fun q hq => by have g := HG_s.out q hq; have z1 := HX1.out.size; have z2 := HX2.out.size; have z3 := HX3.out.size; have z4 := HX4.out.size; have y_s := HS_s.out; have y_t := HS_t.out; have z0 := HE0.out.size; omega)
          have HP_t := Lib.hid (show ∀ q, blk o_t = some q → q ≠ u3.heap.size ∧ q ≠ u2.heap.size from fun q hq => by have g := HG_t.out q hq; have z1 := HX1.out.size; have z2 := HX2.out.size; have z3 := HX3.out.size; have z4 := HX4.out.size; have y_s := HS_s.out; have y_t := HS_t.out; have z0 := HE0.out.size; omega)
          have HPP := Lib.hid (show ∀ q, blk o_s = some q → blk o_t ≠ some q from fun q hq h2 => by have g := HG_s.out q hq; have g2 := HG_t.out q h2; have z1 := HX1.out.size; have z2 := HX2.out.size; have z3 := HX3.out.size; have z4 := HX4.out.size; have y_s := HS_s.out; have y_t := HS_t.out; have z0 := HE0.out.size; omega)
          have HQ_s := Lib.hid ((HO_s.out.old (Ext.trans HX2.out (Ext.trans HX3.out HX4.out))).mono (show wr.heap.size ≤ u0.heap.size by have z1 := HX1.out.size; have z2 := HX2.out.size; have z3 := HX3.out.size; have z4 := HX4.out.size; have y_s := HS_s.out; have y_t := HS_t.out; have z0 := HE0.out.size; omega))
          have HQ_t := Lib.hid ((HO_t.out.old (Ext.trans HX3.out HX4.out)).mono (show wr.heap.size ≤ u1.heap.size by have z1 := HX1.out.size; have z2 := HX2.out.size; have z3 := HX3.out.size; have z4 := HX4.out.size; have y_s := HS_s.out; have y_t := HS_t.out; have z0 := HE0.out.size; omega))
          have HTW := Lib.hid (two_boxes (u1 := .slice o_s n_s c_s) (u2 := .slice o_t n_t c_t) HR_s.out HR_t.out HNE.out HE4.out HL1.out HL2.out HQ_s.out HQ_t.out HP_s.out HP_t.out HPP.out rfl rfl)
          have g1 := drow_cell HR_s.out; have g2 := row_free HR_s.out
          go_simp
          clear g1 g2
          refine hK.out _ _ ?_ (fun hHeld => ?_)
          · (try dsimp only); exact H5.out _ (box_store _ HE4.out HL1.out)
          clear hK K
          try simp only [Act.put, List.setIfInBounds_toArray, List.set_cons_zero, List.set_cons_succ]
          refine wpAnyH_ready (rs := [9]) (by kernel_rfl) (by simp) ?_
          refine consW rfl (fun K hK => ?_) AllReadyH.nil
          have g0 : (u4.setCell ⟨u3.heap.size, 0, none⟩ (.slice o_s n_s c_s)).heap[u2.heap.size]? = some (.cells #[.slice none 0 0] 25 (0, 0)) := by rw [heap_setCell_other _ ⟨u3.heap.size, 0, none⟩ (u2.heap.size) _ (by show u2.heap.size ≠ u3.heap.size; exact HNE.out.symm)]; exact HR_t.out
          have g1 := drow_cell g0; have g2 := row_free g0
          go_simp
          clear g0 g1 g2
          refine hK.out _ _ ?_ (fun hHeld => ?_)
          · (try dsimp only); exact H5.out _ (box_store _ (box_store _ HE4.out HL1.out) HL2.out)
          clear hK K
          try simp only [Act.put, List.setIfInBounds_toArray, List.set_cons_zero, List.set_cons_succ]
          refine wpAnyH_done (by kernel_rfl) ?_ _
          go_wp2_with fail
          go_meet
          exact ⟨_, _, _, _, _, _, _, _, rfl, rfl, by omega, by omega, HTW.out⟩
        refine consW rfl (fun K hK => ?_) ?_
        · obtain ⟨u2, hu⟩ : ∃ u, u1.alloc (.cells #[.slice none 0 0] 25) = u := ⟨_, rfl⟩
          have HX2 := Lib.hid (show Ext u1 u2 by rw [← hu]; exact (Ext.refl _).alloc _); have HE2 := Lib.hid (HE1.out.trans HX2.out)
          have HB_s := Lib.hid (show u2.heap[u1.heap.size]? = some (.cells #[.slice none 0 0] 25 (0, 0)) by rw [← hu]; exact heap_alloc_new u1 _)
          have HS_s := Lib.hid (show u2.heap.size = u1.heap.size + 1 by rw [← hu, alloc_size])
          have HU := Lib.hid hu; clear hu
          go_simp
          rw [HU.out]
          clear HU
          refine hK.out _ _ ?_ (fun hHeld => ?_)
          · (try dsimp only); exact H5.out _ HE2.out
          clear hK K
          try simp only [Act.put, List.setIfInBounds_toArray, List.set_cons_zero, List.set_cons_succ]
          refine wpAnyH_ready (rs := [5, 7]) (by kernel_rfl) (by simp) ?_
          refine consW rfl (fun K hK => ?_) ?_
          · go_simp
            go_at_call 9
            refine (dtimes_at A nn tt (SBx.out.old (D6.out.trans HE2.out)) HQ1.out H_tt.out (by omega) HN.out).mono ?_
            rintro e u3 ⟨o_t, n_t, c_t, rfl, ho, hx, hn_t⟩
            have HX3 := Lib.hid hx; have HE3 := Lib.hid (HE2.out.trans hx); have HO_t := Lib.hid ho; have HG_t := Lib.hid (fun q h => ho.ge q h)
            clear ho hx
            try go_wp2_with fail
            refine hK.out _ _ ?_ (fun hHeld => ?_)
            · (try dsimp only); exact H5.out _ HE3.out
            clear hK K
            try simp only [Act.put, List.setIfInBounds_toArray, List.set_cons_zero, List.set_cons_succ]
            refine wpAnyH_ready (rs := [7]) (by kernel_rfl) (by simp) ?_
            refine consW rfl (fun K hK => ?_) AllReadyH.nil
            obtain ⟨u4, hu⟩ : ∃ u, u3.alloc (.cells #[.slice none 0 0] 25) = u := ⟨_, rfl⟩
            have HX4 := Lib.hid (show Ext u3 u4 by rw [← hu]; exact (Ext.refl _).alloc _); have HE4 := Lib.hid (HE3.out.trans HX4.out)
            have HB_t := Lib.hid (show u4.heap[u3.heap.size]? = some (.cells #[.slice none 0 0] 25 (0, 0)) by rw [← hu]; exact heap_alloc_new u3 _)
            have HS_t := Lib.hid (show u4.heap.size = u3.heap.size + 1 by rw [← hu, alloc_size])
            have HU := Lib.hid hu; clear hu
            go_simp
            rw [HU.out]
            clear HU
            refine hK.out _ _ ?_ (fun hHeld => ?_)
            · (try dsimp only); exact H5.out _ HE4.out
            clear hK K
            try simp only [Act.put, List.setIfInBounds_toArray, List.set_cons_zero, List.set_cons_succ]
            refine wpAnyH_ready (rs := [8]) (by kernel_rfl) (by simp) ?_
            refine consW rfl (fun K hK => ?_) AllReadyH.nil
            have HR_s := Lib.hid (rowE (Ext.trans HX3.out HX4.out) HB_s.out)
            have HR_t := HB_t
            have HNE := Lib.hid (show u1.heap.size ≠ u3.heap.size by have z1 := HX1.out.size; have z2 := HX2.out.size; have z3 := HX3.out.size; have z4 := HX4.out.size; have y_s := HS_s.out; have y_t := HS_t.out; have z0 := HE0.out.size; omega)
            have HL1 := Lib.hid (show wr.heap.size ≤ u1.heap.size by have z1 := HX1.out.size; have z2 := HX2.out.size; have z3 := HX3.out.size; have z4 := HX4.out.size; have y_s := HS_s.out; have y_t := HS_t.out; have z0 := HE0.out.size; omega); have HL2 := Lib.hid (show wr.heap.size ≤ u3.heap.size by have z1 := HX1.out.size; have z2 := HX2.out.size; have z3 := HX3.out.size; have z4 := HX4.out.size; have y_s := HS_s.out; have y_t := HS_t.out; have z0 := HE0.out.size; omega)
            have HP_s := Lib.hid (show ∀ q, blk o_s = some q → q ≠ u1.heap.size ∧ q ≠ u3.heap.size from fun q hq => by have g := HG_s.out q hq; have z1 := HX1.out.size; have z2 := HX2.out.size; have z3 := HX3.out.size; have z4 := HX4.out.size; have y_s := HS_s.out; have y_t := HS_t.out; have z0 := HE0.out.size; omega)
            have HP_t := Lib.hid (show ∀ q, blk o_t = some q → q ≠ u1.heap.size ∧ q ≠ u3.heap.size from fun q hq => by have g := HG_t.out q hq; have z1 := HX1.out.size; have z2 := HX2.out.size; have z3 := HX3.out.size; have z4 := HX4.out.size; have y_s := HS_s.out; have y_t := HS_t.out; have z0 := HE0.out.size; omega)
            have HPP := Lib.hid (show ∀ q, blk o_s = some q → blk o_t ≠ some q from fun q hq h2 => by have g := HG_s.out q hq; have g2 := HG_t.out q h2; have z1 := HX1.out.size; have z2 := HX2.out.size; have z3 := HX3.out.size; have z4 := HX4.out.size; have y_s := HS_s.out; have y_t := HS_t.out; have z0 := HE0.out.size; omega)
            have HQ_s := Lib.hid ((HO_s.out.old (Ext.trans HX2.out (Ext.trans HX3.out HX4.out))).mono (show wr.heap.size ≤ u0.heap.size by have z1 := HX1.out.size; have z2 := HX2.out.size; have z3 := HX3.out.size; have z4 := HX4.out.size; have y_s := HS_s.out; have y_t := HS_t.out; have z0 := HE0.out.size; omega))
            have HQ_t := Lib.hid ((HO_t.out.old HX4.out).mono (show wr.heap.size ≤ u2.heap.size by have z1 := HX1.out.size; have z2 := HX2.out.size; have z3 := HX3.out.size; have z4 := HX4.out.size; have y_s := HS_s.out; have y_t := HS_t.out; have z0 := HE0.out.size; omega))
            have HTW := Lib.hid (two_boxes (u1 := .slice o_s n_s c_s) (u2 := .slice o_t n_t c_t) HR_s.out HR_t.out HNE.out HE4.out HL1.out HL2.out HQ_s.out HQ_t.out HP_s.out HP_t.out HPP.out rfl rfl)
            have g1 := drow_cell HR_s.out; have g2 := row_free HR_s.out
            go_simp
            clear g1 g2
            refine hK.out _ _ ?_ (fun hHeld => ?_)
            · (try dsimp only); exact H5.out _ (box_store _ HE4.out HL1.out)
            clear hK K
            try simp only [Act.put, List.setIfInBounds_toArray, List.set_cons_zero, List.set_cons_succ]
            refine wpAnyH_ready (rs := [9]) (by kernel_rfl) (by simp) ?_
            refine consW rfl (fun K hK => ?_) AllReadyH.nil
            have g0 : (u4.setCell ⟨u1.heap.size, 0, none⟩ (.slice o_s n_s c_s)).heap[u3.heap.size]? = some (.cells #[.slice none 0 0] 25 (0, 0)) := by rw [heap_setCell_other _ ⟨u1.heap.size, 0, none⟩ (u3.heap.size) _ (by show u3.heap.size ≠ u1.heap.size; exact HNE.out.symm)]; exact HR_t.out
            have g1 := drow_cell g0; have g2 := row_free g0
            go_simp
            clear g0 g1 g2
            refine hK.out _ _ ?_ (fun hHeld => ?_)
            · (try dsimp only); exact H5.out _ (box_store _ (box_store _ HE4.out HL1.out) HL2.out)
            clear hK K
            try simp only [Act.put, List.setIfInBounds_toArray, List.set_cons_zero, List.set_cons_succ]
            refine wpAnyH_done (by kernel_rfl) ?_ _
            go_wp2_with fail
            go_meet
            exact ⟨_, _, _, _, _, _, _, _, rfl, rfl, by omega, by omega, HTW.out⟩
          refine consW rfl (fun K hK => ?_) AllReadyH.nil
          obtain ⟨u3, hu⟩ : ∃ u, u2.alloc (.cells #[.slice none 0 0] 25) = u := ⟨_, rfl⟩
          have HX3 := Lib.hid (show Ext u2 u3 by rw [← hu]; exact (Ext.refl _).alloc _); have HE3 := Lib.hid (HE2.out.trans HX3.out)
          have HB_t := Lib.hid (show u3.heap[u2.heap.size]? = some (.cells #[.slice none 0 0] 25 (0, 0)) by rw [← hu]; exact heap_alloc_new u2 _)
          have HS_t := Lib.hid (show u3.heap.size = u2.heap.size + 1 by rw [← hu, alloc_size])
          have HU := Lib.hid hu; clear hu
          go_simp
          rw [HU.out]
          clear HU
          refine hK.out _ _ ?_ (fun hHeld => ?_)
          · (try dsimp only); exact H5.out _ HE3.out
          clear hK K
          try simp only [Act.put, List.setIfInBounds_toArray, List.set_cons_zero, List.set_cons_succ]
          refine wpAnyH_ready (rs := [5]) (by kernel_rfl) (by simp) ?_
          refine consW rfl (fun K hK => ?_) AllReadyH.nil
          go_simp
          go_at_call 9
          refine (dtimes_at A nn tt (SBx.out.old (D6.out.trans HE3.out)) HQ1.out H_tt.out (by omega) HN.out).mono ?_
          rintro e u4 ⟨o_t, n_t, c_t, rfl, ho, hx, hn_t⟩
          have HX4 := Lib.hid hx; have HE4 := Lib.hid (HE3.out.trans hx); have HO_t := Lib.hid ho; have HG_t := Lib.hid (fun q h => ho.ge q h)
          clear ho hx
          try go_wp2_with fail
          refine hK.out _ _ ?_ (fun hHeld => ?_)
          · (try dsimp only); exact H5.out _ HE4.out
          clear hK K
          try simp only [Act.put, List.setIfInBounds_toArray, List.set_cons_zero, List.set_cons_succ]
          refine wpAnyH_ready (rs := [8]) (by kernel_rfl) (by simp) ?_
          refine consW rfl (fun K hK => ?_) AllReadyH.nil
          have HR_s := Lib.hid (rowE (Ext.trans HX3.out HX4.out) HB_s.out)
          have HR_t := Lib.hid (rowE HX4.out HB_t.out)
          have HNE := Lib.hid (show u1.heap.size ≠ u2.heap.size by have z1 := HX1.out.size; have z2 := HX2.out.size; have z3 := HX3.out.size; have z4 := HX4.out.size; have y_s := HS_s.out; have y_t := HS_t.out; have z0 := HE0.out.size; omega)
          have HL1 := Lib.hid (show wr.heap.size ≤ u1.heap.size by have z1 := HX1.out.size; have z2 := HX2.out.size; have z3 := HX3.out.size; have z4 := HX4.out.size; have y_s := HS_s.out; have y_t := HS_t.out; have z0 := HE0.out.size; omega); have HL2 := Lib.hid (show wr.heap.size ≤ u2.heap.size by have z1 := HX1.out.size; have z2 := HX2.out.size; have z3 := HX3.out.size; have z4 := HX4.out.size; have y_s := HS_s.out; have y_t := HS_t.out; have z0 := HE0.out.size; omega)
          have HP_s := Lib.hid (show ∀ q, blk o_s = some q → q ≠ u1.heap.size ∧ q ≠ u2.heap.size from fun q hq => by have g := HG_s.out q hq; have z1 := HX1.out.size; have z2 := HX2.out.size; have z3 := HX3.out.size; have z4 := HX4.out.size; have y_s := HS_s.out; have y_t := HS_t.out; have z0 := HE0.out.size; omega)
          have HP_t := Lib.hid (show ∀ q, blk o_t = some q → q ≠ u1.heap.size ∧ q ≠ u2.heap.size from fun q hq => by have g := HG_t.out q hq; have z1 := HX1.out.size; have z2 := HX2.out.size; have z3 := HX3.out.size; have z4 := HX4.out.size; have y_s := HS_s.out; have y_t := HS_t.out; have z0 := HE0.out.size; omega)
          have HPP := Lib.hid (show ∀ q, blk o_s = some q → blk o_t ≠ some q from fun q hq h2 => by have g := HG_s.out q hq; have g2 := HG_t.out q h2; have z1 := HX1.out.size; have z2 := HX2.out.size; have z3 := HX3.out.size; have z4 := HX4.out.size; have y_s := HS_s.out; have y_t := HS_t.out; have z0 := HE0.out.size; omega)
          have HQ_s := Lib.hid ((HO_s.out.old (Ext.trans HX2.out (Ext.trans HX3.out HX4.out))).mono (show wr.heap.size ≤ u0.heap.size by have z1 := HX1.out.size; have z2 := HX2.out.size; have z3 := HX3.out.size; have z4 := HX4.out.size; have y_s := HS_s.out; have y_t := HS_t.out; have z0 := HE0.out.size; omega))
          have HQ_t := Lib.hid ((HO_t.out.old (Ext.refl _)).mono (show wr.heap.size ≤ u3.heap.size by have z1 := HX1.out.size; have z2 := HX2.out.size; have z3 := HX3.out.size; have z4 := HX4.out.size; have y_s := HS_s.out; have y_t := HS_t.out; have z0 := HE0.out.size; omega))
          have HTW := Lib.hid (two_boxes (u1 := .slice o_s n_s c_s) (u2 := .slice o_t n_t c_t) HR_s.out HR_t.out HNE.out HE4.out HL1.out HL2.out HQ_s.out HQ_t.out HP_s.out HP_t.out HPP.out rfl rfl)
          have g1 := drow_cell HR_s.out; have g2 := row_free HR_s.out
          go_simp
          clear g1 g2
          refine hK.out _ _ ?_ (fun hHeld => ?_)
          · (try dsimp only); exact H5.out _ (box_store _ HE4.out HL1.out)
          clear hK K
          try simp only [Act.put, List.setIfInBounds_toArray, List.set_cons_zero, List.set_cons_succ]
          refine wpAnyH_ready (rs := [9]) (by kernel_rfl) (by simp) ?_
          refine consW rfl (fun K hK => ?_) AllReadyH.nil
          have g0 : (u4.setCell ⟨u1.heap.size, 0, none⟩ (.slice o_s n_s c_s)).heap[u2.heap.size]? = some (.cells #[.slice none 0 0] 25 (0, 0)) := by rw [heap_setCell_other _ ⟨u1.heap.size, 0, none⟩ (u2.heap.size) _ (by show u2.heap.size ≠ u1.heap.size; exact HNE.out.symm)]; exact HR_t.out
          have g1 := drow_cell g0; have g2 := row_free g0
          go_simp
          clear g0 g1 g2
          refine hK.out _ _ ?_ (fun hHeld => ?_)
          · (try dsimp only); exact H5.out _ (box_store _ (box_store _ HE4.out HL1.out) HL2.out)
          clear hK K
          try simp only [Act.put, List.setIfInBounds_toArray, List.set_cons_zero, List.set_cons_succ]
          refine wpAnyH_done (by kernel_rfl) ?_ _
          go_wp2_with fail
          go_meet
          exact ⟨_, _, _, _, _, _, _, _, rfl, rfl, by omega, by omega, HTW.out⟩
        refine consW rfl (fun K hK => ?_) AllReadyH.nil
        obtain ⟨u2, hu⟩ : ∃ u, u1.alloc (.cells #[.slice none 0 0] 25) = u := ⟨_, rfl⟩
        have HX2 := Lib.hid (show Ext u1 u2 by rw [← hu]; exact (Ext.refl _).alloc _); have HE2 := Lib.hid (HE1.out.trans HX2.out)
        have HB_t := Lib.hid (show u2.heap[u1.heap.size]? = some (.cells #[.slice none 0 0] 25 (0, 0)) by rw [← hu]; exact heap_alloc_new u1 _)
        have HS_t := Lib.hid (show u2.heap.size = u1.heap.size + 1 by rw [← hu, alloc_size])
        have HU := Lib.hid hu; clear hu
        go_simp
        rw [HU.out]
        clear HU
        refine hK.out _ _ ?_ (fun hHeld => ?_)
        · (try dsimp only); exact H5.out _ HE2.out
        clear hK K
        try simp only [Act.put, List.setIfInBounds_toArray, List.set_cons_zero, List.set_cons_succ]
        refine wpAnyH_ready (rs := [5, 6]) (by kernel_rfl) (by simp) ?_
        refine consW rfl (fun K hK => ?_) ?_
        · go_simp
          go_at_call 9
          refine (dtimes_at A nn tt (SBx.out.old (D6.out.trans HE2.out)) HQ1.out H_tt.out (by omega) HN.out).mono ?_
          rintro e u3 ⟨o_t, n_t, c_t, rfl, ho, hx, hn_t⟩
          have HX3 := Lib.hid hx; have HE3 := Lib.hid (HE2.out.trans hx); have HO_t := Lib.hid ho; have HG_t := Lib.hid (fun q h => ho.ge q h)
          clear ho hx
          try go_wp2_with fail
          refine hK.out _ _ ?_ (fun hHeld => ?_)
          · (try dsimp only); exact H5.out _ HE3.out
          clear hK K
          try simp only [Act.put, List.setIfInBounds_toArray, List.set_cons_zero, List.set_cons_succ]
          refine wpAnyH_ready (rs := [6]) (by kernel_rfl) (by simp) ?_
          refine consW rfl (fun K hK => ?_) AllReadyH.nil
          obtain ⟨u4, hu⟩ : ∃ u, u3.alloc (.cells #[.slice none 0 0] 25) = u := ⟨_, rfl⟩
          have HX4 := Lib.hid (show Ext u3 u4 by rw [← hu]; exact (Ext.refl _).alloc _); have HE4 := Lib.hid (HE3.out.trans HX4.out)
          have HB_s := Lib.hid (show u4.heap[u3.heap.size]? = some (.cells #[.slice none 0 0] 25 (0, 0)) by rw [← hu]; exact heap_alloc_new u3 _)
          have HS_s := Lib.hid (show u4.heap.size = u3.heap.size + 1 by rw [← hu, alloc_size])
          have HU := Lib.hid hu; clear hu
          go_simp
          rw [HU.out]
          clear HU
          refine hK.out _ _ ?_ (fun hHeld => ?_)
          · (try dsimp only); exact H5.out _ HE4.out
          clear hK K
          try simp only [Act.put, List.setIfInBounds_toArray, List.set_cons_zero, List.set_cons_succ]
          refine wpAnyH_ready (rs := [8]) (by kernel_rfl) (by simp) ?_
          refine consW rfl (fun K hK => ?_) AllReadyH.nil
          have HR_s := HB_s
          have HR_t := Lib.hid (rowE (Ext.trans HX3.out HX4.out) HB_t.out)
          have HNE := Lib.hid (show u3.heap.size ≠ u1.heap.size by have z1 := HX1.out.size; have z2 := HX2.out.size; have z3 := HX3.out.size; have z4 := HX4.out.size; have y_s := HS_s.out; have y_t := HS_t.out; have z0 := HE0.out.size; omega)
          have HL1 := Lib.hid (show wr.heap.size ≤ u3.heap.size by have z1 := HX1.out.size; have z2 := HX2.out.size; have z3 := HX3.out.size; have z4 := HX4.out.size; have y_s := HS_s.out; have y_t := HS_t.out; have z0 := HE0.out.size; omega); have HL2 := Lib.hid (show wr.heap.size ≤ u1.heap.size by have z1 := HX1.out.size; have z2 := HX2.out.size; have z3 := HX3.out.size; have z4 := HX4.out.size; have y_s := HS_s.out; have y_t := HS_t.out; have z0 := HE0.out.size; omega)
          have HP_s := Lib.hid (show ∀ q, blk o_s = some q → q ≠ u3.heap.size ∧ q ≠ u1.heap.size from fun q hq => by have g := HG_s.out q hq; have z1 := HX1.out.size; have z2 := HX2.out.size; have z3 := HX3.out.size; have z4 := HX4.out.size; have y_s := HS_s.out; have y_t := HS_t.out; have z0 := HE0.out.size; omega)
          have HP_t := Lib.hid (show ∀ q, blk o_t = some q → q ≠ u3.heap.size ∧ q ≠ u1.heap.size from fun q hq => by have g := HG_t.out q hq; have z1 := HX1.out.size; have z2 := HX2.out.size; have z3 := HX3.out.size; have z4 := HX4.out.size; have y_s := HS_s.out; have y_t := HS_t.out; have z0 := HE0.out.size; omega)
          have HPP := Lib.hid (show ∀ q, blk o_s = some q → blk o_t ≠ some q from fun q hq h2 => by have g := HG_s.out q hq; have g2 := HG_t.out q h2; have z1 := HX1.out.size; have z2 := HX2.out.size; have z3 := HX3.out.size; have z4 := HX4.out.size; have y_s := HS_s.out; have y_t := HS_t.out; have z0 := HE0.out.size; omega)
          have HQ_s := Lib.hid ((HO_s.out.old (Ext.trans HX2.out (Ext.trans HX3.out HX4.out))).mono (show wr.heap.size ≤ u0.heap.size by have z1 := HX1.out.size; have z2 := HX2.out.size; have z3 := HX3.out.size; have z4 := HX4.out.size; have y_s := HS_s.out; have y_t := HS_t.out; have z0 := HE0.out.size; omega))
          have HQ_t := Lib.hid ((HO_t.out.old HX4.out).mono (show wr.heap.size ≤ u2.heap.size by have z1 := HX1.out.size; have z2 := HX2.out.size; have z3 := HX3.out.size; have z4 := HX4.out.size; have y_s := HS_s.out; have y_t := HS_t.out; have z0 := HE0.out.size; omega))
          have HTW := Lib.hid (two_boxes (u1 := .slice o_s n_s c_s) (u2 := .slice o_t n_t c_t) HR_s.out HR_t.out HNE.out HE4.out HL1.out HL2.out HQ_s.out HQ_t.out HP_s.out HP_t.out HPP.out rfl rfl)
          have g1 := drow_cell HR_s.out; have g2 := row_free HR_s.out
          go_simp
          clear g1 g2
          refine hK.out _ _ ?_ (fun hHeld => ?_)
          · (try dsimp only); exact H5.out _ (box_store _ HE4.out HL1.out)
          clear hK K
          try simp only [Act.put, List.setIfInBounds_toArray, List.set_cons_zero, List.set_cons_succ]
          refine wpAnyH_ready (rs := [9]) (by kernel_rfl) (by simp) ?_
          refine consW rfl (fun K hK => ?_) AllReadyH.nil
          have g0 : (u4.setCell ⟨u3.heap.size, 0, none⟩ (.slice o_s n_s c_s)).heap[u1.heap.size]? = some (.cells #[.slice none 0 0] 25 (0, 0)) := by rw [heap_setCell_other _ ⟨u3.heap.size, 0, none⟩ (u1.heap.size) _ (by show u1.heap.size ≠ u3.heap.size; exact HNE.out.symm)]; exact HR_t.out
          have g1 := drow_cell g0; have g2 := row_free g0
          go_simp
          clear g0 g1 g2
          refine hK.out _ _ ?_ (fun hHeld => ?_)
          · (try dsimp only); exact H5.out _ (box_store _ (box_store _ HE4.out HL1.out) HL2.out)
          clear hK K
          try simp only [Act.put, List.setIfInBounds_toArray, List.set_cons_zero, List.set_cons_succ]
          refine wpAnyH_done (by kernel_rfl) ?_ _
          go_wp2_with fail
          go_meet
          exact ⟨_, _, _, _, _, _, _, _, rfl, rfl, by omega, by omega, HTW.out⟩
        refine consW rfl (fun K hK => ?_) AllReadyH.nil
        obtain ⟨u3, hu⟩ : ∃ u, u2.alloc (.cells #[.slice none 0 0] 25) = u := ⟨_, rfl⟩
        have HX3 := Lib.hid (show Ext u2 u3 by rw [← hu]; exact (Ext.refl _).alloc _); have HE3 := Lib.hid (HE2.out.trans HX3.out)
        have HB_s := Lib.hid (show u3.heap[u2.heap.size]? = some (.cells #[.slice none 0 0] 25 (0, 0)) by rw [← hu]; exact heap_alloc_new u2 _)
        have HS_s := Lib.hid (show u3.heap.size = u2.heap.size + 1 by rw [← hu, alloc_size])
        have HU := Lib.hid hu; clear hu
        go_simp
        rw [HU.out]
        clear HU
        refine hK.out _ _ ?_ (fun hHeld => ?_)
        · (try dsimp only); exact H5.out _ HE3.out
        clear hK K
        try simp only [Act.put, List.setIfInBounds_toArray, List.set_cons_zero, List.set_cons_succ]
        refine wpAnyH_ready (rs := [5]) (by kernel_rfl) (by simp) ?_
        refine consW rfl (fun K hK => ?_) AllReadyH.nil
        go_simp
        go_at_call 9
        refine (dtimes_at A nn tt (SBx.out.old (D6.out.trans HE3.out)) HQ1.out H_tt.out (by omega) HN.out).mono ?_
        rintro e u4 ⟨o_t, n_t, c_t, rfl, ho, hx, hn_t⟩
        have HX4 := Lib.hid hx; have HE4 := Lib.hid (HE3.out.trans hx); have HO_t := Lib.hid ho; have HG_t := Lib.hid (fun q h => ho.ge q h)
        clear ho hx
        try go_wp2_with fail
        refine hK.out _ _ ?_ (fun hHeld => ?_)
        · (try dsimp only); exact H5.out _ HE4.out
        clear hK K
        try simp only [Act.put, List.setIfInBounds_toArray, List.set_cons_zero, List.set_cons_succ]
        refine wpAnyH_ready (rs := [8]) (by kernel_rfl) (by simp) ?_
        refine consW rfl (fun K hK => ?_) AllReadyH.nil
        have HR_s := Lib.hid (rowE HX4.out HB_s.out)
        have HR_t := Lib.hid (rowE (Ext.trans HX3.out HX4.out) HB_t.out)
        have HNE := Lib.hid (show u2.heap.size ≠ u1.heap.size by have z1 := HX1.out.size; have z2 := HX2.out.size; have z3 := HX3.out.size; have z4 := HX4.out.size; have y_s := HS_s.out; have y_t := HS_t.out; have z0 := HE0.out.size; omega)
        have HL1 := Lib.hid (show wr.heap.size ≤ u2.heap.size by have z1 := HX1.out.size; have z2 := HX2.out.size; have z3 := HX3.out.size; have z4 := HX4.out.size; have y_s := HS_s.out; have y_t := HS_t.out; have z0 := HE0.out.size; omega); have HL2 := Lib.hid (show wr.heap.size ≤ u1.heap.size by have z1 := HX1.out.size; have z2 := HX2.out.size; have z3 := HX3.out.size; have z4 := HX4.out.size; have y_s := HS_s.out; have y_t := HS_t.out; have z0 := HE0.out.size; omega)
        have HP_s := Lib.hid (show ∀ q, blk o_s = some q → q ≠ u2.heap.size ∧ q ≠ u1.heap.size from fun q hq => by have g := HG_s.out q hq; have z1 := HX1.out.size; have z2 := HX2.out.size; have z3 := HX3.out.size; have z4 := HX4.out.size; have y_s := HS_s.out; have y_t := HS_t.out; have z0 := HE0.out.size; omega)
        have HP_t := Lib.hid (show ∀ q, blk o_t = some q → q ≠ u2.heap.size ∧ q ≠ u1.heap.size from fun q hq => by have g := HG_t.out q hq; have z1 := HX1.out.size; have z2 := HX2.out.size; have z3 := HX3.out.size; have z4 := HX4.out.size; have y_s := HS_s.out; have y_t := HS_t.out; have z0 := HE0.out.size; omega)
        have HPP := Lib.hid (show ∀ q, blk o_s = some q → blk o_t ≠ some q from fun q hq h2 => by have g := HG_s.out q hq; have g2 := HG_t.out q h2; have z1 := HX1.out.size; have z2 := HX2.out.size; have z3 := HX3.out.size; have z4 := HX4.out.size; have y_s := HS_s.out; have y_t := HS_t.out; have z0 := HE0.out.size; omega)
        have HQ_s := Lib.hid ((HO_s.out.old (Ext.trans HX2.out (Ext.trans HX3.out HX4.out))).mono (show wr.heap.size ≤ u0.heap.size by have z1 := HX1.out.size; have z2 := HX2.out.size; have z3 := HX3.out.size; have z4 := HX4.out.size; have y_s := HS_s.out; have y_t := HS_t.out; have z0 := HE0.out.size; omega))
        have HQ_t := Lib.hid ((HO_t.out.old (Ext.refl _)).mono (show wr.heap.size ≤ u3.heap.size by have z1 := HX1.out.size; have z2 := HX2.out.size; have z3 := HX3.out.size; have z4 := HX4.out.size; have y_s := HS_s.out; have y_t := HS_t.out; have z0 := HE0.out.size; omega))
        have HTW := Lib.hid (two_boxes (u1 := .slice o_s n_s c_s) (u2 := .slice o_t n_t c_t) HR_s.out HR_t.out HNE.out HE4.out HL1.out HL2.out HQ_s.out HQ_t.out HP_s.out HP_t.out HPP.out rfl rfl)
        have g1 := drow_cell HR_s.out; have g2 := row_free HR_s.out
        go_simp
        clear g1 g2
        refine hK.out _ _ ?_ (fun hHeld => ?_)
        · (try dsimp only); exact H5.out _ (box_store _ HE4.out HL1.out)
        clear hK K
        try simp only [Act.put, List.setIfInBounds_toArray, List.set_cons_zero, List.set_cons_succ]
        refine wpAnyH_ready (rs := [9]) (by kernel_rfl) (by simp) ?_
        refine consW rfl (fun K hK => ?_) AllReadyH.nil
        have g0 : (u4.setCell ⟨u2.heap.size, 0, none⟩ (.slice o_s n_s c_s)).heap[u1.heap.size]? = some (.cells #[.slice none 0 0] 25 (0, 0)) := by rw [heap_setCell_other _ ⟨u2.heap.size, 0, none⟩ (u1.heap.size) _ (by show u1.heap.size ≠ u2.heap.size; exact HNE.out.symm)]; exact HR_t.out
        have g1 := drow_cell g0; have g2 := row_free g0
        go_simp
        clear g0 g1 g2
        refine hK.out _ _ ?_ (fun hHeld => ?_)
        · (try dsimp only); exact H5.out _ (box_store _ (box_store _ HE4.out HL1.out) HL2.out)
        clear hK K
        try simp only [Act.put, List.setIfInBounds_toArray, List.set_cons_zero, List.set_cons_succ]
        refine wpAnyH_done (by kernel_rfl) ?_ _
        go_wp2_with fail
        go_meet
        exact ⟨_, _, _, _, _, _, _, _, rfl, rfl, by omega, by omega, HTW.out⟩
      refine consW rfl (fun K hK => ?_) ?_
      · obtain ⟨u1, hu⟩ : ∃ u, u0.alloc (.cells #[.slice none 0 0] 25) = u := ⟨_, rfl⟩
        have HX1 := Lib.hid (show Ext u0 u1 by rw [← hu]; exact (Ext.refl _).alloc _); have HE1 := Lib.hid (HE0.out.trans HX1.out)
        have HB_s := Lib.hid (show u1.heap[u0.heap.size]? = some (.cells #[.slice none 0 0] 25 (0, 0)) by rw [← hu]; exact heap_alloc_new u0 _)
        have HS_s := Lib.hid (show u1.heap.size = u0.heap.size + 1 by rw [← hu, alloc_size])
        have HU := Lib.hid hu; clear hu
        go_simp
        rw [HU.out]
        clear HU
        refine hK.out _ _ ?_ (fun hHeld => ?_)
        · (try dsimp only); exact H5.out _ HE1.out
        clear hK K
        try simp only [Act.put, List.setIfInBounds_toArray, List.set_cons_zero, List.set_cons_succ]
        refine wpAnyH_ready (rs := [2, 7]) (by kernel_rfl) (by simp) ?_
        refine consW rfl (fun K hK => ?_) ?_
        · go_simp
          go_at_call 8
          refine (dadd_at A B sm (SBx.out.old (D6.out.trans HE1.out)) (SBy.out.old (D6.out.trans HE1.out)) HQ1.out HQ2.out H_sm.out (by omega) (by omega)).mono ?_
          rintro e u2 ⟨o_s, n_s, c_s, rfl, ho, hx, hn_s⟩
          have HX2 := Lib.hid hx; have HE2 := Lib.hid (HE1.out.trans hx); have HO_s := Lib.hid ho; have HG_s := Lib.hid (fun q h => ho.ge q h)
          clear ho hx
          try go_wp2_with fail
          refine hK.out _ _ ?_ (fun hHeld => ?_)
          · (try dsimp only); exact H5.out _ HE2.out
          clear hK K
          try simp only [Act.put, List.setIfInBounds_toArray, List.set_cons_zero, List.set_cons_succ]
          refine wpAnyH_ready (rs := [5, 7]) (by kernel_rfl) (by simp) ?_
          refine consW rfl (fun K hK => ?_) ?_
          · go_simp
            go_at_call 9
            refine (dtimes_at A nn tt (SBx.out.old (D6.out.trans HE2.out)) HQ1.out H_tt.out (by omega) HN.out).mono ?_
            rintro e u3 ⟨o_t, n_t, c_t, rfl, ho, hx, hn_t⟩
            have HX3 := Lib.hid hx; have HE3 := Lib.hid (HE2.out.trans hx); have HO_t := Lib.hid ho; have HG_t := Lib.hid (fun q h => ho.ge q h)
            clear ho hx
            try go_wp2_with fail
            refine hK.out _ _ ?_ (fun hHeld => ?_)
            · (try dsimp only); exact H5.out _ HE3.out
            clear hK K
            try simp only [Act.put, List.setIfInBounds_toArray, List.set_cons_zero, List.set_cons_succ]
            refine wpAnyH_ready (rs := [7]) (by kernel_rfl) (by simp) ?_
            refine consW rfl (fun K hK => ?_) AllReadyH.nil
            obtain ⟨u4, hu⟩ : ∃ u, u3.alloc (.cells #[.slice none 0 0] 25) = u := ⟨_, rfl⟩
            have HX4 := Lib.hid (show Ext u3 u4 by rw [← hu]; exact (Ext.refl _).alloc _); have HE4 := Lib.hid (HE3.out.trans HX4.out)
            have HB_t := Lib.hid (show u4.heap[u3.heap.size]? = some (.cells #[.slice none 0 0] 25 (0, 0)) by rw [← hu]; exact heap_alloc_new u3 _)
            have HS_t := Lib.hid (show u4.heap.size = u3.heap.size + 1 by rw [← hu, alloc_size])
            have HU := Lib.hid hu; clear hu
            go_simp
            rw [HU.out]
            clear HU
            refine hK.out _ _ ?_ (fun hHeld => ?_)
            · (try dsimp only); exact H5.out _ HE4.out
            clear hK K
            try simp only [Act.put, List.setIfInBounds_toArray, List.set_cons_zero, List.set_cons_succ]
            refine wpAnyH_ready (rs := [8]) (by kernel_rfl) (by simp) ?_
            refine consW rfl (fun K hK => ?_) AllReadyH.nil
            have HR_s := Lib.hid (rowE (Ext.trans HX2.out (Ext.trans HX3.out HX4.out)) HB_s.out)
            have HR_t := HB_t
            have HNE := Lib.hid (show u0.heap.size ≠ u3.heap.size by have z1 := HX1.out.size; have z2 := HX2.out.size; have z3 := HX3.out.size; have z4 := HX4.out.size; have y_s := HS_s.out; have y_t := HS_t.out; have z0 := HE0.out.size; omega)
            have HL1 := Lib.hid (show wr.heap.size ≤ u0.heap.size by have z1 := HX1.out.size; have z2 := HX2.out.size; have z3 := HX3.out.size; have z4 := HX4.out.size; have y_s := HS_s.out; have y_t := HS_t.out; have z0 := HE0.out.size; omega); have HL2 := Lib.hid (show wr.heap.size ≤ u3.heap.size by have z1 := HX1.out.size; have z2 := HX2.out.size; have z3 := HX3.out.size; have z4 := HX4.out.size; have y_s := HS_s.out; have y_t := HS_t.out; have z0 := HE0.out.size; omega)
            have HP_s := Lib.hid (show ∀ q, blk o_s = some q → q ≠ u0.heap.size ∧ q ≠ u3.heap.size from fun q hq => by have g := HG_s.out q hq; have z1 := HX1.out.size; have z2 := HX2.out.size; have z3 := HX3.out.size; have z4 := HX4.out.size; have y_s := HS_s.out; have y_t := HS_t.out; have z0 := HE0.out.size; omega)
            have HP_t := Lib.hid (show ∀ q, blk o_t = some q → q ≠ u0.heap.size ∧ q ≠ u3.heap.size from fun q hq => by have g := HG_t.out q hq; have z1 := HX1.out.size; have z2 := HX2.out.size; have z3 := HX3.out.size; have z4 := HX4.out.size; have y_s := HS_s.out; have y_t := HS_t.out; have z0 := HE0.out.size; omega)
            have HPP := Lib.hid (show ∀ q, blk o_s = some q → blk o_t ≠ some q from fun q hq h2 => by have g := HG_s.out q hq; have g2 := HG_t.out q h2; have z1 := HX1.out.size; have z2 := HX2.out.size; have z3 := HX3.out.size; have z4 := HX4.out.size; have y_s := HS_s.out; have y_t := HS_t.out; have z0 := HE0.out.size; omega)
            have HQ_s := Lib.hid ((HO_s.out.old (Ext.trans HX3.out HX4.out)).mono (show wr.heap.size ≤ u1.heap.size by have z1 := HX1.out.size; have z2 := HX2.out.size; have z3 := HX3.out.size; have z4 := HX4.out.size; have y_s := HS_s.out; have y_t := HS_t.out; have z0 := HE0.out.size; omega))
            have HQ_t := Lib.hid ((HO_t.out.old HX4.out).mono (show wr.heap.size ≤ u2.heap.size by have z1 := HX1.out.size; have z2 := HX2.out.size; have z3 := HX3.out.size; have z4 := HX4.out.size; have y_s := HS_s.out; have y_t := HS_t.out; have z0 := HE0.out.size; omega))
            have HTW := Lib.hid (two_boxes (u1 := .slice o_s n_s c_s) (u2 := .slice o_t n_t c_t) HR_s.out HR_t.out HNE.out HE4.out HL1.out HL2.out HQ_s.out HQ_t.out HP_s.out HP_t.out HPP.out rfl rfl)
            have g1 := drow_cell HR_s.out; have g2 := row_free HR_s.out
            go_simp
            clear g1 g2
            refine hK.out _ _ ?_ (fun hHeld => ?_)
            · (try dsimp only); exact H5.out _ (box_store _ HE4.out HL1.out)
            clear hK K
            try simp only [Act.put, List.setIfInBounds_toArray, List.set_cons_zero, List.set_cons_succ]
            refine wpAnyH_ready (rs := [9]) (by kernel_rfl) (by simp) ?_
            refine consW rfl (fun K hK => ?_) AllReadyH.nil
            have g0 : (u4.setCell ⟨u0.heap.size, 0, none⟩ (.slice o_s n_s c_s)).heap[u3.heap.size]? = some (.cells #[.slice none 0 0] 25 (0, 0)) := by rw [heap_setCell_other _ ⟨u0.heap.size, 0, none⟩ (u3.heap.size) _ (by show u3.heap.size ≠ u0.heap.size; exact HNE.out.symm)]; exact HR_t.out
            have g1 := drow_cell g0; have g2 := row_free g0
            go_simp
            clear g0 g1 g2
            refine hK.out _ _ ?_ (fun hHeld => ?_)
            · (try dsimp only); exact H5.out _ (box_store _ (box_store _ HE4.out HL1.out) HL2.out)
            clear hK K
            try simp only [Act.put, List.setIfInBounds_toArray, List.set_cons_zero, List.set_cons_succ]
            refine wpAnyH_done (by kernel_rfl) ?_ _
            go_wp2_with fail
            go_meet
            exact ⟨_, _, _, _, _, _, _, _, rfl, rfl, by omega, by omega, HTW.out⟩
          refine consW rfl (fun K hK => ?_) AllReadyH.nil
          obtain ⟨u3, hu⟩ : ∃ u, u2.alloc (.cells #[.slice none 0 0] 25) = u := ⟨_, rfl⟩
          have HX3 := Lib.hid (show Ext u2 u3 by rw [← hu]; exact (Ext.refl _).alloc _); have HE3 := Lib.hid (HE2.out.trans HX3.out)
          have HB_t := Lib.hid (show u3.heap[u2.heap.size]? = some (.cells #[.slice none 0 0] 25 (0, 0)) by rw [← hu]; exact heap_alloc_new u2 _)
          have HS_t := Lib.hid (show u3.heap.size = u2.heap.size + 1 by rw [← hu, alloc_size])
          have HU := Lib.hid hu; clear hu
          go_simp
          rw [HU.out]
          clear HU
          refine hK.out _ _ ?_ (fun hHeld => ?_)
          · (try dsimp only); exact H5.out _ HE3.out
          clear hK K
          try simp only [Act.put, List.setIfInBounds_toArray, List.set_cons_zero, List.set_cons_succ]
          refine wpAnyH_ready (rs := [5]) (by kernel_rfl) (by simp) ?_
          refine consW rfl (fun K hK => ?_) AllReadyH.nil
          go_simp
          go_at_call 9
          refine (dtimes_at A nn tt (SBx.out.old (D6.out.trans HE3.out)) HQ1.out H_tt.out (by omega) HN.out).mono ?_
          rintro e u4 ⟨o_t, n_t, c_t, rfl, ho, hx, hn_t⟩
          have HX4 := Lib.hid hx; have HE4 := Lib.hid (HE3.out.trans hx); have HO_t := Lib.hid ho; have HG_t := Lib.hid (fun q h => ho.ge q h)
          clear ho hx
          try go_wp2_with fail
          refine hK.out _ _ ?_ (fun hHeld => ?_)
          · (try dsimp only); exact H5.out _ HE4.out
          clear hK K
          try simp only [Act.put, List.setIfInBounds_toArray, List.set_cons_zero, List.set_cons_succ]
          refine wpAnyH_ready (rs := [8]) (by kernel_rfl) (by simp) ?_
          refine consW rfl (fun K hK => ?_) AllReadyH.nil
          have HR_s := Lib.hid (rowE (Ext.trans HX2.out (Ext.trans HX3.out HX4.out)) HB_s.out)
          have HR_t := Lib.hid (rowE HX4.out HB_t.out)
          have HNE := Lib.hid (show u0.heap.size ≠ u2.heap.size by have z1 := HX1.out.size; have z2 := HX2.out.size; have z3 := HX3.out.size; have z4 := HX4.out.size; have y_s := HS_s.out; have y_t := HS_t.out; have z0 := HE0.out.size; omega)
          have HL1 := Lib.hid (show wr.heap.size ≤ u0.heap.size by have z1 := HX1.out.size; have z2 := HX2.out.size; have z3 := HX3.out.size; have z4 := HX4.out.size; have y_s := HS_s.out; have y_t := HS_t.out; have z0 := HE0.out.size; omega); have HL2 := Lib.hid (show wr.heap.size ≤ u2.heap.size by have z1 := HX1.out.size; have z2 := HX2.out.size; have z3 := HX3.out.size; have z4 := HX4.out.size; have y_s := HS_s.out; have y_t := HS_t.out; have z0 := HE0.out.size; omega)
          have HP_s := Lib.hid (show ∀ q, blk o_s = some q → q ≠ u0.heap.size ∧ q ≠ u2.heap.size from fun q hq => by have g := HG_s.out q hq; have z1 := HX1.out.size; have z2 := HX2.out.size; have z3 := HX3.out.size; have z4 := HX4.out.size; have y_s := HS_s.out; have y_t := HS_t.out; have z0 := HE0.out.size; omega)
          have HP_t := Lib.hid (show ∀ q, blk o_t = some q → q ≠ u0.heap.size ∧ q ≠ u2.heap.size from fun q hq => by have g := HG_t.out q hq; have z1 := HX1.out.size; have z2 := HX2.out.size; have z3 := HX3.out.size; have z4 := HX4.out.size; have y_s := HS_s.out; have y_t := HS_t.out; have z0 := HE0.out.size; omega)
          have HPP := Lib.hid (show ∀ q, blk o_s = some q → blk o_t ≠ some q from fun q hq h2 => by have g := HG_s.out q hq; have g2 := HG_t.out q h2; have z1 := HX1.out.size; have z2 := HX2.out.size; have z3 := HX3.out.size; have z4 := HX4.out.size; have y_s := HS_s.out; have y_t := HS_t.out; have z0 := HE0.out.size; omega)
          have HQ_s := Lib.hid ((HO_s.out.old (Ext.trans HX3.out HX4.out)).mono (show wr.heap.size ≤ u1.heap.size by have z1 := HX1.out.size; have z2 := HX2.out.size; have z3 := HX3.out.size; have z4 := HX4.out.size; have y_s := HS_s.out; have y_t := HS_t.out; have z0 := HE0.out.size; omega))
          have HQ_t := Lib.hid ((HO_t.out.old (Ext.refl _)).mono (show wr.heap.size ≤ u3.heap.size by have z1 := HX1.out.size; have z2 := HX2.out.size; have z3 := HX3.out.size; have z4 := HX4.out.size; have y_s := HS_s.out; have y_t := HS_t.out; have z0 := HE0.out.size; omega))
          have HTW := Lib.hid (two_boxes (u1 := .slice o_s n_s c_s) (u2 := .slice o_t n_t c_t) HR_s.out HR_t.out HNE.out HE4.out HL1.out HL2.out HQ_s.out HQ_t.out HP_s.out HP_t.out HPP.out rfl rfl)
          have g1 := drow_cell HR_s.out; have g2 := row_free HR_s.out
          go_simp
          clear g1 g2
          refine hK.out _ _ ?_ (fun hHeld => ?_)
          · (try dsimp only); exact H5.out _ (box_store _ HE4.out HL1.out)
          clear hK K
          try simp only [Act.put, List.setIfInBounds_toArray, List.set_cons_zero, List.set_cons_succ]
          refine wpAnyH_ready (rs := [9]) (by kernel_rfl) (by simp) ?_
          refine consW rfl (fun K hK => ?_) AllReadyH.nil
          have g0 : (u4.setCell ⟨u0.heap.size, 0, none⟩ (.slice o_s n_s c_s)).heap[u2.heap.size]? = some (.cells #[.slice none 0 0] 25 (0, 0)) := by rw [heap_setCell_other _ ⟨u0.heap.size, 0, none⟩ (u2.heap.size) _ (by show u2.heap.size ≠ u0.heap.size; exact HNE.out.symm)]; exact HR_t.out
          have g1 := drow_cell g0; have g2 := row_free g0
          go_simp
          clear g0 g1 g2
          refine hK.out _ _ ?_ (fun hHeld => ?_)
          · (try dsimp only); exact H5.out _ (box_store _ (box_store _ HE4.out HL1.out) HL2.out)
          clear hK K
          try simp only [Act.put, List.setIfInBounds_toArray, List.set_cons_zero, List.set_cons_succ]
          refine wpAnyH_done (by kernel_rfl) ?_ _
          go_wp2_with fail
          go_meet
          exact ⟨_, _, _, _, _, _, _, _, rfl, rfl, by omega, by omega, HTW.out⟩
        refine consW rfl (fun K hK => ?_) AllReadyH.nil
        obtain ⟨u2, hu⟩ : ∃ u, u1.alloc (.cells #[.slice none 0 0] 25) = u := ⟨_, rfl⟩
        have HX2 := Lib.hid (show Ext u1 u2 by rw [← hu]; exact (Ext.refl _).alloc _); have HE2 := Lib.hid (HE1.out.trans HX2.out)
        have HB_t := Lib.hid (show u2.heap[u1.heap.size]? = some (.cells #[.slice none 0 0] 25 (0, 0)) by rw [← hu]; exact heap_alloc_new u1 _)
        have HS_t := Lib.hid (show u2.heap.size = u1.heap.size + 1 by rw [← hu, alloc_size])
        have HU := Lib.hid hu; clear hu
        go_simp
        rw [HU.out]
        clear HU
        refine hK.out _ _ ?_ (fun hHeld => ?_)
        · (try dsimp only); exact H5.out _ HE2.out
        clear hK K
        try simp only [Act.put, List.setIfInBounds_toArray, List.set_cons_zero, List.set_cons_succ]
        refine wpAnyH_ready (rs := [2]) (by kernel_rfl) (by simp) ?_
        refine consW rfl (fun K hK => ?_) AllReadyH.nil
        go_simp
        go_at_call 8
        refine (dadd_at A B sm (SBx.out.old (D6.out.trans HE2.out)) (SBy.out.old (D6.out.trans HE2.out)) HQ1.out HQ2.out H_sm.out (by omega) (by omega)).mono ?_
        rintro e u3 ⟨o_s, n_s, c_s, rfl, ho, hx, hn_s⟩
        have HX3 := Lib.hid hx; have HE3 := Lib.hid (HE2.out.trans hx); have HO_s := Lib.hid ho; have HG_s := Lib.hid (fun q h => ho.ge q h)
        clear ho hx
        try go_wp2_with fail
        refine hK.out _ _ ?_ (fun hHeld => ?_)
        · (try dsimp only); exact H5.out _ HE3.out
        clear hK K
        try simp only [Act.put, List.setIfInBounds_toArray, List.set_cons_zero, List.set_cons_succ]
        refine wpAnyH_ready (rs := [5]) (by kernel_rfl) (by simp) ?_
        refine consW rfl (fun K hK => ?_) AllReadyH.nil
        go_simp
        go_at_call 9
        refine (dtimes_at A nn tt (SBx.out.old (D6.out.trans HE3.out)) HQ1.out H_tt.out (by omega) HN.out).mono ?_
        rintro e u4 ⟨o_t, n_t, c_t, rfl, ho, hx, hn_t⟩
        have HX4 := Lib.hid hx; have HE4 := Lib.hid (HE3.out.trans hx); have HO_t := Lib.hid ho; have HG_t := Lib.hid (fun q h => ho.ge q h)
        clear ho hx
        try go_wp2_with fail
        refine hK.out _ _ ?_ (fun hHeld => ?_)
        · (try dsimp only); exact H5.out _ HE4.out
        clear hK K
        try simp only [Act.put, List.setIfInBounds_toArray, List.set_cons_zero, List.set_cons_succ]
        refine wpAnyH_ready (rs := [8]) (by kernel_rfl) (by simp) ?_
        refine consW rfl (fun K hK => ?_) AllReadyH.nil
        have HR_s := Lib.hid (rowE (Ext.trans HX2.out (Ext.trans HX3.out HX4.out)) HB_s.out)
        have HR_t := Lib.hid (rowE (Ext.trans HX3.out HX4.out) HB_t.out)
        have HNE := Lib.hid (show u0.heap.size ≠ u1.heap.size by have z1 := HX1.out.size; have z2 := HX2.out.size; have z3 := HX3.out.size; have z4 := HX4.out.size; have y_s := HS_s.out; have y_t := HS_t.out; have z0 := HE0.out.size; omega)
        have HL1 := Lib.hid (show wr.heap.size ≤ u0.heap.size by have z1 := HX1.out.size; have z2 := HX2.out.size; have z3 := HX3.out.size; have z4 := HX4.out.size; have y_s := HS_s.out; have y_t := HS_t.out; have z0 := HE0.out.size; omega); have HL2 := Lib.hid (show wr.heap.size ≤ u1.heap.size by have z1 := HX1.out.size; have z2 := HX2.out.size; have z3 := HX3.out.size; have z4 := HX4.out.size; have y_s := HS_s.out; have y_t := HS_t.out; have z0 := HE0.out.size; omega)
        have HP_s := Lib.hid (show ∀ q, blk o_s = some q → q ≠ u0.heap.size ∧ q ≠ u1.heap.size from fun q hq => by have g := HG_s.out q hq; have z1 := HX1.out.size; have z2 := HX2.out.size; have z3 := HX3.out.size; have z4 := HX4.out.size; have y_s := HS_s.out; have y_t := HS_t.out; have z0 := HE0.out.size; omega)
        have HP_t := Lib.hid (show ∀ q, blk o_t = some q → q ≠ u0.heap.size ∧ q ≠ u1.heap.size from fun q hq => by have g := HG_t.out q hq; have z1 := HX1.out.size; have z2 := HX2.out.size; have z3 := HX3.out.size; have z4 := HX4.out.size; have y_s := HS_s.out; have y_t := HS_t.out; have z0 := HE0.out.size; omega)
        have HPP := Lib.hid (show ∀ q, blk o_s = some q → blk o_t ≠ some q from fun q hq h2 => by have g := HG_s.out q hq; have g2 := HG_t.out q h2; have z1 := HX1.out.size; have z2 := HX2.out.size; have z3 := HX3.out.size; have z4 := HX4.out.size; have y_s := HS_s.out; have y_t := HS_t.out; have z0 := HE0.out.size; omega)
        have HQ_s := Lib.hid ((HO_s.out.old HX4.out).mono (show wr.heap.size ≤ u2.heap.size by have z1 := HX1.out.size; have z2 := HX2.out.size; have z3 := HX3.out.size; have z4 := HX4.out.size; have y_s := HS_s.out; have y_t := HS_t.out; have z0 := HE0.out.size; omega))
        have HQ_t := Lib.hid ((HO_t.out.old (Ext.refl _)).mono (show wr.heap.size ≤ u3.heap.size by have z1 := HX1.out.size; have z2 := HX2.out.size; have z3 := HX3.out.size; have z4 := HX4.out.size; have y_s := HS_s.out; have y_t := HS_t.out; have z0 := HE0.out.size; omega))
        have HTW := Lib.hid (two_boxes (u1 := .slice o_s n_s c_s) (u2 := .slice o_t n_t c_t) HR_s.out HR_t.out HNE.out HE4.out HL1.out HL2.out HQ_s.out HQ_t.out HP_s.out HP_t.out HPP.out rfl rfl)
        have g1 := drow_cell HR_s.out; have g2 := row_free HR_s.out
        go_simp
        clear g1 g2
        refine hK.out _ _ ?_ (fun hHeld => ?_)
        · (try dsimp only); exact H5.out _ (box_store _ HE4.out HL1.out)
        clear hK K
        try simp only [Act.put, List.setIfInBounds_toArray, List.set_cons_zero, List.set_cons_succ]
        refine wpAnyH_ready (rs := [9]) (by kernel_rfl) (by simp) ?_
        refine consW rfl (fun K hK => ?_) AllReadyH.nil
        have g0 : (u4.setCell ⟨u0.heap.size, 0, none⟩ (.slice o_s n_s c_s)).heap[u1.heap.size]? = some (.cells #[.slice none 0 0] 25 (0, 0)) := by rw [heap_setCell_other _ ⟨u0.heap.size, 0, none⟩ (u1.heap.size) _ (by show u1.heap.size ≠ u0.heap.size; exact HNE.out.symm)]; exact HR_t.out
        have g1 := drow_cell g0; have g2 := row_free g0
        go_simp
        clear g0 g1 g2
        refine hK.out _ _ ?_ (fun hHeld => ?_)
        · (try dsimp only); exact H5.out _ (box_store _ (box_store _ HE4.out HL1.out) HL2.out)
        clear hK K
        try simp only [Act.put, List.setIfInBounds_toArray, List.set_cons_zero, List.set_cons_succ]
        refine wpAnyH_done (by kernel_rfl) ?_ _
        go_wp2_with fail
        go_meet
        exact ⟨_, _, _, _, _, _, _, _, rfl, rfl, by omega, by omega, HTW.out⟩
      refine consW rfl (fun K hK => ?_) AllReadyH.nil
      obtain ⟨u1, hu⟩ : ∃ u, u0.alloc (.cells #[.slice none 0 0] 25) = u := ⟨_, rfl⟩
      have HX1 := Lib.hid (show Ext u0 u1 by rw [← hu]; exact (Ext.refl _).alloc _); have HE1 := Lib.hid (HE0.out.trans HX1.out)
      have HB_t := Lib.hid (show u1.heap[u0.heap.size]? = some (.cells #[.slice none 0 0] 25 (0, 0)) by rw [← hu]; exact heap_alloc_new u0 _)
      have HS_t := Lib.hid (show u1.heap.size = u0.heap.size + 1 by rw [← hu, alloc_size])
      have HU := Lib.hid hu; clear hu
      go_simp
      rw [HU.out]
      clear HU
      refine hK.out _ _ ?_ (fun hHeld => ?_)
      · (try dsimp only); exact H5.out _ HE1.out
      clear hK K
      try simp only [Act.put, List.setIfInBounds_toArray, List.set_cons_zero, List.set_cons_succ]
      refine wpAnyH_ready (rs := [2, 6]) (by kernel_rfl) (by simp) ?_
      refine consW rfl (fun K hK => ?_) ?_
      · go_simp
        go_at_call 8
        refine (dadd_at A B sm (SBx.out.old (D6.out.trans HE1.out)) (SBy.out.old (D6.out.trans HE1.out)) HQ1.out HQ2.out H_sm.out (by omega) (by omega)).mono ?_
        rintro e u2 ⟨o_s, n_s, c_s, rfl, ho, hx, hn_s⟩
        have HX2 := Lib.hid hx; have HE2 := Lib.hid (HE1.out.trans hx); have HO_s := Lib.hid ho; have HG_s := Lib.hid (fun q h => ho.ge q h)
        clear ho hx
        try go_wp2_with fail
        refine hK.out _ _ ?_ (fun hHeld => ?_)
        · (try dsimp only); exact H5.out _ HE2.out
        clear hK K
        try simp only [Act.put, List.setIfInBounds_toArray, List.set_cons_zero, List.set_cons_succ]
        refine wpAnyH_ready (rs := [5, 6]) (by kernel_rfl) (by simp) ?_
        refine consW rfl (fun K hK => ?_) ?_
        · go_simp
          go_at_call 9
          refine (dtimes_at A nn tt (SBx.out.old (D6.out.trans HE2.out)) HQ1.out H_tt.out (by omega) HN.out).mono ?_
          rintro e u3 ⟨o_t, n_t, c_t, rfl, ho, hx, hn_t⟩
          have HX3 := Lib.hid hx; have HE3 := Lib.hid (HE2.out.trans hx); have HO_t := Lib.hid ho; have HG_t := Lib.hid (fun q h => ho.ge q h)
          clear ho hx
          try go_wp2_with fail
          refine hK.out _ _ ?_ (fun hHeld => ?_)
          · (try dsimp only); exact H5.out _ HE3.out
          clear hK K
          try simp only [Act.put, List.setIfInBounds_toArray, List.set_cons_zero, List.set_cons_succ]
          refine wpAnyH_ready (rs := [6]) (by kernel_rfl) (by simp) ?_
          refine consW rfl (fun K hK => ?_) AllReadyH.nil
          obtain ⟨u4, hu⟩ : ∃ u, u3.alloc (.cells #[.slice none 0 0] 25) = u := ⟨_, rfl⟩
          have HX4 := Lib.hid (show Ext u3 u4 by rw [← hu]; exact (Ext.refl _).alloc _); have HE4 := Lib.hid (HE3.out.trans HX4.out)
          have HB_s := Lib.hid (show u4.heap[u3.heap.size]? = some (.cells #[.slice none 0 0] 25 (0, 0)) by rw [← hu]; exact heap_alloc_new u3 _)
          have HS_s := Lib.hid (show u4.heap.size = u3.heap.size + 1 by rw [← hu, alloc_size])
          have HU := Lib.hid hu; clear hu
          go_simp
          rw [HU.out]
          clear HU
          refine hK.out _ _ ?_ (fun hHeld => ?_)
          · (try dsimp only); exact H5.out _ HE4.out
          clear hK K
          try simp only [Act.put, List.setIfInBounds_toArray, List.set_cons_zero, List.set_cons_succ]
          refine wpAnyH_ready (rs := [8]) (by kernel_rfl) (by simp) ?_
          refine consW rfl (fun K hK => ?_) AllReadyH.nil
          have HR_s := HB_s
          have HR_t := Lib.hid (rowE (Ext.trans HX2.out (Ext.trans HX3.out HX4.out)) HB_t.out)
          have HNE := Lib.hid (show u3.heap.size ≠ u0.heap.size by have z1 := HX1.out.size; have z2 := HX2.out.size; have z3 := HX3.out.size; have z4 := HX4.out.size; have y_s := HS_s.out; have y_t := HS_t.out; have z0 := HE0.out.size; omega)
          have HL1 := Lib.hid (show wr.heap.size ≤ u3.heap.size by have z1 := HX1.out.size; have z2 := HX2.out.size; have z3 := HX3.out.size; have z4 := HX4.out.size; have y_s := HS_s.out; have y_t := HS_t.out; have z0 := HE0.out.size; omega); have HL2 := Lib.hid (show wr.heap.size ≤ u0.heap.size by have z1 := HX1.out.size; have z2 := HX2.out.size; have z3 := HX3.out.size; have z4 := HX4.out.size; have y_s := HS_s.out; have y_t := HS_t.out; have z0 := HE0.out.size; omega)
          have HP_s := Lib.hid (show ∀ q, blk o_s = some q → q ≠ u3.heap.size ∧ q ≠ u0.heap.size from fun q hq => by have g := HG_s.out q hq; have z1 := HX1.out.size; have z2 := HX2.out.size; have z3 := HX3.out.size; have z4 := HX4.out.size; have y_s := HS_s.out; have y_t := HS_t.out; have z0 := HE0.out.size; omega)
          have HP_t := Lib.hid (show ∀ q, blk o_t = some q → q ≠ u3.heap.size ∧ q ≠ u0.heap.size from fun q hq => by have g := HG_t.out q hq; have z1 := HX1.out.size; have z2 := HX2.out.size; have z3 := HX3.out.size; have z4 := HX4.out.size; have y_s := HS_s.out; have y_t := HS_t.out; have z0 := HE0.out.size; omega)
          have HPP := Lib.hid (show ∀ q, blk o_s = some q → blk o_t ≠ some q from fun q hq h2 => by have g := HG_s.out q hq; have g2 := HG_t.out q h2; have z1 := HX1.out.size; have z2 := HX2.out.size; have z3 := HX3.out.size; have z4 := HX4.out.size; have y_s := HS_s.out; have y_t := HS_t.out; have z0 := HE0.out.size; omega)
          have HQ_s := Lib.hid ((HO_s.out.old (Ext.trans HX3.out HX4.out)).mono (show wr.heap.size ≤ u1.heap.size by have z1 := HX1.out.size; have z2 := HX2.out.size; have z3 := HX3.out.size; have z4 := HX4.out.size; have y_s := HS_s.out; have y_t := HS_t.out; have z0 := HE0.out.size; omega))
          have HQ_t := Lib.hid ((HO_t.out.old HX4.out).mono (show wr.heap.size ≤ u2.heap.size by have z1 := HX1.out.size; have z2 := HX2.out.size; have z3 := HX3.out.size; have z4 := HX4.out.size; have y_s := HS_s.out; have y_t := HS_t.out; have z0 := HE0.out.size; omega))
          have HTW := Lib.hid (two_boxes (u1 := .slice o_s n_s c_s) (u2 := .slice o_t n_t c_t) HR_s.out HR_t.out HNE.out HE4.out HL1.out HL2.out HQ_s.out HQ_t.out HP_s.out HP_t.out HPP.out rfl rfl)
          have g1 := drow_cell HR_s.out; have g2 := row_free HR_s.out
          go_simp
          clear g1 g2
          refine hK.out _ _ ?_ (fun hHeld => ?_)
          · (try dsimp only); exact H5.out _ (box_store _ HE4.out HL1.out)
          clear hK K
          try simp only [Act.put, List.setIfInBounds_toArray, List.set_cons_zero, List.set_cons_succ]
          refine wpAnyH_ready (rs := [9]) (by kernel_rfl) (by simp) ?_
          refine consW rfl (fun K hK => ?_) AllReadyH.nil
          have g0 : (u4.setCell ⟨u3.heap.size, 0, none⟩ (.slice o_s n_s c_s)).heap[u0.heap.size]? = some (.cells #[.slice none 0 0] 25 (0, 0)) := by rw [heap_setCell_other _ ⟨u3.heap.size, 0, none⟩ (u0.heap.size) _ (by show u0.heap.size ≠ u3.heap.size; exact HNE.out.symm)]; exact HR_t.out
          have g1 := drow_cell g0; have g2 := row_free g0
          go_simp
          clear g0 g1 g2
          refine hK.out _ _ ?_ (fun hHeld => ?_)
          · (try dsimp only); exact H5.out _ (box_store _ (box_store _ HE4.out HL1.out) HL2.out)
          clear hK K
          try simp only [Act.put, List.setIfInBounds_toArray, List.set_cons_zero, List.set_cons_succ]
          refine wpAnyH_done (by kernel_rfl) ?_ _
          go_wp2_with fail
          go_meet
          exact ⟨_, _, _, _, _, _, _, _, rfl, rfl, by omega, by omega, HTW.out⟩
        refine consW rfl (fun K hK => ?_) AllReadyH.nil
        obtain ⟨u3, hu⟩ : ∃ u, u2.alloc (.cells #[.slice none 0 0] 25) = u := ⟨_, rfl⟩
        have HX3 := Lib.hid (show Ext u2 u3 by rw [← hu]; exact (Ext.refl _).alloc _); have HE3 := Lib.hid (HE2.out.trans HX3.out)
        have HB_s := Lib.hid (show u3.heap[u2.heap.size]? = some (.cells #[.slice none 0 0] 25 (0, 0)) by rw [← hu]; exact heap_alloc_new u2 _)
        have HS_s := Lib.hid (show u3.heap.size = u2.heap.size + 1 by rw [← hu, alloc_size])
        have HU := Lib.hid hu; clear hu
        go_simp
        rw [HU.out]
        clear HU
        refine hK.out _ _ ?_ (fun hHeld => ?_)
        · (try dsimp only); exact H5.out _ HE3.out
        clear hK K
        try simp only [Act.put, List.setIfInBounds_toArray, List.set_cons_zero, List.set_cons_succ]
        refine wpAnyH_ready (rs := [5]) (by kernel_rfl) (by simp) ?_
        refine consW rfl (fun K hK => ?_) AllReadyH.nil
        go_simp
        go_at_call 9
        refine (dtimes_at A nn tt (SBx.out.old (D6.out.trans HE3.out)) HQ1.out H_tt.out (by omega) HN.out).mono ?_
        rintro e u4 ⟨o_t, n_t, c_t, rfl, ho, hx, hn_t⟩
        have HX4 := Lib.hid hx; have HE4 := Lib.hid (HE3.out.trans hx); have HO_t := Lib.hid ho; have HG_t := Lib.hid (fun q h => ho.ge q h)
        clear ho hx
        try go_wp2_with fail
        refine hK.out _ _ ?_ (fun hHeld => ?_)
        · (try dsimp only); exact H5.out _ HE4.out
        clear hK K
        try simp only [Act.put, List.setIfInBounds_toArray, List.set_cons_zero, List.set_cons_succ]
        refine wpAnyH_ready (rs := [8]) (by kernel_rfl) (by simp) ?_
        refine consW rfl (fun K hK => ?_) AllReadyH.nil
        have HR_s := Lib.hid (rowE HX4.out HB_s.out)
        have HR_t := Lib.hid (rowE (Ext.trans HX2.out (Ext.trans HX3.out HX4.out)) HB_t.out)
        have HNE := Lib.hid (show u2.heap.size ≠ u0.heap.size by have z1 := HX1.out.size; have z2 := HX2.out.size; have z3 := HX3.out.size; have z4 := HX4.out.size; have y_s := HS_s.out; have y_t := HS_t.out; have z0 := HE0.out.size; omega)
        have HL1 := Lib.hid (show wr.heap.size ≤ u2.heap.size by have z1 := HX1.out.size; have z2 := HX2.out.size; have z3 := HX3.out.size; have z4 := HX4.out.size; have y_s := HS_s.out; have y_t := HS_t.out; have z0 := HE0.out.size; omega); have HL2 := Lib.hid (show wr.heap.size ≤ u0.heap.size by have z1 := HX1.out.size; have z2 := HX2.out.size; have z3 := HX3.out.size; have z4 := HX4.out.size; have y_s := HS_s.out; have y_t := HS_t.out; have z0 := HE0.out.size; omega)
        have HP_s := Lib.hid (show ∀ q, blk o_s = some q → q ≠ u2.heap.size ∧ q ≠ u0.heap.size from fun q hq => by have g := HG_s.out q hq; have z1 := HX1.out.size; have z2 := HX2.out.size; have z3 := HX3.out.size; have z4 := HX4.out.size; have y_s := HS_s.out; have y_t := HS_t.out; have z0 := HE0.out.size; omega)
        have HP_t := Lib.hid (show ∀ q, blk o_t = some q → q ≠ u2.heap.size ∧ q ≠ u0.heap.size from fun q hq => by have g := HG_t.out q hq; have z1 := HX1.out.size; have z2 := HX2.out.size; have z3 := HX3.out.size; have z4 := HX4.out.size; have y_s := HS_s.out; have y_t := HS_t.out; have z0 := HE0.out.size; omega)
        have HPP := Lib.hid (show ∀ q, blk o_s = some q → blk o_t ≠ some q from fun q hq h2 => by have g := HG_s.out q hq; have g2 := HG_t.out q h2; have z1 := HX1.out.size; have z2 := HX2.out.size; have z3 := HX3.out.size; have z4 := HX4.out.size; have y_s := HS_s.out; have y_t := HS_t.out; have z0 := HE0.out.size; omega)
        have HQ_s := Lib.hid ((HO_s.out.old (Ext.trans HX3.out HX4.out)).mono (show wr.heap.size ≤ u1.heap.size by have z1 := HX1.out.size; have z2 := HX2.out.size; have z3 := HX3.out.size; have z4 := HX4.out.size; have y_s := HS_s.out; have y_t := HS_t.out; have z0 := HE0.out.size; omega))
        have HQ_t := Lib.hid ((HO_t.out.old (Ext.refl _)).mono (show wr.heap.size ≤ u3.heap.size by have z1 := HX1.out.size; have z2 := HX2.out.size; have z3 := HX3.out.size; have z4 := HX4.out.size; have y_s := HS_s.out; have y_t := HS_t.out; have z0 := HE0.out.size; omega))
        have HTW := Lib.hid (two_boxes (u1 := .slice o_s n_s c_s) (u2 := .slice o_t n_t c_t) HR_s.out HR_t.out HNE.out HE4.out HL1.out HL2.out HQ_s.out HQ_t.out HP_s.out HP_t.out HPP.out rfl rfl)
        have g1 := drow_cell HR_s.out; have g2 := row_free HR_s.out
        go_simp
        clear g1 g2
        refine hK.out _ _ ?_ (fun hHeld => ?_)
        · (try dsimp only); exact H5.out _ (box_store _ HE4.out HL1.out)
        clear hK K
        try simp only [Act.put, List.setIfInBounds_toArray, List.set_cons_zero, List.set_cons_succ]
        refine wpAnyH_ready (rs := [9]) (by kernel_rfl) (by simp) ?_
        refine consW rfl (fun K hK => ?_) AllReadyH.nil
        have g0 : (u4.setCell ⟨u2.heap.size, 0, none⟩ (.slice o_s n_s c_s)).heap[u0.heap.size]? = some (.cells #[.slice none 0 0] 25 (0, 0)) := by rw [heap_setCell_other _ ⟨u2.heap.size, 0, none⟩ (u0.heap.size) _ (by show u0.heap.size ≠ u2.heap.size; exact HNE.out.symm)]; exact HR_t.out
        have g1 := drow_cell g0; have g2 := row_free g0
        go_simp
        clear g0 g1 g2
        refine hK.out _ _ ?_ (fun hHeld => ?_)
        · (try dsimp only); exact H5.out _ (box_store _ (box_store _ HE4.out HL1.out) HL2.out)
        clear hK K
        try simp only [Act.put, List.setIfInBounds_toArray, List.set_cons_zero, List.set_cons_succ]
        refine wpAnyH_done (by kernel_rfl) ?_ _
        go_wp2_with fail
        go_meet
        exact ⟨_, _, _, _, _, _, _, _, rfl, rfl, by omega, by omega, HTW.out⟩
      refine consW rfl (fun K hK => ?_) AllReadyH.nil
      obtain ⟨u2, hu⟩ : ∃ u, u1.alloc (.cells #[.slice none 0 0] 25) = u := ⟨_, rfl⟩
      have HX2 := Lib.hid (show Ext u1 u2 by rw [← hu]; exact (Ext.refl _).alloc _); have HE2 := Lib.hid (HE1.out.trans HX2.out)
      have HB_s := Lib.hid (show u2.heap[u1.heap.size]? = some (.cells #[.slice none 0 0] 25 (0, 0)) by rw [← hu]; exact heap_alloc_new u1 _)
      have HS_s := Lib.hid (show u2.heap.size = u1.heap.size + 1 by rw [← hu, alloc_size])
      have HU := Lib.hid hu; clear hu
      go_simp
      rw [HU.out]
      clear HU
      refine hK.out _ _ ?_ (fun hHeld => ?_)
      · (try dsimp only); exact H5.out _ HE2.out
      clear hK K
      try simp only [Act.put, List.setIfInBounds_toArray, List.set_cons_zero, List.set_cons_succ]
      refine wpAnyH_ready (rs := [2]) (by kernel_rfl) (by simp) ?_
      refine consW rfl (fun K hK => ?_) AllReadyH.nil
      go_simp
      go_at_call 8
      refine (dadd_at A B sm (SBx.out.old (D6.out.trans HE2.out)) (SBy.out.old (D6.out.trans HE2.out)) HQ1.out HQ2.out H_sm.out (by omega) (by omega)).mono ?_
      rintro e u3 ⟨o_s, n_s, c_s, rfl, ho, hx, hn_s⟩
      have HX3 := Lib.hid hx; have HE3 := Lib.hid (HE2.out.trans hx); have HO_s := Lib.hid ho; have HG_s := Lib.hid (fun q h => ho.ge q h)
      clear ho hx
      try go_wp2_with fail
      refine hK.out _ _ ?_ (fun hHeld => ?_)
      · (try dsimp only); exact H5.out _ HE3.out
      clear hK K
      try simp only [Act.put, List.setIfInBounds_toArray, List.set_cons_zero, List.set_cons_succ]
      refine wpAnyH_ready (rs := [5]) (by kernel_rfl) (by simp) ?_
      refine consW rfl (fun K hK => ?_) AllReadyH.nil
      go_simp
      go_at_call 9
      refine (dtimes_at A nn tt (SBx.out.old (D6.out.trans HE3.out)) HQ1.out H_tt.out (by omega) HN.out).mono ?_
      rintro e u4 ⟨o_t, n_t, c_t, rfl, ho, hx, hn_t⟩
      have HX4 := Lib.hid hx; have HE4 := Lib.hid (HE3.out.trans hx); have HO_t := Lib.hid ho; have HG_t := Lib.hid (fun q h => ho.ge q h)
      clear ho hx
      try go_wp2_with fail
      refine hK.out _ _ ?_ (fun hHeld => ?_)
      · (try dsimp only); exact H5.out _ HE4.out
      clear hK K
      try simp only [Act.put, List.setIfInBounds_toArray, List.set_cons_zero, List.set_cons_succ]
      refine wpAnyH_ready (rs := [8]) (by kernel_rfl) (by simp) ?_
      refine consW rfl (fun K hK => ?_) AllReadyH.nil
      have HR_s := Lib.hid (rowE (Ext.trans HX3.out HX4.out) HB_s.out)
      have HR_t := Lib.hid (rowE (Ext.trans HX2.out (Ext.trans HX3.out HX4.out)) HB_t.out)
      have HNE := Lib.hid (show u1.heap.size ≠ u0.heap.size by have z1 := HX1.out.size; have z2 := HX2.out.size; have z3 := HX3.out.size; have z4 := HX4.out.size; have y_s := HS_s.out; have y_t := HS_t.out; have z0 := HE0.out.size; omega)
      have HL1 := Lib.hid (show wr.heap.size ≤ u1.heap.size by have z1 := HX1.out.size; have z2 := HX2.out.size; have z3 := HX3.out.size; have z4 := HX4.out.size; have y_s := HS_s.out; have y_t := HS_t.out; have z0 := HE0.out.size; omega); have HL2 := Lib.hid (show wr.heap.size ≤ u0.heap.size by have z1 := HX1.out.size; have z2 := HX2.out.size; have z3 := HX3.out.size; have z4 := HX4.out.size; have y_s := HS_s.out; have y_t := HS_t.out; have z0 := HE0.out.size; omega)
      have HP_s := Lib.hid (show ∀ q, blk o_s = some q → q ≠ u1.heap.size ∧ q ≠ u0.heap.size from fun q hq => by have g := HG_s.out q hq; have z1 := HX1.out.size; have z2 := HX2.out.size; have z3 := HX3.out.size; have z4 := HX4.out.size; have y_s := HS_s.out; have y_t := HS_t.out; have z0 := HE0.out.size; omega)
      have HP_t := Lib.hid (show ∀ q, blk o_t = some q → q ≠ u1.heap.size ∧ q ≠ u0.heap.size from fun q hq => by have g := HG_t.out q hq; have z1 := HX1.out.size; have z2 := HX2.out.size; have z3 := HX3.out.size; have z4 := HX4.out.size; have y_s := HS_s.out; have y_t := HS_t.out; have z0 := HE0.out.size; omega)
      have HPP := Lib.hid (show ∀ q, blk o_s = some q → blk o_t ≠ some q from fun q hq h2 => by have g := HG_s.out q hq; have g2 := HG_t.out q h2; have z1 := HX1.out.size; have z2 := HX2.out.size; have z3 := HX3.out.size; have z4 := HX4.out.size; have y_s := HS_s.out; have y_t := HS_t.out; have z0 := HE0.out.size; omega)
      have HQ_s := Lib.hid ((HO_s.out.old HX4.out).mono (show wr.heap.size ≤ u2.heap.size by have z1 := HX1.out.size; have z2 := HX2.out.size; have z3 := HX3.out.size; have z4 := HX4.out.size; have y_s := HS_s.out; have y_t := HS_t.out; have z0 := HE0.out.size; omega))
      have HQ_t := Lib.hid ((HO_t.out.old (Ext.refl _)).mono (show wr.heap.size ≤ u3.heap.size by have z1 := HX1.out.size; have z2 := HX2.out.size; have z3 := HX3.out.size; have z4 := HX4.out.size; have y_s := HS_s.out; have y_t := HS_t.out; have z0 := HE0.out.size; omega))
      have HTW := Lib.hid (two_boxes (u1 := .slice o_s n_s c_s) (u2 := .slice o_t n_t c_t) HR_s.out HR_t.out HNE.out HE4.out HL1.out HL2.out HQ_s.out HQ_t.out HP_s.out HP_t.out HPP.out rfl rfl)
      have g1 := drow_cell HR_s.out; have g2 := row_free HR_s.out
      go_simp
      clear g1 g2
      refine hK.out _ _ ?_ (fun hHeld => ?_)
      · (try dsimp only); exact H5.out _ (box_store _ HE4.out HL1.out)
      clear hK K
      try simp only [Act.put, List.setIfInBounds_toArray, List.set_cons_zero, List.set_cons_succ]
      refine wpAnyH_ready (rs := [9]) (by kernel_rfl) (by simp) ?_
      refine consW rfl (fun K hK => ?_) AllReadyH.nil
      have g0 : (u4.setCell ⟨u1.heap.size, 0, none⟩ (.slice o_s n_s c_s)).heap[u0.heap.size]? = some (.cells #[.slice none 0 0] 25 (0, 0)) := by rw [heap_setCell_other _ ⟨u1.heap.size, 0, none⟩ (u0.heap.size) _ (by show u0.heap.size ≠ u1.heap.size; exact HNE.out.symm)]; exact HR_t.out
      have g1 := drow_cell g0; have g2 := row_free g0
      go_simp
      clear g0 g1 g2
      refine hK.out _ _ ?_ (fun hHeld => ?_)
      · (try dsimp only); exact H5.out _ (box_store _ (box_store _ HE4.out HL1.out) HL2.out)
      clear hK K
      try simp only [Act.put, List.setIfInBounds_toArray, List.set_cons_zero, List.set_cons_succ]
      refine wpAnyH_done (by kernel_rfl) ?_ _
      go_wp2_with fail
      go_meet
      exact ⟨_, _, _, _, _, _, _, _, rfl, rfl, by omega, by omega, HTW.out⟩
    rename World => wv
    obtain ⟨Bs, Bt, os, ns, cs, ot, nt, ct, rfl, rfl, ls, lt, tw⟩ := hcut
    have TWS := Lib.hid tw; have xF := tw.ext; clear tw
    have D7 := Lib.hid xF
    have EX7 := Lib.hid (EX6.out.trans xF)
    clear xF
    have RBs := Lib.hid TWS.out.r1; have SBs := Lib.hid TWS.out.w1.sl
    have RBt := Lib.hid TWS.out.r2; have SBt := Lib.hid TWS.out.w2.sl
    have jx := drow_cell (rowE (Ext.trans D6.out D7.out) RBx.out)
    have jy := drow_cell (rowE (Ext.trans D6.out D7.out) RBy.out)
    have C6 := Lib.hid (dsub_gen A B dd er (SBx.out.old (Ext.trans D6.out D7.out)) (SBy.out.old (Ext.trans D6.out D7.out)) HQ1.out HQ2.out H_dd.out H_er.out (by omega) (by omega))
    go_wp2_with fail
    refine C6.out.mono ?_
    rintro e w6 ⟨od, nd, cd, rfl, o6, x6, l6⟩
    clear jx jy
    have OD := Lib.hid o6; have SD := Lib.hid o6.sl; clear o6 C6
    have D8 := Lib.hid x6
    have EX8 := Lib.hid (EX7.out.trans x6)
    clear x6
    obtain ⟨V7, hV⟩ : ∃ V, w6.alloc (.cells #[.slice od nd cd] 25) = V := ⟨_, rfl⟩
    have R7 := Lib.hid (show V7.heap[w6.heap.size]? = some (.cells #[.slice od nd cd] 25 (0, 0)) by rw [← hV]; exact heap_alloc_new w6 _)
    have x7 : Ext w6 V7 := by rw [← hV]; exact (Ext.refl _).alloc _
    have HV7 := Lib.hid hV
    clear hV
    have D9 := Lib.hid x7
    have EX9 := Lib.hid (EX8.out.trans x7)
    clear x7
    have ja := drow_cell (rowE (Ext.trans D2.out (Ext.trans D3.out (Ext.trans D4.out (Ext.trans D5.out (Ext.trans D6.out (Ext.trans D7.out (Ext.trans D8.out D9.out))))))) R1.out)
    have jb := drow_cell (rowE (Ext.trans D3.out (Ext.trans D4.out (Ext.trans D5.out (Ext.trans D6.out (Ext.trans D7.out (Ext.trans D8.out D9.out)))))) R2.out)
    have C8 := Lib.hid (rdsub_gen A B dd er (HA1.out.old (Ext.trans D1.out (Ext.trans D2.out (Ext.trans D3.out (Ext.trans D4.out (Ext.trans D5.out (Ext.trans D6.out (Ext.trans D7.out (Ext.trans D8.out D9.out))))))))) (HA2.out.old (Ext.trans D1.out (Ext.trans D2.out (Ext.trans D3.out (Ext.trans D4.out (Ext.trans D5.out (Ext.trans D6.out (Ext.trans D7.out (Ext.trans D8.out D9.out))))))))) HQ1.out HQ2.out H_dd.out H_er.out (by omega) (by omega))
    go_wp2_with (rw [HV7.out])
    refine C8.out.mono ?_
    rintro e w8 ⟨p8, n8, c8, rfl, o8, x8, l8⟩
    clear ja jb
    have S8 := Lib.hid o8.sl
    clear o8
    have D10 := Lib.hid x8
    have EX10 := Lib.hid (EX9.out.trans x8)
    clear x8
    clear C8
    obtain ⟨V9, hV⟩ : ∃ V, w8.alloc (.cells #[.slice p8 n8 c8] 25) = V := ⟨_, rfl⟩
    have R9 := Lib.hid (show V9.heap[w8.heap.size]? = some (.cells #[.slice p8 n8 c8] 25 (0, 0)) by rw [← hV]; exact heap_alloc_new w8 _)
    have x9 : Ext w8 V9 := by rw [← hV]; exact (Ext.refl _).alloc _
    have HV9 := Lib.hid hV
    clear hV
    have D11 := Lib.hid x9
    have EX11 := Lib.hid (EX10.out.trans x9)
    clear x9
    have H10 : Hid (∀ w', Ext V9 w' → w'.cell? ⟨Bs, 0, none⟩ = some (.slice os ns cs) ∧ w'.cell? ⟨Bt, 0, none⟩ = some (.slice ot nt ct) ∧ w'.cell? ⟨w6.heap.size, 0, none⟩ = some (.slice od nd cd) ∧ w'.cell? ⟨w.heap.size, 0, none⟩ = some (.slice a1 m1 c1) ∧ w'.cell? ⟨V1.heap.size, 0, none⟩ = some (.slice a2 m2 c2) ∧ w'.cell? ⟨w8.heap.size, 0, none⟩ = some (.slice p8 n8 c8)) := Lib.hid (fun w' h => ⟨drow_cell (rowE (Ext.trans (Ext.trans D8.out (Ext.trans D9.out (Ext.trans D10.out D11.out))) h) RBs.out), drow_cell (rowE (Ext.trans (Ext.trans D8.out (Ext.trans D9.out (Ext.trans D10.out D11.out))) h) RBt.out), drow_cell (rowE (Ext.trans (Ext.trans D10.out D11.out) h) R7.out), drow_cell (rowE (Ext.trans (Ext.trans D2.out (Ext.trans D3.out (Ext.trans D4.out (Ext.trans D5.out (Ext.trans D6.out (Ext.trans D7.out (Ext.trans D8.out (Ext.trans D9.out (Ext.trans D10.out D11.out))))))))) h) R1.out), drow_cell (rowE (Ext.trans (Ext.trans D3.out (Ext.trans D4.out (Ext.trans D5.out (Ext.trans D6.out (Ext.trans D7.out (Ext.trans D8.out (Ext.trans D9.out (Ext.trans D10.out D11.out)))))))) h) R2.out), drow_cell (rowE h R9.out)⟩)
    go_wp2_with (rw [HV9.out])
    go_region_held3 (fun w' => w'.cell? ⟨Bs, 0, none⟩ = some (.slice os ns cs) ∧ w'.cell? ⟨Bt, 0, none⟩ = some (.slice ot nt ct) ∧ w'.cell? ⟨w6.heap.size, 0, none⟩ = some (.slice od nd cd) ∧ w'.cell? ⟨w.heap.size, 0, none⟩ = some (.slice a1 m1 c1) ∧ w'.cell? ⟨V1.heap.size, 0, none⟩ = some (.slice a2 m2 c2) ∧ w'.cell? ⟨w8.heap.size, 0, none⟩ = some (.slice p8 n8 c8))
      (first | exact H10.out _ (Ext.refl _) | exact H10.out _ (Ext.refl _).drew | exact H10.out _ (by assumption))
      (first
        | (go_at_call 13; refine (rdadd_at A B sm (HA1.out.old ((Ext.trans D1.out (Ext.trans D2.out (Ext.trans D3.out (Ext.trans D4.out (Ext.trans D5.out (Ext.trans D6.out (Ext.trans D7.out (Ext.trans D8.out (Ext.trans D9.out (Ext.trans D10.out D11.out)))))))))).trans (Ext.refl V9).drew)) (HA2.out.old ((Ext.trans D1.out (Ext.trans D2.out (Ext.trans D3.out (Ext.trans D4.out (Ext.trans D5.out (Ext.trans D6.out (Ext.trans D7.out (Ext.trans D8.out (Ext.trans D9.out (Ext.trans D10.out D11.out)))))))))).trans (Ext.refl V9).drew)) HQ1.out HQ2.out H_sm.out (by omega) (by omega)).mono ?_; rintro e wr10_0 ⟨pr10_0, nr10_0, cr10_0, rfl, or10_0, xr10_0, lr10_0⟩; have Er10_0 : Ext V9 wr10_0 := (Ext.refl V9).drew.trans xr10_0)
        | (go_at_call_of 12 os; refine (hdec_at (SBs.out.old ((Ext.trans D8.out (Ext.trans D9.out (Ext.trans D10.out D11.out))).trans Er10_0)) or10_0.sl (by omega) (by omega)).mono ?_; rintro e wr10_1 ⟨rfl, xr10_1⟩; have Er10_1 : Ext V9 wr10_1 := Er10_0.trans xr10_1)
        | (go_at_call 14; refine (rdtimes_at A nn tt (HA1.out.old ((Ext.trans D1.out (Ext.trans D2.out (Ext.trans D3.out (Ext.trans D4.out (Ext.trans D5.out (Ext.trans D6.out (Ext.trans D7.out (Ext.trans D8.out (Ext.trans D9.out (Ext.trans D10.out D11.out)))))))))).trans Er10_1)) HQ1.out H_tt.out (by omega) HN.out).mono ?_; rintro e wr10_2 ⟨pr10_2, nr10_2, cr10_2, rfl, or10_2, xr10_2, lr10_2⟩; have Er10_2 : Ext V9 wr10_2 := Er10_1.trans xr10_2)
        | (go_at_call_of 12 ot; refine (hdec_at (SBt.out.old ((Ext.trans D8.out (Ext.trans D9.out (Ext.trans D10.out D11.out))).trans Er10_2)) or10_2.sl (by omega) (by omega)).mono ?_; rintro e wr10_3 ⟨rfl, xr10_3⟩; have Er10_3 : Ext V9 wr10_3 := Er10_2.trans xr10_3)
        | (go_at_call_of 12 od; refine (hdec_at (SD.out.old ((Ext.trans D9.out (Ext.trans D10.out D11.out)).trans Er10_3)) (S8.out.old (D11.out.trans Er10_3)) (by omega) (by omega)).mono ?_; rintro e wr10_4 ⟨rfl, xr10_4⟩; have Er10_4 : Ext V9 wr10_4 := Er10_3.trans xr10_4))
    have x10 := Er10_4
    clear xr10_0 or10_0 Er10_0 xr10_1 Er10_1 xr10_2 or10_2 Er10_2 xr10_3 Er10_3 xr10_4 Er10_4
    have D12 := Lib.hid x10
    have EX12 := Lib.hid (EX11.out.trans x10)
    clear x10
    have H11 : Hid (∀ w', Ext wr10_4 w' → w'.cell? ⟨w.heap.size, 0, none⟩ = some (.slice a1 m1 c1) ∧ w'.cell? ⟨V1.heap.size, 0, none⟩ = some (.slice a2 m2 c2) ∧ w'.cell? ⟨Bx, 0, none⟩ = some (.slice ox nx cx) ∧ w'.cell? ⟨By, 0, none⟩ = some (.slice oy ny cy)) := Lib.hid (fun w' h => ⟨drow_cell (rowE (Ext.trans (Ext.trans D2.out (Ext.trans D3.out (Ext.trans D4.out (Ext.trans D5.out (Ext.trans D6.out (Ext.trans D7.out (Ext.trans D8.out (Ext.trans D9.out (Ext.trans D10.out (Ext.trans D11.out D12.out)))))))))) h) R1.out), drow_cell (rowE (Ext.trans (Ext.trans D3.out (Ext.trans D4.out (Ext.trans D5.out (Ext.trans D6.out (Ext.trans D7.out (Ext.trans D8.out (Ext.trans D9.out (Ext.trans D10.out (Ext.trans D11.out D12.out))))))))) h) R2.out), drow_cell (rowE (Ext.trans (Ext.trans D6.out (Ext.trans D7.out (Ext.trans D8.out (Ext.trans D9.out (Ext.trans D10.out (Ext.trans D11.out D12.out)))))) h) RBx.out), drow_cell (rowE (Ext.trans (Ext.trans D6.out (Ext.trans D7.out (Ext.trans D8.out (Ext.trans D9.out (Ext.trans D10.out (Ext.trans D11.out D12.out)))))) h) RBy.out)⟩)
    go_wp2_with fail
    go_region_held3 (fun w' => w'.cell? ⟨w.heap.size, 0, none⟩ = some (.slice a1 m1 c1) ∧ w'.cell? ⟨V1.heap.size, 0, none⟩ = some (.slice a2 m2 c2) ∧ w'.cell? ⟨Bx, 0, none⟩ = some (.slice ox nx cx) ∧ w'.cell? ⟨By, 0, none⟩ = some (.slice oy ny cy))
      (first | exact H11.out _ (Ext.refl _) | exact H11.out _ (Ext.refl _).drew | exact H11.out _ (by assumption))
      (first
        | (go_at_call 15; refine (dof_at nn of HN.out H_of.out _).mono ?_; rintro e wr11_0 ⟨pr11_0, nr11_0, cr11_0, rfl, or11_0, xr11_0, lr11_0⟩; have Er11_0 : Ext wr10_4 wr11_0 := (Ext.refl wr10_4).drew.trans xr11_0)
        | (go_at_call 16; refine (rdof_at nn of HN.out H_of.out _).mono ?_; rintro e wr11_1 ⟨pr11_1, nr11_1, cr11_1, rfl, or11_1, xr11_1, lr11_1⟩; have Er11_1 : Ext wr10_4 wr11_1 := Er11_0.trans xr11_1)
        | (go_at_call_of 12 pr11_0; refine (hdec_at (or11_0.sl.old xr11_1) or11_1.sl (by omega) (by omega)).mono ?_; rintro e wr11_2 ⟨rfl, xr11_2⟩; have Er11_2 : Ext wr10_4 wr11_2 := Er11_1.trans xr11_2)
        | (go_at_call 17; refine (dbasis_at nn ba HN.out H_ba.out _).mono ?_; rintro e wr11_3 ⟨pr11_3, nr11_3, cr11_3, rfl, or11_3, xr11_3, lr11_3⟩; have Er11_3 : Ext wr10_4 wr11_3 := Er11_2.trans xr11_3)
        | (go_at_call 18; refine (rdbasis_at nn ba HN.out H_ba.out _).mono ?_; rintro e wr11_4 ⟨pr11_4, nr11_4, cr11_4, rfl, or11_4, xr11_4, lr11_4⟩; have Er11_4 : Ext wr10_4 wr11_4 := Er11_3.trans xr11_4)
        | (go_at_call_of 12 pr11_3; refine (hdec_at (or11_3.sl.old xr11_4) or11_4.sl (by omega) (by omega)).mono ?_; rintro e wr11_5 ⟨rfl, xr11_5⟩; have Er11_5 : Ext wr10_4 wr11_5 := Er11_4.trans xr11_5)
        | (go_at_call 19; refine (dofnat_at A on (SBx.out.old ((Ext.trans D6.out (Ext.trans D7.out (Ext.trans D8.out (Ext.trans D9.out (Ext.trans D10.out (Ext.trans D11.out D12.out)))))).trans Er11_5)) HQ1.out H_on.out (by omega)).mono ?_; rintro e wr11_6 ⟨pr11_6, nr11_6, cr11_6, rfl, or11_6, xr11_6, lr11_6⟩; have Er11_6 : Ext wr10_4 wr11_6 := Er11_5.trans xr11_6)
        | (go_at_call 20; refine (rdofnat_at A on (HA1.out.old ((Ext.trans D1.out (Ext.trans D2.out (Ext.trans D3.out (Ext.trans D4.out (Ext.trans D5.out (Ext.trans D6.out (Ext.trans D7.out (Ext.trans D8.out (Ext.trans D9.out (Ext.trans D10.out (Ext.trans D11.out D12.out))))))))))).trans Er11_6)) HQ1.out H_on.out (by omega)).mono ?_; rintro e wr11_7 ⟨pr11_7, nr11_7, cr11_7, rfl, or11_7, xr11_7, lr11_7⟩; have Er11_7 : Ext wr10_4 wr11_7 := Er11_6.trans xr11_7)
        | (go_at_call_of 12 pr11_6; refine (hdec_at (or11_6.sl.old xr11_7) or11_7.sl (by omega) (by omega)).mono ?_; rintro e wr11_8 ⟨rfl, xr11_8⟩; have Er11_8 : Ext wr10_4 wr11_8 := Er11_7.trans xr11_8)
        | (go_at_call 21; refine (dzero_at A zz (SBx.out.old ((Ext.trans D6.out (Ext.trans D7.out (Ext.trans D8.out (Ext.trans D9.out (Ext.trans D10.out (Ext.trans D11.out D12.out)))))).trans Er11_8)) HQ1.out H_zz.out (by omega)).mono ?_; rintro e wr11_9 ⟨rfl, xr11_9⟩; have Er11_9 : Ext wr10_4 wr11_9 := Er11_8.trans xr11_9)
        | (go_at_call 22; refine (rdzero_at A zz (HA1.out.old ((Ext.trans D1.out (Ext.trans D2.out (Ext.trans D3.out (Ext.trans D4.out (Ext.trans D5.out (Ext.trans D6.out (Ext.trans D7.out (Ext.trans D8.out (Ext.trans D9.out (Ext.trans D10.out (Ext.trans D11.out D12.out))))))))))).trans Er11_9)) HQ1.out H_zz.out (by omega)).mono ?_; rintro e wr11_10 ⟨rfl, xr11_10⟩; have Er11_10 : Ext wr10_4 wr11_10 := Er11_9.trans xr11_10)
        | (go_at_call 23; refine (dcmp_at A B cc (SBx.out.old ((Ext.trans D6.out (Ext.trans D7.out (Ext.trans D8.out (Ext.trans D9.out (Ext.trans D10.out (Ext.trans D11.out D12.out)))))).trans Er11_10)) (SBy.out.old ((Ext.trans D6.out (Ext.trans D7.out (Ext.trans D8.out (Ext.trans D9.out (Ext.trans D10.out (Ext.trans D11.out D12.out)))))).trans Er11_10)) HQ1.out HQ2.out H_cc.out (by omega) (by omega)).mono ?_; rintro e wr11_11 ⟨rfl, xr11_11⟩; have Er11_11 : Ext wr10_4 wr11_11 := Er11_10.trans xr11_11)
        | (go_at_call 24; refine (rddcmp_at A B cc (HA1.out.old ((Ext.trans D1.out (Ext.trans D2.out (Ext.trans D3.out (Ext.trans D4.out (Ext.trans D5.out (Ext.trans D6.out (Ext.trans D7.out (Ext.trans D8.out (Ext.trans D9.out (Ext.trans D10.out (Ext.trans D11.out D12.out))))))))))).trans Er11_11)) (HA2.out.old ((Ext.trans D1.out (Ext.trans D2.out (Ext.trans D3.out (Ext.trans D4.out (Ext.trans D5.out (Ext.trans D6.out (Ext.trans D7.out (Ext.trans D8.out (Ext.trans D9.out (Ext.trans D10.out (Ext.trans D11.out D12.out))))))))))).trans Er11_11)) HQ1.out HQ2.out H_cc.out (by omega) (by omega)).mono ?_; rintro e wr11_12 ⟨rfl, xr11_12⟩; have Er11_12 : Ext wr10_4 wr11_12 := Er11_11.trans xr11_12))
    have x11 := Er11_12
    clear xr11_0 or11_0 Er11_0 xr11_1 or11_1 Er11_1 xr11_2 Er11_2 xr11_3 or11_3 Er11_3 xr11_4 or11_4 Er11_4 xr11_5 Er11_5 xr11_6 or11_6 Er11_6 xr11_7 or11_7 Er11_7 xr11_8 Er11_8 xr11_9 Er11_9 xr11_10 Er11_10 xr11_11 Er11_11 xr11_12 Er11_12
    have D13 := Lib.hid x11
    have EX13 := Lib.hid (EX12.out.trans x11)
    clear x11
    have XX0 := Lib.hid (Ext.trans D7.out (Ext.trans D8.out (Ext.trans D9.out (Ext.trans D10.out (Ext.trans D11.out (Ext.trans D12.out D13.out))))))
    have F_s0 := Lib.hid (show Free wr.heap.size wr11_12 os ns cs from (Free.of TWS.out.w1).old (Ext.trans D8.out (Ext.trans D9.out (Ext.trans D10.out (Ext.trans D11.out (Ext.trans D12.out D13.out))))))
    have F_t0 := Lib.hid (show Free wr.heap.size wr11_12 ot nt ct from (Free.of TWS.out.w2).old (Ext.trans D8.out (Ext.trans D9.out (Ext.trans D10.out (Ext.trans D11.out (Ext.trans D12.out D13.out))))))
    have F_d0 := Lib.hid (show Free wv.heap.size wr11_12 od nd cd from (Free.of OD.out).old (Ext.trans D9.out (Ext.trans D10.out (Ext.trans D11.out (Ext.trans D12.out D13.out)))))
    have RW_s0 := Lib.hid (rowE (Ext.trans D8.out (Ext.trans D9.out (Ext.trans D10.out (Ext.trans D11.out (Ext.trans D12.out D13.out))))) RBs.out)
    have RW_t0 := Lib.hid (rowE (Ext.trans D8.out (Ext.trans D9.out (Ext.trans D10.out (Ext.trans D11.out (Ext.trans D12.out D13.out))))) RBt.out)
    have RW_d0 := Lib.hid (rowE (Ext.trans D10.out (Ext.trans D11.out (Ext.trans D12.out D13.out))) R7.out)
    have HDB := Lib.hid (show wv.heap.size ≤ w6.heap.size from D8.out.size)
    have HDA := Lib.hid (show wr.heap.size ≤ wv.heap.size from D7.out.size)
    have AP_sd := Lib.hid (Own.later TWS.out.w1 OD.out (Ext.refl _).size)
    have AP_td := Lib.hid (Own.later TWS.out.w2 OD.out (Ext.refl _).size)
    have js := drow_cell RW_s0.out
    have CS := Lib.hid (spoilF_calls F_s0.out (by omega))
    go_wp2_with fail
    refine CS.out.mono ?_
    rintro e ws0 ⟨rfl, tt0⟩
    have T0 := Lib.hid tt0; clear tt0 CS js
    have XX1 := Lib.hid (Free.ext F_s0.out XX0.out (Nat.le_refl _) T0.out)
    have RW_t1 := Lib.hid (Turned.row' T0.out (fun q hq => (TWS.out.a1 q hq).2) RW_t0.out)
    have RW_d1 := Lib.hid (Turned.row' T0.out (fun q hq => by have := (TWS.out.w1.ge q hq).2; have := HDB.out; omega) RW_d0.out)
    have F_t1 := Lib.hid (Free.next F_t0.out T0.out TWS.out.apart)
    have F_d1 := Lib.hid (Free.next F_d0.out T0.out AP_sd.out)
    have jt := drow_cell RW_t1.out
    have CS := Lib.hid (spoilF_calls F_t1.out (by omega))
    go_wp2_with fail
    refine CS.out.mono ?_
    rintro e ws1 ⟨rfl, tt1⟩
    have T1 := Lib.hid tt1; clear tt1 CS jt
    have XX2 := Lib.hid (Free.ext F_t1.out XX1.out (Nat.le_refl _) T1.out)
    have RW_d2 := Lib.hid (Turned.row' T1.out (fun q hq => by have := (TWS.out.w2.ge q hq).2; have := HDB.out; omega) RW_d1.out)
    have F_d2 := Lib.hid (Free.next F_d1.out T1.out AP_td.out)
    have jd := drow_cell RW_d2.out
    have CS := Lib.hid (spoilF_calls F_d2.out (by omega))
    go_wp2_with fail
    refine CS.out.mono ?_
    rintro e ws2 ⟨rfl, tt2⟩
    have T2 := Lib.hid tt2; clear tt2 CS jd
    have xx3 := Free.ext F_d2.out XX2.out HDA.out T2.out
    have D7 := Lib.hid xx3
    have EX7 := Lib.hid (EX6.out.trans xx3)
    clear xx3
    have jx := drow_cell (rowE (Ext.trans D6.out D7.out) RBx.out)
    have ja := drow_cell (rowE (Ext.trans D2.out (Ext.trans D3.out (Ext.trans D4.out (Ext.trans D5.out (Ext.trans D6.out D7.out))))) R1.out)
    have C12 := Lib.hid (hdec_at (SBx.out.old (Ext.trans D6.out D7.out)) (HA1.out.old (Ext.trans D1.out (Ext.trans D2.out (Ext.trans D3.out (Ext.trans D4.out (Ext.trans D5.out (Ext.trans D6.out D7.out))))))) (by omega) (by omega))
    go_wp2_with fail
    refine C12.out.mono ?_
    rintro e w12 ⟨rfl, x12⟩
    clear jx ja
    have D8 := Lib.hid x12
    have EX8 := Lib.hid (EX7.out.trans x12)
    clear x12
    clear C12
    have jy := drow_cell (rowE (Ext.trans D6.out (Ext.trans D7.out D8.out)) RBy.out)
    have jb := drow_cell (rowE (Ext.trans D3.out (Ext.trans D4.out (Ext.trans D5.out (Ext.trans D6.out (Ext.trans D7.out D8.out))))) R2.out)
    have C13 := Lib.hid (hdec_at (SBy.out.old (Ext.trans D6.out (Ext.trans D7.out D8.out))) (HA2.out.old (Ext.trans D1.out (Ext.trans D2.out (Ext.trans D3.out (Ext.trans D4.out (Ext.trans D5.out (Ext.trans D6.out (Ext.trans D7.out D8.out)))))))) (by omega) (by omega))
    go_wp2_with fail
    refine C13.out.mono ?_
    rintro e w13 ⟨rfl, x13⟩
    clear jy jb
    have D9 := Lib.hid x13
    have EX9 := Lib.hid (EX8.out.trans x13)
    clear x13
    clear C13
    go_wp2_with fail
    go_roundw
    case rel => exact ⟨k + 1, by omega, by go_num, (Ext.trans D6.out (Ext.trans D7.out (Ext.trans D8.out D9.out)))⟩
    case measure => simp only [RowKit.intOf]; omega

end Go.Proofs.YtifoflicflodcaaGreatDoor
