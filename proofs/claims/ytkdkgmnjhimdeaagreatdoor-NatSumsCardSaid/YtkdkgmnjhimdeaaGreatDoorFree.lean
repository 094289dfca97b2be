/- What Spoil may write over, one slice after another. -/
import Derived.Test.YtkdkgmnjhimdeaaGreatDoorSpoil
import Derived.Test.YtkdkgmnjhimdeaaGreatDoorAt1
import Derived.Test.YtkdkgmnjhimdeaaGreatDoorRefN
namespace Go.Proofs.YtkdkgmnjhimdeaaGreatDoor
open Go.RowKit

/-- Nothing is written through this slice, or it is one's own. -/
def Free (B : Nat) (w : World) (a : Option Addr) (n c : Nat) : Prop := n = 0 ∨ ∃ xs, Own B w a n c xs
/-- At most the slice's own block has turned. -/
def Turned (a : Option Addr) (n : Nat) (w w' : World) : Prop := ∃ row, (row = none ∨ (0 < n ∧ row = blk a)) ∧ w.grownBy w' row
theorem Free.of {B : Nat} {w : World} {a : Option Addr} {n c : Nat} {xs : List Nat} (h : Own B w a n c xs) : Free B w a n c := .inr ⟨xs, h⟩
theorem Free.old {B : Nat} {w w' : World} {a : Option Addr} {n c : Nat} (h : Free B w a n c) (E : Ext w w') : Free B w' a n c := by
  rcases h with h | ⟨xs, h⟩
  · exact .inl h
  · exact .inr ⟨xs, h.old E⟩
theorem Free.next {B : Nat} {w w' : World} {a b : Option Addr} {n m d : Nat} (h : Free B w b m d) (ht : Turned a n w w') (hd : n = 0 ∨ m = 0 ∨ blk a ≠ blk b) : Free B w' b m d := by
  rcases h with h | ⟨xs, h⟩
  · exact .inl h
  · obtain ⟨row, hr, hg⟩ := ht
    rcases hr with rfl | ⟨hn, rfl⟩
    · exact .inr ⟨xs, h.grown hg (.inl rfl)⟩
    · rcases hd with h0 | h0 | h0
      · omega
      · exact .inl h0
      · exact .inr ⟨xs, h.grown hg (.inr fun e => h0 e.symm)⟩
theorem Free.ext {B : Nat} {W w w' : World} {a : Option Addr} {n c : Nat} (h : Free B w a n c) (E : Ext W w) (hB : W.heap.size ≤ B) (ht : Turned a n w w') : Ext W w' := by
  obtain ⟨row, hr, hg⟩ := ht
  rcases hr with rfl | ⟨hn, rfl⟩
  · exact Below.grown E hg E.size (fun k hk => by cases hk)
  · rcases h with h | ⟨xs, h⟩
    · omega
    · exact E.grown' h hB hg
/-- What was made later lies apart. -/
theorem Own.later {B B' : Nat} {w w' : World} {a b : Option Addr} {n c m d : Nat} {xs ys : List Nat} (h : Own B w a n c xs) (h' : Own B' w' b m d ys) (hB : w.heap.size ≤ B') : n = 0 ∨ m = 0 ∨ blk a ≠ blk b := by
  rcases h.row with rfl | ⟨k, off, cur, e, rfl, hk, hh⟩
  · exact .inl h.sl.none_len
  · refine .inr (.inr fun e => ?_)
    have h1 := (h'.ge k e.symm).1
    have h2 := (Array.getElem?_eq_some_iff.1 hh).1
    omega
set_option maxHeartbeats 1000000 in
set_option maxRecDepth 100000 in
theorem spoilF_calls {B : Nat} {a : Option Addr} {n c : Nat} {w : World} (h : Free B w a n c) (hn : n ≤ 1000000) :
    Calls Tryz.prog 33 #[.slice a n c] w (fun e w' => e = .returned (.tuple #[]) ∧ Turned a n w w') := by
  by_cases h0 : n = 0
  · subst h0
    clear h
    go_enter Tryz.func33, Tryz.ntmps33
    go_wp2_with fail
    go_loopw [2] (fun iv wr => iv = .int .i64 0 ∧ wr = w) (fun iv _ => 0)
    case atStart => exact ⟨rfl, rfl⟩
    case round =>
      obtain ⟨rfl, rfl⟩ := hrel
      go_wp2_with fail
      go_end0
      exact ⟨rfl, none, .inl rfl, grownBy_refl _ _⟩
  · rcases h with h | ⟨xs, h⟩
    · exact absurd h h0
    · refine (spoil_calls h (by omega)).mono ?_
      rintro e w' ⟨os, rfl, -, hg⟩
      exact ⟨rfl, blk a, .inr ⟨by omega, rfl⟩, hg⟩

theorem copy_at {a : Option Addr} {n c : Nat} {xs : List Nat} {w : World} (h : Sl w a n c xs) (hn : n ≤ 60) : Calls Tryz.prog 17 #[.slice a n c] w (New w 60 xs) :=
  (copy_calls h (by omega)).mono fun e w' ⟨a, n, c, h1, h2, h3, h4⟩ => ⟨a, n, c, h1, h2, h3, by omega⟩
theorem divq_at (X Y : Nat) (E : Int) (P Q : List Nat) {a b : Option Addr} {m n c d : Nat} {xs ys : List Nat} {w : World} (ha : Sl w a m c xs) (hb : Sl w b n d ys) (hx : val xs = X) (hy : val ys = Y) (hE : divE Y = E) (hP : quoL X Y = P) (hQ : remL X Y = Q) (hm : m ≤ 60) (hn : n ≤ 60) :
    Calls Tryz.prog 34 #[.slice a m c, .slice b n d] w (DivRes w 60 P Q E) := by
  subst hx hy hE hP hQ
  exact (divmod_calls ha hb (by omega) (by omega)).mono fun e w' ⟨a1, c1, L1, a2, c2, L2, h1, h2, h3, h4, h5, h6, h7⟩ => ⟨a1, c1, L1, a2, c2, L2, h1, h2, h3, h4, by omega, by omega, h7⟩
theorem rdivq_at (X Y : Nat) (E : Int) (P Q : List Nat) {a b : Option Addr} {m n c d : Nat} {xs ys : List Nat} {w : World} (ha : Sl w a m c xs) (hb : Sl w b n d ys) (hx : val xs = X) (hy : val ys = Y) (hE : divE Y = E) (hP : quoL X Y = P) (hQ : remL X Y = Q) (hm : m ≤ 60) (hn : n ≤ 60) :
    Calls Tryz.prog 35 #[.slice a m c, .slice b n d] w (DivRes w 240 P Q E) := by
  subst hx hy hE hP hQ
  exact (rdivmod_calls ha hb (by omega) (by omega)).mono fun e w' ⟨a1, c1, L1, a2, c2, L2, h1, h2, h3, h4, h5, h6, h7⟩ => ⟨a1, c1, L1, a2, c2, L2, h1, h2, h3, h4, by omega, by omega, h7⟩
theorem muldivq_at (X Y Z : Nat) (E : Int) (P Q : List Nat) {a b f : Option Addr} {m n l c d g : Nat} {xs ys zs : List Nat} {w : World} (ha : Sl w a m c xs) (hb : Sl w b n d ys) (hf : Sl w f l g zs) (hx : val xs = X) (hy : val ys = Y) (hz : val zs = Z) (hE : divE Z = E) (hP : quoL (X * Y) Z = P) (hQ : remL (X * Y) Z = Q) (hm : m ≤ 60) (hn : n ≤ 60) (hl : l ≤ 60) :
    Calls Tryz.prog 36 #[.slice a m c, .slice b n d, .slice f l g] w (DivRes w 120 P Q E) := by
  subst hx hy hz hE hP hQ
  exact (muldiv_calls ha hb hf (by omega) (by omega) (by omega)).mono fun e w' ⟨a1, c1, L1, a2, c2, L2, h1, h2, h3, h4, h5, h6, h7⟩ => ⟨a1, c1, L1, a2, c2, L2, h1, h2, h3, h4, by omega, by omega, h7⟩
theorem rmuldivq_at (X Y Z : Nat) (E : Int) (P Q : List Nat) {a b f : Option Addr} {m n l c d g : Nat} {xs ys zs : List Nat} {w : World} (ha : Sl w a m c xs) (hb : Sl w b n d ys) (hf : Sl w f l g zs) (hx : val xs = X) (hy : val ys = Y) (hz : val zs = Z) (hE : divE Z = E) (hP : quoL (X * Y) Z = P) (hQ : remL (X * Y) Z = Q) (hm : m ≤ 60) (hn : n ≤ 60) (hl : l ≤ 60) :
    Calls Tryz.prog 37 #[.slice a m c, .slice b n d, .slice f l g] w (DivRes w 1000 P Q E) := by
  subst hx hy hz hE hP hQ
  exact (rmuldiv_calls ha hb hf (by omega) (by omega) (by omega)).mono fun e w' ⟨a1, c1, L1, a2, c2, L2, h1, h2, h3, h4, h5, h6, h7⟩ => ⟨a1, c1, L1, a2, c2, L2, h1, h2, h3, h4, by omega, by omega, h7⟩

/-- What the loop of the exact laws keeps. -/
def LoopRel (W : World) (iv : Value) (wr : World) : Prop := ∃ k : Nat, k ≤ 2 ∧ iv = .int .i64 (k : Int) ∧ Ext W wr

end Go.Proofs.YtkdkgmnjhimdeaaGreatDoor
