/- dec's calls with their numbers named. -/
import Derived.Test.YtifoflicflodcaaGreatDoorDMore
import Derived.Test.YtifoflicflodcaaGreatDoorDPar
import Derived.Test.YtifoflicflodcaaGreatDoorDSub
import Derived.Test.YtifoflicflodcaaGreatDoorRound3
import Derived.Test.YtifoflicflodcaaGreatDoorDKnM
import Derived.Test.YtifoflicflodcaaGreatDoorDecM
namespace Go.Proofs.YtifoflicflodcaaGreatDoor
open Go.RowKit Go.Lib

theorem drow_cell {w : World} {B n c : Nat} {o : Option Addr} {T : TypeId} (h : w.heap[B]? = some (.cells #[.slice o n c] T (0, 0))) : w.cell? ⟨B, 0, none⟩ = some (.slice o n c) := by
  rw [cell_of_row _ _ _ _ _ _ h]; rfl
theorem NewD.wide {w : World} {L L' : Nat} {xs : List Nat} {e : Ending} {w' : World} (h : NewD w L xs e w') (h1 : L ≤ L') : NewD w L' xs e w' := by
  obtain ⟨a, n, c, r, x, y, p⟩ := h
  exact ⟨a, n, c, r, x, y, by omega⟩
theorem NewDE.wide {w : World} {L L' : Nat} {xs : List Nat} {er : Int} {e : Ending} {w' : World} (h : NewDE w L xs er e w') (h1 : L ≤ L') : NewDE w L' xs er e w' := by
  obtain ⟨a, n, c, r, x, y, p⟩ := h
  exact ⟨a, n, c, r, x, y, by omega⟩
theorem rdE_pos {Z : Nat} (h : Z ≠ 0) : rdE Z = 0 := by unfold rdE; rw [if_neg h]
theorem rdL_up {P Z : Nat} (h : Z ≠ 0) : rdL true P Z = lim (P / Z + if P % Z = 0 then 0 else 1) := by
  unfold rdL rdV
  rw [if_neg h]
  by_cases h0 : P % Z = 0
  · rw [if_pos h0, if_neg (by simp [h0])]
  · rw [if_neg h0, if_pos (by simp [h0])]
theorem dof_at (n X : Nat) (hn : n < B64) (hX : n * U36 = X) (w : World) : Calls Tryz.prog 15 #[.int .u64 (n : Int)] w (NewD w 3 (lim X)) := by subst hX; exact dof_calls n hn w
theorem dadd_at (X Y Z : Nat) {a b : Option Addr} {m n c d : Nat} {xs ys : List Nat} {w : World} (ha : Sl w a m c xs) (hb : Sl w b n d ys) (hx : val xs = X) (hy : val ys = Y) (h : X + Y = Z) (hm : m ≤ 10000) (hn : n ≤ 10000) :
    Calls Tryz.prog 8 #[DecV a m c, DecV b n d] w (NewD w (m + n + 1) (lim Z)) := by subst hx hy h; exact dadd_calls ha hb (by omega) (by omega)
theorem dsub_at (X Y Z : Nat) {a b : Option Addr} {m n c d : Nat} {xs ys : List Nat} {w : World} (ha : Sl w a m c xs) (hb : Sl w b n d ys) (hx : val xs = X) (hy : val ys = Y) (h0 : Y ≤ X) (h : X - Y = Z) (hm : m ≤ 10000) (hn : n ≤ 10000) :
    Calls Tryz.prog 10 #[DecV a m c, DecV b n d] w (NewDE w m (lim Z) 0) := by
  subst hx hy h
  have := dsub_calls ha hb (by omega) (by omega)
  unfold dsubL dsubE at this
  rwa [if_neg (by omega), if_neg (by omega)] at this
theorem dsub_no (X Y : Nat) {a b : Option Addr} {m n c d : Nat} {xs ys : List Nat} {w : World} (ha : Sl w a m c xs) (hb : Sl w b n d ys) (hx : val xs = X) (hy : val ys = Y) (h0 : X < Y) (hm : m ≤ 10000) (hn : n ≤ 10000) :
    Calls Tryz.prog 10 #[DecV a m c, DecV b n d] w (NewDE w m [] 20) := by
  subst hx hy
  have := dsub_calls ha hb (by omega) (by omega)
  unfold dsubL dsubE at this
  rwa [if_pos h0, if_pos h0] at this
theorem dmul_at (X Y Z : Nat) {a b : Option Addr} {m n c d : Nat} {xs ys : List Nat} {w : World} (ha : Sl w a m c xs) (hb : Sl w b n d ys) (hx : val xs = X) (hy : val ys = Y) (h : X * Y / U36 = Z) (hm : m ≤ 10000) (hn : n ≤ 10000) :
    Calls Tryz.prog 36 #[DecV a m c, DecV b n d] w (NewD w (m + n + 2) (lim Z)) := by subst hx hy h; exact dmul_calls ha hb (by omega) (by omega)
theorem dtimes_at (X n Z : Nat) {a : Option Addr} {m c : Nat} {xs : List Nat} {w : World} (ha : Sl w a m c xs) (hx : val xs = X) (h : X * n = Z) (hm : m ≤ 10000) (hn : n < B64) :
    Calls Tryz.prog 9 #[DecV a m c, .int .u64 (n : Int)] w (NewD w (m + 1) (lim Z)) := by subst hx h; exact dtimes_calls ha (by omega) hn
theorem dquo_at (X Y Z : Nat) {a b : Option Addr} {m n c d : Nat} {xs ys : List Nat} {w : World} (ha : Sl w a m c xs) (hb : Sl w b n d ys) (hx : val xs = X) (hy : val ys = Y) (h0 : Y ≠ 0) (h : X * U36 / Y = Z) (hm : m ≤ 10000) (hn : n ≤ 10000) :
    Calls Tryz.prog 26 #[DecV a m c, DecV b n d] w (NewDE w (m + 4) (lim Z) 0) := by
  subst hx hy h
  have := dquo_calls ha hb (by omega) (by omega)
  rwa [rdL_down h0, rdE_pos h0] at this
theorem dquo_no {a b : Option Addr} {m n c d : Nat} {xs ys : List Nat} {w : World} (ha : Sl w a m c xs) (hb : Sl w b n d ys) (hy : val ys = 0) (hm : m ≤ 10000) (hn : n ≤ 10000) :
    Calls Tryz.prog 26 #[DecV a m c, DecV b n d] w (NewDE w (m + 4) [] 21) := by
  have := dquo_calls ha hb (by omega) (by omega)
  unfold rdL rdE at this
  rwa [if_pos hy, if_pos hy] at this
theorem dmuldiv_at (X Y Z Q : Nat) {a b f : Option Addr} {m n l c d g : Nat} {xs ys zs : List Nat} {w : World} (ha : Sl w a m c xs) (hb : Sl w b n d ys) (hf : Sl w f l g zs) (hx : val xs = X) (hy : val ys = Y) (hz : val zs = Z) (h0 : Z ≠ 0) (h : X * Y / Z = Q) (hm : m ≤ 10000) (hn : n ≤ 10000) (hl : l ≤ 10000) :
    Calls Tryz.prog 28 #[DecV a m c, DecV b n d, DecV f l g] w (NewDE w (m + n + 2) (lim Q) 0) := by
  subst hx hy hz h
  have := dmuldiv_calls ha hb hf (by omega) (by omega) (by omega)
  rwa [rdL_down h0, rdE_pos h0] at this
theorem dmuldiv_no {a b f : Option Addr} {m n l c d g : Nat} {xs ys zs : List Nat} {w : World} (ha : Sl w a m c xs) (hb : Sl w b n d ys) (hf : Sl w f l g zs) (hz : val zs = 0) (hm : m ≤ 10000) (hn : n ≤ 10000) (hl : l ≤ 10000) :
    Calls Tryz.prog 28 #[DecV a m c, DecV b n d, DecV f l g] w (NewDE w (m + n + 2) [] 21) := by
  have := dmuldiv_calls ha hb hf (by omega) (by omega) (by omega)
  unfold rdL rdE at this
  rwa [if_pos hz, if_pos hz] at this
theorem dmuldivup_at (X Y Z Q : Nat) {a b f : Option Addr} {m n l c d g : Nat} {xs ys zs : List Nat} {w : World} (ha : Sl w a m c xs) (hb : Sl w b n d ys) (hf : Sl w f l g zs) (hx : val xs = X) (hy : val ys = Y) (hz : val zs = Z) (h0 : Z ≠ 0) (h : (X * Y / Z + if X * Y % Z = 0 then 0 else 1) = Q) (hm : m ≤ 10000) (hn : n ≤ 10000) (hl : l ≤ 10000) :
    Calls Tryz.prog 30 #[DecV a m c, DecV b n d, DecV f l g] w (NewDE w (m + n + 2) (lim Q) 0) := by
  subst hx hy hz h
  have := dmuldivup_calls ha hb hf (by omega) (by omega) (by omega)
  rwa [rdL_up h0, rdE_pos h0] at this
theorem dover_at (X n Z : Nat) {a : Option Addr} {m c : Nat} {xs : List Nat} {w : World} (ha : Sl w a m c xs) (hx : val xs = X) (h0 : n ≠ 0) (h : X / n = Z) (hm : m ≤ 10000) (hn : n < B64) :
    Calls Tryz.prog 32 #[DecV a m c, .int .u64 (n : Int)] w (NewDE w (m + 3) (lim Z) 0) := by
  subst hx h
  have := dover_calls ha (by omega) hn
  rwa [rdL_down h0, rdE_pos h0] at this
theorem dbasis_at (n Z : Nat) (hn : n < B64) (h : U36 / 10000 * n = Z) (w : World) : Calls Tryz.prog 17 #[.int .u64 (n : Int)] w (NewD w 4 (lim Z)) := by subst h; exact dbasis_calls n hn w
theorem dcmp_at (X Y : Nat) (q : Int) {a b : Option Addr} {m n c d : Nat} {xs ys : List Nat} {w : World} (ha : Sl w a m c xs) (hb : Sl w b n d ys) (hx : val xs = X) (hy : val ys = Y) (h : cmpN X Y = q) (hm : m ≤ 10000) (hn : n ≤ 10000) :
    Calls Tryz.prog 23 #[DecV a m c, DecV b n d] w (RetE (.int .i64 q) w) := by subst hx hy h; exact dcmp_calls ha hb (by omega) (by omega)
theorem dzero_at (X : Nat) (v : Bool) {a : Option Addr} {m c : Nat} {xs : List Nat} {w : World} (ha : Sl w a m c xs) (hx : val xs = X) (h : decide (X = 0) = v) (hm : m ≤ 10000) :
    Calls Tryz.prog 21 #[DecV a m c] w (RetE (.bool v) w) := by subst hx h; exact dzero_calls ha (by omega)
theorem dofnat_at (X Z : Nat) {a : Option Addr} {m c : Nat} {xs : List Nat} {w : World} (ha : Sl w a m c xs) (hx : val xs = X) (h : X * U36 = Z) (hm : m ≤ 10000) :
    Calls Tryz.prog 19 #[.slice a m c] w (NewD w (m + 2) (lim Z)) := by subst hx h; exact dofnat_calls ha (by omega)
theorem dtrunc_at (X N R : Nat) {a : Option Addr} {m c : Nat} {xs : List Nat} {w : World} (ha : Sl w a m c xs) (hx : val xs = X) (h : X / U36 = N) (h2 : X % U36 = R) (hm : m ≤ 10000) :
    Calls Tryz.prog 34 #[DecV a m c] w (TruncRes w m (lim N) (lim R)) := by subst hx h h2; exact dtrunc_calls ha (by omega)
theorem dtext_at (X : Nat) (l : List UInt8) {a : Option Addr} {m c : Nat} {xs : List Nat} {w : World} (ha : Sl w a m c xs) (hX : val xs = X) (hl : decText X = l) (hm : m ≤ 1000) (ht : Tab w) :
    Calls Tryz.prog 40 #[DecV a m c] w (StrE l w) := by subst hX hl; exact dtext_calls ha hm ht
theorem text_at (X : Nat) (l : List UInt8) {a : Option Addr} {n c : Nat} {xs : List Nat} {w : World} (ha : Sl w a n c xs) (hx : val xs = X) (hl : decDigits X = l) (hn : n ≤ 100000) (ht : Tab w) :
    Calls Tryz.prog 41 #[.slice a n c] w (StrE l w) := by subst hx hl; exact text_calls ha (by omega) ht
theorem dparse_at (l : List UInt8) (V : Nat) (hl : l.length ≤ 60) (h : decRead l = some V) {w : World} (hM : MaxL w) : Calls Tryz.prog 39 #[.string ⟨l.toArray⟩] w (NewDE w 100 (lim V) 0) := by
  have := dparse_calls l (by omega) hM
  unfold drL drE at this
  rw [h] at this
  exact this.mono fun e w' h => NewDE.wide h (by omega)
theorem dparse_no (l : List UInt8) (hl : l.length ≤ 60) (h : decRead l = none) {w : World} (hM : MaxL w) : Calls Tryz.prog 39 #[.string ⟨l.toArray⟩] w (NewDE w 100 [] 22) := by
  have := dparse_calls l (by omega) hM
  unfold drL drE at this
  rw [h] at this
  exact this.mono fun e w' h => NewDE.wide h (by omega)

end Go.Proofs.YtifoflicflodcaaGreatDoor
