/- nat's calls with their numbers named; gleanhelp.Normal, Place. -/
import Derived.Test.YtkdkgmnjhimdeaaGreatDoorHelp1
import Derived.Test.YtkdkgmnjhimdeaaGreatDoorGcd
import Derived.Test.YtkdkgmnjhimdeaaGreatDoorBits
namespace Go.Proofs.YtkdkgmnjhimdeaaGreatDoor
open Go.RowKit

set_option maxHeartbeats 2000000 in
set_option maxRecDepth 100000 in
theorem hnormal_calls {a : Option Addr} {n c X : Nat} {w : World} (ha : Sl w a n c (lim X)) (hn : n ≤ 1000000) :
    Calls Tryz.prog 53 #[.slice a n c] w (Ret (.bool true) w) := by
  obtain ⟨i0, hi, hz0, hs, hby⟩ := info_parts info64
  have hl := ha.len
  by_cases hX : X = 0
  · have hn0 : n = 0 := by rw [← hl, hX]; rfl
    subst hn0
    clear hi hz0 hs hby hl hX ha
    go_enter Tryz.func53, Tryz.ntmps53
    go_wp2_with fail
    go_ret
    exact ⟨rfl, rfl⟩
  · have htop := lim_top hX
    rw [hl] at htop
    have hn0 : n ≠ 0 := fun h => hX (lim_len_zero (by rw [hl]; exact h))
    obtain ⟨b, off, hix, hcell, -⟩ := ha.ix (P := Tryz.prog) Tryz.underlying23 hi hs
    have x1 := hix (n - 1) (by omega)
    have x2 := hcell (n - 1) (by omega)
    rw [show ((n - 1 : Nat) : Int) = (n : Int) - 1 by omega] at x1
    obtain ⟨t, ht⟩ : ∃ t, (lim X).getD (n - 1) 0 = t := ⟨_, rfl⟩
    rw [ht] at x2 htop
    have g1 : ((n : Int) == 0) = false := by rw [beq_eq_false_iff_ne]; omega
    have g2 : ((t : Int) == 0) = false := by rw [beq_eq_false_iff_ne]; omega
    clear hi hz0 hs hby hl hX ha ht hix hcell
    go_enter Tryz.func53, Tryz.ntmps53
    go_wp2_with fail
    go_ret
    refine ⟨?_, rfl⟩
    show Ending.returned (.bool ((t : Int) != 0)) = _
    rw [bne, g2]; rfl


set_option maxHeartbeats 2000000 in
set_option maxRecDepth 100000 in
/-- A place in a list of n. -/
theorem hplace_calls (k : Int) (_hk : -9223372036854775808 ≤ k ∧ k ≤ 9223372036854775807) (n : Nat) (hn : 0 < n ∧ n ≤ 1000000) (w : World) :
    ∃ r : Nat, r < n ∧ Calls Tryz.prog 55 #[.int .i64 k, .int .i64 (n : Int)] w (Ret (.int .i64 (r : Int)) w) := by
  obtain ⟨q, hq⟩ : ∃ q, k.tmod (n : Int) = q := ⟨_, rfl⟩
  have h1 : -(n : Int) < q ∧ q < (n : Int) := by
    rw [← hq]
    constructor
    · exact Int.lt_tmod_of_pos k (by omega)
    · exact Int.tmod_lt_of_pos k (by omega)
  have g0 : ((n : Int) == 0) = false := by rw [beq_eq_false_iff_ne]; omega
  have g00 : ¬ ((n : Int) = 0) := by omega
  by_cases hneg : q < 0
  · refine ⟨(q + n).toNat, by omega, ?_⟩
    have hr : (((q + n).toNat : Nat) : Int) = q + n := by omega
    rw [hr]
    have hw : IntKind.i64.wrap (q + (n : Int)) = q + (n : Int) := IntWalk.i64_in _ (by omega)
    have hw0 : IntKind.i64.wrap q = q := IntWalk.i64_in _ (by omega)
    go_enter Tryz.func55, Tryz.ntmps55
    go_wp2_with fail
    go_ret
    exact ⟨rfl, rfl⟩
  · refine ⟨q.toNat, by omega, ?_⟩
    have hr : ((q.toNat : Nat) : Int) = q := by omega
    rw [hr]
    have hw0 : IntKind.i64.wrap q = q := IntWalk.i64_in _ (by omega)
    go_enter Tryz.func55, Tryz.ntmps55
    go_wp2_with fail
    go_ret
    exact ⟨rfl, rfl⟩

theorem lit_at (w : World) (x : Nat) (h0 : 0 < x) (hx : x < B64) : Sl (w.alloc (.cells #[.int .u64 (x : Int)] 33)) (some ⟨w.heap.size, 0, none⟩) 1 1 (lim x) := by
  rw [lim_small h0 hx]; exact (own_lit w.heap.size w x hx (Nat.le_refl _)).sl
/-- What a literal of two limbs lays. -/
theorem lit2_at (w : World) (x y : Nat) (hx : x < B64) (hy0 : 0 < y) (hy : y < B64) : Sl (w.alloc (.cells #[.int .u64 (x : Int), .int .u64 (y : Int)] 33)) (some ⟨w.heap.size, 0, none⟩) 2 2 (lim (x + B64 * y)) := by
  have hc : (w.alloc (.cells #[.int .u64 (x : Int), .int .u64 (y : Int)] 33 (0, 0))).heap[w.heap.size]? = some (.cells #[.int .u64 (x : Int), .int .u64 (y : Int)] 33 (0, 0)) := heap_alloc_new w _
  have e : lim (x + B64 * y) = [x, y] := lim_eq_of (Bd.cons hx (Bd.cons hy (Bd.nil _))) (by simp [Nrm]; omega) (by simp [val])
  rw [e]
  refine ⟨rfl, Nat.le_refl _, by decide, Bd.cons hx (Bd.cons hy (Bd.nil _)), .inr ⟨_, _, rfl, ?_⟩⟩
  intro i hi
  rw [cell_of_row _ _ _ _ _ _ hc]
  match i, hi with
  | 0, _ => rfl
  | 1, _ => rfl

theorem add_at (X Y Z : Nat) {a b : Option Addr} {m n c d : Nat} {xs ys : List Nat} {w : World} (ha : Sl w a m c xs) (hb : Sl w b n d ys) (hx : val xs = X) (hy : val ys = Y) (h : X + Y = Z) (hm : m ≤ 100000) (hn : n ≤ 100000) : Calls Tryz.prog 18 #[.slice a m c, .slice b n d] w (New w (m + n + 1) (lim Z)) := by
  subst hx hy h
  exact (add_calls ha hb (by omega) (by omega)).mono fun e w' ⟨a, n, c, h1, h2, h3, h4⟩ => ⟨a, n, c, h1, h2, h3, by omega⟩
theorem mul_at (X Y Z : Nat) {a b : Option Addr} {m n c d : Nat} {xs ys : List Nat} {w : World} (ha : Sl w a m c xs) (hb : Sl w b n d ys) (hx : val xs = X) (hy : val ys = Y) (h : X * Y = Z) (hm : m ≤ 100000) (hn : n ≤ 100000) : Calls Tryz.prog 19 #[.slice a m c, .slice b n d] w (New w (m + n) (lim Z)) := by
  subst hx hy h
  exact mul_calls ha hb (by omega) (by omega)
theorem norm_at (X : Nat) {a : Option Addr} {m c : Nat} {xs : List Nat} {w : World} (ha : Sl w a m c xs) (hx : val xs = X) (hm : m ≤ 100000) : Calls Tryz.prog 20 #[.slice a m c] w (New w m (lim X)) := by
  subst hx; exact norm_calls ha (by omega)
theorem sub_at (X Y Z : Nat) {a b : Option Addr} {m n c d : Nat} {xs ys : List Nat} {w : World} (ha : Sl w a m c xs) (hb : Sl w b n d ys) (hx : val xs = X) (hy : val ys = Y) (h : X = Z + Y) (hm : m ≤ 100000) (hn : n ≤ 100000) : Calls Tryz.prog 21 #[.slice a m c, .slice b n d] w (New2 w m (lim Z) 0) := by
  have := sub_calls_ge ha hb (by omega) (by omega) (by omega)
  rwa [hx, hy, show X - Y = Z by omega] at this
theorem sub_no (X Y : Nat) {a b : Option Addr} {m n c d : Nat} {xs ys : List Nat} {w : World} (ha : Sl w a m c xs) (hb : Sl w b n d ys) (hx : val xs = X) (hy : val ys = Y) (h : X < Y) (hm : m ≤ 100000) (hn : n ≤ 100000) : Calls Tryz.prog 21 #[.slice a m c, .slice b n d] w (New2 w m [] 10) :=
  sub_calls_lt ha hb (by omega) (by omega) (by omega)
theorem divmod_at (X Y Q R : Nat) {a b : Option Addr} {m n c d : Nat} {xs ys : List Nat} {w : World} (ha : Sl w a m c xs) (hb : Sl w b n d ys) (hx : val xs = X) (hy : val ys = Y) (h0 : Y ≠ 0) (h1 : X / Y = Q) (h2 : X % Y = R) (hm : m ≤ 100000) (hn : n ≤ 100000) : Calls Tryz.prog 34 #[.slice a m c, .slice b n d] w (DivRes w m (lim Q) (lim R) 0) := by
  have := divmod_calls ha hb (by omega) (by omega)
  unfold quoL remL divE at this
  rwa [hx, hy, if_neg h0, if_neg h0, if_neg h0, h1, h2] at this
theorem divmod_no (_X : Nat) {a b : Option Addr} {m n c d : Nat} {xs ys : List Nat} {w : World} (ha : Sl w a m c xs) (hb : Sl w b n d ys) (hy : val ys = 0) (hm : m ≤ 100000) (hn : n ≤ 100000) : Calls Tryz.prog 34 #[.slice a m c, .slice b n d] w (DivRes w m [] [] 11) := by
  have := divmod_calls ha hb (by omega) (by omega)
  unfold quoL remL divE at this
  rwa [hy, if_pos rfl, if_pos rfl, if_pos rfl] at this
theorem muldiv_at (X Y Z Q R : Nat) {a b e : Option Addr} {m n l c d f : Nat} {xs ys zs : List Nat} {w : World} (ha : Sl w a m c xs) (hb : Sl w b n d ys) (hx : val xs = X) (hy : val ys = Y) (he : Sl w e l f zs) (hz : val zs = Z) (h0 : Z ≠ 0) (h1 : X * Y / Z = Q) (h2 : X * Y % Z = R) (hm : m ≤ 100000) (hn : n ≤ 100000) (hl : l ≤ 100000) :
    Calls Tryz.prog 36 #[.slice a m c, .slice b n d, .slice e l f] w (DivRes w (m + n) (lim Q) (lim R) 0) := by
  have := muldiv_calls ha hb he (by omega) (by omega) (by omega)
  unfold quoL remL divE at this
  rwa [hx, hy, hz, if_neg h0, if_neg h0, if_neg h0, h1, h2] at this
theorem gcd_at (X Y G : Nat) {a b : Option Addr} {m n c d : Nat} {xs ys : List Nat} {w : World} (ha : Sl w a m c xs) (hb : Sl w b n d ys) (hx : val xs = X) (hy : val ys = Y) (h : Nat.gcd X Y = G) (hm : m ≤ 100000) (hn : n ≤ 100000) (htz : TzTab w) : Calls Tryz.prog 40 #[.slice a m c, .slice b n d] w (New w (m + n) (lim G)) := by
  subst hx hy h; exact gcd_calls ha hb (by omega) (by omega) htz
theorem cmp_at (X Y : Nat) (q : Int) {a b : Option Addr} {m n c d : Nat} {xs ys : List Nat} {w : World} (ha : Sl w a m c xs) (hb : Sl w b n d ys) (hx : val xs = X) (hy : val ys = Y) (h : cmpN X Y = q) (hm : m ≤ 100000) (hn : n ≤ 100000) : Calls Tryz.prog 29 #[.slice a m c, .slice b n d] w (RetE (.int .i64 q) w) := by
  subst hx hy h
  exact (cmp_calls ha hb (by omega) (by omega)).mono fun e w' ⟨h1, k, h2⟩ => ⟨h1, h2 ▸ (Ext.refl w).drewN k⟩
theorem hnat_yes {a b : Option Addr} {m n c d : Nat} {xs ys : List Nat} {w : World} (ha : Sl w a m c xs) (hb : Sl w b n d ys) (h : xs = ys) (hm : m ≤ 100000) (hn : n ≤ 100000) : Calls Tryz.prog 25 #[.slice a m c, .slice b n d] w (RetE (.bool true) w) := by
  have := hnat_calls ha hb (by omega) (by omega)
  rw [decide_eq_true h] at this
  exact this.mono fun e w' ⟨h1, k, h2⟩ => ⟨h1, h2 ▸ (Ext.refl w).drewN k⟩
theorem hnat_at {a b : Option Addr} {m n c d : Nat} {xs ys : List Nat} {w : World} (q : Bool) (ha : Sl w a m c xs) (hb : Sl w b n d ys) (h : decide (xs = ys) = q) (hm : m ≤ 100000) (hn : n ≤ 100000) : Calls Tryz.prog 25 #[.slice a m c, .slice b n d] w (RetE (.bool q) w) := by
  have := hnat_calls ha hb (by omega) (by omega)
  rw [h] at this
  exact this.mono fun e w' ⟨h1, k, h2⟩ => ⟨h1, h2 ▸ (Ext.refl w).drewN k⟩
theorem bits_at (X L : Nat) {a : Option Addr} {m c : Nat} {xs : List Nat} {w : World} (ha : Sl w a m c xs) (hx : val xs = X) (h : bitLen X = L) (hm : m ≤ 100000) : Calls Tryz.prog 31 #[.slice a m c] w (Ret (.int .i64 (L : Int)) w) := by
  subst hx h; exact bits_calls ha (by omega)
theorem lim_nil_iff {X : Nat} : lim X = [] ↔ X = 0 := digs_nil B64_two
theorem Sl.len_zero {w : World} {a : Option Addr} {n c X : Nat} (h : Sl w a n c (lim X)) : n = 0 ↔ X = 0 := by
  constructor
  · intro hn
    have := h.len
    rw [hn] at this
    exact lim_nil_iff.1 (List.eq_nil_of_length_eq_zero this)
  · intro hX
    have := h.len
    rw [lim_nil_iff.2 hX] at this
    simpa using this.symm
theorem decide_lim (X Y : Nat) : decide (lim X = lim Y) = (cmpN X Y == 0) := by
  have hi : lim X = lim Y ↔ X = Y := ⟨fun h => by have := congrArg val h; rwa [val_lim, val_lim] at this, fun h => by rw [h]⟩
  rw [Bool.eq_iff_iff, decide_eq_true_iff, beq_iff_eq, hi]
  constructor
  · intro h; exact cmpN_eq h
  · intro h
    rcases Nat.lt_trichotomy X Y with k | k | k
    · rw [cmpN_lt k] at h; exact absurd h (by decide)
    · exact k
    · rw [cmpN_gt k] at h; exact absurd h (by decide)

end Go.Proofs.YtkdkgmnjhimdeaaGreatDoor
