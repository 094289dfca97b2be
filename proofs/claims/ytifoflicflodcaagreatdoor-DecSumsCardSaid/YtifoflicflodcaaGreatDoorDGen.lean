
/- dec's roundings with their numbers named, whatever the divisor. -/
import Derived.Test.YtifoflicflodcaaGreatDoorDAt
import Derived.Test.YtifoflicflodcaaGreatDoorHNat
import Derived.Test.YtifoflicflodcaaGreatDoorDTPar
namespace Go.Proofs.YtifoflicflodcaaGreatDoor
open Go.RowKit Go.Lib

/-- What a rounding answers: nought where the divisor is nought. -/
def qN (up : Bool) (P Z : Nat) : Nat := if Z = 0 then 0 else rdV up P Z
theorem rdL_qN (up : Bool) (P Z : Nat) : rdL up P Z = lim (qN up P Z) := by
  unfold rdL qN
  by_cases h : Z = 0
  · rw [if_pos h, if_pos h]; rfl
  · rw [if_neg h, if_neg h]
theorem qN_down {P Z : Nat} (h : Z ≠ 0) : qN false P Z = P / Z := by
  unfold qN rdV
  rw [if_neg h, if_neg (by simp)]; rfl
theorem qN_up {P Z : Nat} (h : Z ≠ 0) : qN true P Z = P / Z + if P % Z = 0 then 0 else 1 := by
  unfold qN rdV
  rw [if_neg h]
  by_cases h0 : P % Z = 0
  · rw [if_pos h0, if_neg (by simp [h0])]
  · rw [if_neg h0, if_pos (by simp [h0])]
theorem qN_zero (up : Bool) (P : Nat) : qN up P 0 = 0 := by unfold qN; rw [if_pos rfl]
theorem qN_mono {P Q : Nat} (Z : Nat) (h : P ≤ Q) : qN false P Z ≤ qN false Q Z := by
  by_cases hz : Z = 0
  · rw [hz, qN_zero, qN_zero]; exact Nat.le_refl _
  · rw [qN_down hz, qN_down hz]; exact Nat.div_le_div_right h
theorem dquo_gen (X Y Z : Nat) (r : Int) {a b : Option Addr} {m n c d : Nat} {xs ys : List Nat} {w : World} (ha : Sl w a m c xs) (hb : Sl w b n d ys) (hx : val xs = X) (hy : val ys = Y) (h : qN false (X * U36) Y = Z) (hr : rdE Y = r) (hm : m ≤ 10000) (hn : n ≤ 10000) :
    Calls Tryz.prog 26 #[DecV a m c, DecV b n d] w (NewDE w (m + 4) (lim Z) r) := by
  subst hx hy h hr
  have := dquo_calls ha hb (by omega) (by omega)
  rwa [rdL_qN] at this
theorem dmuldiv_gen (X Y Z Q : Nat) (r : Int) {a b f : Option Addr} {m n l c d g : Nat} {xs ys zs : List Nat} {w : World} (ha : Sl w a m c xs) (hb : Sl w b n d ys) (hf : Sl w f l g zs) (hx : val xs = X) (hy : val ys = Y) (hz : val zs = Z) (h : qN false (X * Y) Z = Q) (hr : rdE Z = r) (hm : m ≤ 10000) (hn : n ≤ 10000) (hl : l ≤ 10000) :
    Calls Tryz.prog 28 #[DecV a m c, DecV b n d, DecV f l g] w (NewDE w (m + n + 2) (lim Q) r) := by
  subst hx hy hz h hr
  have := dmuldiv_calls ha hb hf (by omega) (by omega) (by omega)
  rwa [rdL_qN] at this
theorem dmuldivup_gen (X Y Z Q : Nat) (r : Int) {a b f : Option Addr} {m n l c d g : Nat} {xs ys zs : List Nat} {w : World} (ha : Sl w a m c xs) (hb : Sl w b n d ys) (hf : Sl w f l g zs) (hx : val xs = X) (hy : val ys = Y) (hz : val zs = Z) (h : qN true (X * Y) Z = Q) (hr : rdE Z = r) (hm : m ≤ 10000) (hn : n ≤ 10000) (hl : l ≤ 10000) :
    Calls Tryz.prog 30 #[DecV a m c, DecV b n d, DecV f l g] w (NewDE w (m + n + 2) (lim Q) r) := by
  subst hx hy hz h hr
  have := dmuldivup_calls ha hb hf (by omega) (by omega) (by omega)
  rwa [rdL_qN] at this
theorem dover_gen (X n Z : Nat) (r : Int) {a : Option Addr} {m c : Nat} {xs : List Nat} {w : World} (ha : Sl w a m c xs) (hx : val xs = X) (h : qN false X n = Z) (hr : rdE n = r) (hm : m ≤ 10000) (hn : n < B64) :
    Calls Tryz.prog 32 #[DecV a m c, .int .u64 (n : Int)] w (NewDE w (m + 3) (lim Z) r) := by
  subst hx h hr
  have := dover_calls ha (by omega) hn
  rwa [rdL_qN] at this

theorem mul_at (X Y Z : Nat) {a b : Option Addr} {m n c d : Nat} {xs ys : List Nat} {w : World} (ha : Sl w a m c xs) (hb : Sl w b n d ys) (hx : val xs = X) (hy : val ys = Y) (h : X * Y = Z) (hm : m ≤ 100000) (hn : n ≤ 100000) : Calls Tryz.prog 43 #[.slice a m c, .slice b n d] w (New w (m + n) (lim Z)) := by
  subst hx hy h
  exact mul_calls ha hb (by omega) (by omega)
theorem norm_at (X : Nat) {a : Option Addr} {m c : Nat} {xs : List Nat} {w : World} (ha : Sl w a m c xs) (hx : val xs = X) (hm : m ≤ 100000) : Calls Tryz.prog 68 #[.slice a m c] w (New w m (lim X)) := by
  subst hx; exact norm_calls ha (by omega)
theorem cmp_at (X Y : Nat) (q : Int) {a b : Option Addr} {m n c d : Nat} {xs ys : List Nat} {w : World} (ha : Sl w a m c xs) (hb : Sl w b n d ys) (hx : val xs = X) (hy : val ys = Y) (h : cmpN X Y = q) (hm : m ≤ 100000) (hn : n ≤ 100000) : Calls Tryz.prog 56 #[.slice a m c, .slice b n d] w (RetE (.int .i64 q) w) := by
  subst hx hy h
  exact (cmp_calls ha hb (by omega) (by omega)).mono fun e w' ⟨h1, k, h2⟩ => ⟨h1, h2 ▸ (Ext.refl w).drewN k⟩
theorem hnat_at {a b : Option Addr} {m n c d : Nat} {xs ys : List Nat} {w : World} (q : Bool) (ha : Sl w a m c xs) (hb : Sl w b n d ys) (h : decide (xs = ys) = q) (hm : m ≤ 100000) (hn : n ≤ 100000) : Calls Tryz.prog 38 #[.slice a m c, .slice b n d] w (RetE (.bool q) w) := by
  have := hnat_calls ha hb (by omega) (by omega)
  rw [h] at this
  exact this.mono fun e w' ⟨h1, k, h2⟩ => ⟨h1, h2 ▸ (Ext.refl w).drewN k⟩
/-- A text is no longer than a Parse bears. -/
theorem decText_len {X k : Nat} (h : (lim X).length ≤ k) : (decText X).length ≤ 20 * k + 38 := by
  have h1 : (lim (X / U36)).length ≤ k := Nat.le_trans (digs_len_mono B64_two (Nat.div_le_self X U36)) h
  have h2 := nDigits_limbs h1
  unfold decText
  by_cases h0 : X % U36 = 0
  · rw [if_pos h0, decDigits_length]; omega
  · rw [if_neg h0, List.length_append, List.length_append, decDigits_length]
    have h3 := trimRightB_len (padk 36 (X % U36)) 48
    rw [padk_length] at h3
    simp only [List.length_cons, List.length_nil]
    omega
theorem dparse_back (X : Nat) (l : List UInt8) (hl : decText X = l) (hb : l.length ≤ 1000) {w : World} (hM : MaxL w) : Calls Tryz.prog 39 #[.string ⟨l.toArray⟩] w (NewDE w 2000 (lim X) 0) := by
  have := dparse_calls l hb hM
  have e1 : drL l = lim X := by unfold drL; rw [← hl, decRead_text]
  have e2 : drE l = 0 := by unfold drE; rw [← hl, decRead_text]
  rw [e1, e2] at this
  exact this.mono fun e w' h => NewDE.wide h (by omega)
theorem dsub_gen (X Y Z : Nat) (r : Int) {a b : Option Addr} {m n c d : Nat} {xs ys : List Nat} {w : World} (ha : Sl w a m c xs) (hb : Sl w b n d ys) (hx : val xs = X) (hy : val ys = Y) (h : X - Y = Z) (hr : (if X < Y then (20 : Int) else 0) = r) (hm : m ≤ 10000) (hn : n ≤ 10000) :
    Calls Tryz.prog 10 #[DecV a m c, DecV b n d] w (NewDE w m (lim Z) r) := by
  by_cases h0 : X < Y
  · rw [if_pos h0] at hr
    rw [← hr, ← h, show X - Y = 0 by omega]
    exact dsub_no X Y ha hb hx hy h0 hm hn
  · rw [if_neg h0] at hr
    rw [← hr]
    exact dsub_at X Y Z ha hb hx hy (by omega) h hm hn
theorem cmpN_le_zero {x y : Nat} (h : x ≤ y) : ¬ (0 : Int) < cmpN x y := by
  rcases Nat.lt_or_eq_of_le h with h | h
  · rw [cmpN_lt h]; decide
  · rw [cmpN_eq h]; decide
theorem packX {W w8 : World} {B C : Nat} {v u : Value} {T : TypeId} {o : Option Addr} {n c : Nat} {xs : List Nat} (R9 : w8.heap[B]? = some (.cells #[v] T (0, 0))) (E : Ext W w8) (hB : W.heap.size ≤ B) (hown : Own C w8 o n c xs) (hBC : B < C) :
    ∃ wF BB, BB = B ∧ wF = w8.setCell ⟨B, 0, none⟩ u ∧ Ext W wF ∧ wF.heap[BB]? = some (.cells #[u] T (0, 0)) ∧ Own C wF o n c xs :=
  ⟨_, _, rfl, rfl, box_store u E hB, heap_setCell_same w8 B 0 _ T u R9, hown.box u hBC⟩
theorem packAX {W w8 : World} {C : Nat} {u : Value} {T : TypeId} {o : Option Addr} {n c : Nat} {xs : List Nat} (E : Ext W w8) (hown : Own C w8 o n c xs) :
    ∃ wF BB, BB = w8.heap.size ∧ wF = w8.alloc (.cells #[u] T (0, 0)) ∧ Ext W wF ∧ wF.heap[BB]? = some (.cells #[u] T (0, 0)) ∧ Own C wF o n c xs :=
  ⟨_, _, rfl, rfl, E.alloc _, heap_alloc_new w8 _, hown.old ((Ext.refl _).alloc _)⟩
end Go.Proofs.YtifoflicflodcaaGreatDoor
