/- nat.Norm, nat.Of, nat.Small, nat.Cmp. -/
import Derived.Test.YtifoflicflodcaaGreatDoorAdd
namespace Go.Proofs.YtifoflicflodcaaGreatDoor
open Go.RowKit

theorem lim_eq_of {xs : List Nat} {n : Nat} (hb : Bd B64 xs) (hn : Nrm xs) (h : val xs = n) : lim n = xs := (digs_unique B64_two hb hn h).symm
theorem lim_small {n : Nat} (h0 : 0 < n) (h : n < B64) : lim n = [n] :=
  lim_eq_of (Bd.cons h (Bd.nil _)) (by simp [Nrm]; omega) (by simp [val])
theorem lim_zero : lim 0 = [] := rfl
theorem lim_len_le {n k : Nat} (h : n < B64 ^ k) : (lim n).length ≤ k := digs_len_le B64_two h
theorem lim_lt (n : Nat) : n < B64 ^ (lim n).length := digs_lt_pow B64_two n
theorem lim_len_zero {n : Nat} (h : (lim n).length = 0) : n = 0 := by have := lim_lt n; rw [h] at this; simpa using this
theorem lim_len_one {n : Nat} (h : (lim n).length ≤ 1) : n < B64 := by
  have := lim_lt n
  have h2 : B64 ^ (lim n).length ≤ B64 ^ 1 := Nat.pow_le_pow_right B64_pos h
  rw [Nat.pow_one] at h2
  omega
theorem lim_len_two {n : Nat} (h : 1 < (lim n).length) : B64 ≤ n := by
  rcases Nat.lt_or_ge n B64 with h' | h'
  · have := lim_len_le (n := n) (k := 1) (by rw [Nat.pow_one]; exact h'); omega
  · exact h'

set_option maxHeartbeats 1000000 in
set_option maxRecDepth 100000 in
theorem norm_calls {a : Option Addr} {n c : Nat} {xs : List Nat} {w : World} (h : Sl w a n c xs) (hn : n ≤ 1000000000) :
    Calls Tryz.prog 68 #[.slice a n c] w (New w n (lim (val xs))) := by
  obtain ⟨i0, hi, hz0, hs, hby⟩ := info_parts info64
  have CT := Lib.hid (trimmed_calls h)
  have hl := h.trimmed_len
  have ht := h.trimmed
  go_enter Tryz.func68, Tryz.ntmps68
  go_wp2_with fail
  refine CT.out.mono ?_
  rintro e w' ⟨rfl, rfl⟩
  go_wp2_with (at_builtin; refine append_nil_sl _ rfl _ _ _ rfl _ _ Tryz.underlying23 hi hz0 hs hby rfl _ _ _ _ rfl ht (by omega) ?_)
  intro a' c' w1 ho hext
  go_wp2_with fail
  go_ret
  exact ⟨a', _, c', rfl, ho, hext, hl⟩

set_option maxHeartbeats 1000000 in
set_option maxRecDepth 100000 in
theorem of_calls (x : Nat) (hx : x < B64) (w : World) :
    Calls Tryz.prog 44 #[.int .u64 (x : Int)] w (New w 1 (lim x)) := by
  by_cases h0 : x = 0
  · subst h0
    go_enter Tryz.func44, Tryz.ntmps44
    go_wp2_with fail
    go_ret
    exact ⟨none, 0, 0, rfl, by rw [lim_zero]; exact Own.nil _ _, Ext.refl _, by omega⟩
  · have h1 : ((x : Int) == 0) = false := by rw [beq_eq_false_iff_ne]; omega
    have HX := Lib.hid hx
    have H0 := Lib.hid h0
    clear hx h0
    go_enter Tryz.func44, Tryz.ntmps44
    go_wp2_with fail
    go_ret
    have hc : (w.alloc (.cells #[.int .u64 (x : Int)] 26 (0, 0))).heap[w.heap.size]? = some (.cells #[.int .u64 (x : Int)] 26 (0, 0)) := heap_alloc_new w _
    rw [lim_small (by have := H0.out; omega) HX.out]
    refine ⟨some ⟨w.heap.size, 0, none⟩, 1, 1, rfl, ⟨⟨rfl, Nat.le_refl _, by decide, Bd.cons HX.out (Bd.nil _), .inr ⟨_, _, rfl, ?_⟩⟩, .inr ⟨_, _, _, _, rfl, Nat.le_refl _, hc⟩⟩, (Ext.refl w).alloc _, Nat.le_refl _⟩
    intro i hi
    obtain rfl : i = 0 := by omega
    rw [cell_of_row _ _ _ _ _ _ hc]; rfl

/-- What nat.Small tells. -/
def smallV (n : Nat) : Nat := if n < B64 then n else 0
theorem smallV_lt {n : Nat} (h : n < B64) : smallV n = n := by simp [smallV, h]
theorem smallV_ge {n : Nat} (h : B64 ≤ n) : smallV n = 0 := by unfold smallV; rw [if_neg (by omega)]

set_option maxHeartbeats 1000000 in
set_option maxRecDepth 100000 in
theorem small_calls {a : Option Addr} {n c : Nat} {xs : List Nat} {w : World} (h : Sl w a n c xs) :
    Calls Tryz.prog 71 #[.slice a n c] w (Ret (.tuple #[.int .u64 (smallV (val xs) : Nat), .bool (decide (val xs < B64))]) w) := by
  obtain ⟨i0, hi, hz0, hs, hby⟩ := info_parts info64
  have ct := trimmed_calls h
  have ht := h.trimmed
  have hl := h.trimmed_len
  have e0 := Lib.hid (@lim_len_zero (val xs))
  have e1 := Lib.hid (@lim_len_one (val xs))
  have e2 := Lib.hid (@lim_len_two (val xs))
  have e3 := Lib.hid (val_lim (val xs))
  have HT := Lib.hid ht.len
  generalize val xs = X at *
  generalize lim X = us at *
  have HA : Hid (us.length = us.length) := rfl
  obtain ⟨A, hA⟩ : ∃ A, us.length = A := ⟨_, rfl⟩
  rw [hA] at ct ht hl
  have CT := Lib.hid ct
  have HL := Lib.hid hA
  clear ct hA HA HT
  obtain ⟨b, off, hix, hcell, -⟩ := ht.ix (P := Tryz.prog) Tryz.underlying23 hi hs
  have HI := Lib.hid hix
  have HC := Lib.hid hcell
  clear hix hcell
  by_cases hA0 : A = 0
  · subst hA0
    have hX : X = 0 := e0.out HL.out
    subst hX
    have HV := Lib.hid (smallV_lt (n := 0) B64_pos)
    go_enter Tryz.func71, Tryz.ntmps71
    go_wp2_with fail
    refine CT.out.mono ?_
    rintro e w' ⟨rfl, rfl⟩
    go_wp2_with fail
    go_ret2
    exact ⟨by rw [HV.out, show decide (0 < B64) = true from rfl]; rfl, rfl⟩
  by_cases hA1 : A = 1
  · subst hA1
    have hX : X < B64 := e1.out (by rw [HL.out]; omega)
    have hd : decide (X < B64) = true := decide_eq_true hX
    have HV := Lib.hid (smallV_lt hX)
    have HD := Lib.hid hd
    have x1 := HI.out 0 (by omega)
    have x2 := HC.out 0 (by omega)
    have hg : us.getD 0 0 = X := by
      have := HL.out
      match us, this with
      | [u], _ => have := e3.out; simpa [val] using this
    rw [hg] at x2
    clear hX hd hg
    rw [show ((0 : Nat) : Int) = 0 from rfl] at x1
    simp only [Nat.add_zero] at x1 x2
    go_enter Tryz.func71, Tryz.ntmps71
    go_wp2_with fail
    refine CT.out.mono ?_
    rintro e w' ⟨rfl, rfl⟩
    go_wp2_with fail
    go_ret2
    exact ⟨by rw [HV.out, HD.out]; rfl, rfl⟩
  · obtain ⟨L, rfl⟩ : ∃ L, A = L + 2 := ⟨A - 2, by omega⟩
    clear hA0 hA1
    have hX : B64 ≤ X := e2.out (by rw [HL.out]; omega)
    have hd : decide (X < B64) = false := decide_eq_false (by omega)
    have HV := Lib.hid (smallV_ge hX)
    have HD := Lib.hid hd
    have hz1 : (((L + 2 : Nat) : Int) == 0) = false := by rw [beq_eq_false_iff_ne]; omega
    have hz2 : (((L + 2 : Nat) : Int) == 1) = false := by rw [beq_eq_false_iff_ne]; omega
    clear hX hd
    go_enter Tryz.func71, Tryz.ntmps71
    go_wp2_with fail
    refine CT.out.mono ?_
    rintro e w' ⟨rfl, rfl⟩
    go_wp2_with fail
    go_ret2
    exact ⟨by rw [HV.out, HD.out]; rfl, rfl⟩

end Go.Proofs.YtifoflicflodcaaGreatDoor
