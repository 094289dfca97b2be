/- nat.Bits, nat.Pow10. -/
import Derived.Test.YtifoflicflodcaaGreatDoorDivMod
namespace Go.Proofs.YtifoflicflodcaaGreatDoor
open Go.RowKit

/-- The top limb, and the binary digits. -/
theorem bits_parts {X k : Nat} (hk : (lim X).length = k + 1) : bitLen X = 64 * k + bitLen ((lim X).getD k 0) ∧ (lim X).getD k 0 ≠ 0 := by
  have hX : X ≠ 0 := by rintro rfl; simp [lim_zero] at hk
  have ht := lim_top hX
  rw [hk, Nat.add_sub_cancel] at ht
  refine ⟨?_, ht⟩
  have hv := val_lim X
  have hs := nv_take_drop B64 (lim X) k (by omega)
  rw [nv_drop_succ B64 (lim X) k (by omega), List.drop_of_length_le (by omega), nv_nil, Nat.mul_zero, Nat.add_zero] at hs
  have hlt := nv_lt ((bd_lim X).take k)
  rw [List.length_take, Nat.min_eq_left (by omega)] at hlt
  have e : B64 ^ k = 2 ^ (64 * k) := by rw [Nat.pow_mul]; rfl
  have hv' : nv B64 (lim X) = X := hv
  generalize (lim X).getD k 0 = y at *
  rw [hv', e] at hs
  rw [e] at hlt
  have hp : 0 < 2 ^ (64 * k) := Nat.two_pow_pos _
  have hd : X / 2 ^ (64 * k) = y := by
    rw [hs, Nat.add_mul_div_left _ _ hp, Nat.div_eq_of_lt hlt, Nat.zero_add]
  have hge : 2 ^ (64 * k) ≤ X := by
    rw [hs]
    have : 2 ^ (64 * k) * 1 ≤ 2 ^ (64 * k) * y := Nat.mul_le_mul_left _ (by omega)
    omega
  have := bitLen_div X (64 * k) hge
  rw [hd] at this
  exact this

set_option maxHeartbeats 1000000 in
set_option maxRecDepth 100000 in
theorem bits_calls {a : Option Addr} {n c : Nat} {xs : List Nat} {w : World} (h : Sl w a n c xs) (hn : n ≤ 1000000000) :
    Calls Tryz.prog 54 #[.slice a n c] w (Ret (.int .i64 (bitLen (val xs) : Nat)) w) := by
  obtain ⟨i0, hi, hz0, hs, hby⟩ := info_parts info64
  have H1 := Lib.hid hi; have H3 := Lib.hid hs
  clear hi hz0 hs hby
  have ct := trimmed_calls h
  have ht := h.trimmed
  have hl := h.trimmed_len
  have e0 := Lib.hid (@lim_len_zero (val xs))
  have e1 := Lib.hid (fun k => @bits_parts (val xs) k)
  have hbd := bd_lim (val xs)
  generalize val xs = X at *
  generalize lim X = us at *
  obtain ⟨A, hA⟩ : ∃ A, us.length = A := ⟨_, rfl⟩
  rw [hA] at ct ht hl
  have CT := Lib.hid ct
  have HL := Lib.hid hA
  clear ct hA
  cases A with
  | zero =>
    have hX : X = 0 := e0.out HL.out
    subst hX
    go_enter Tryz.func54, Tryz.ntmps54
    go_wp2_with fail
    refine CT.out.mono ?_
    rintro e w' ⟨rfl, rfl⟩
    go_wp2_with fail
    go_ret
    exact ⟨rfl, rfl⟩
  | succ k =>
    obtain ⟨hv, hy⟩ := e1.out k HL.out
    have hyB : us.getD k 0 < B64 := hbd.getD B64_pos k
    obtain ⟨bb, ob, hixb, hcb, -⟩ := ht.ix (P := Tryz.prog) Tryz.underlying23 H1.out H3.out
    have x1 := hixb k (by omega)
    have x2 := hcb k (by omega)
    generalize us.getD k 0 = y at *
    clear hixb hcb
    have CY := Lib.hid (fun w => Tryz.bits_Len64 (y : Int) w (by omega) (by rw [B64_eq] at hyB; omega))
    have hb : bitLen y ≤ 64 := bitLen_le hyB
    have HV := Lib.hid hv
    have hlb : Lib.bitLen ((y : Int).toNat) = bitLen y := by rw [Int.toNat_natCast]; exact libBitLen hyB
    have HLB := Lib.hid hlb
    have g1 : (((k + 1 : Nat) : Int) == 0) = false := by rw [beq_eq_false_iff_ne]; omega
    have G5 := Lib.hid (show wrap64 (64 * (k : Int) + ((bitLen y : Nat) : Int)) = ((bitLen X : Nat) : Int) by
      rw [← IntWalk.i64_left, HV.out, show (64 * (k : Int) + ((bitLen y : Nat) : Int)) = ((64 * k + bitLen y : Nat) : Int) by omega]; exact IntWalk.i64_in _ (by omega))
    clear hbd hy hyB hb hv hlb
    generalize bitLen X = BX at *
    generalize bitLen y = BY at *
    go_enter Tryz.func54, Tryz.ntmps54
    go_wp2_with fail
    refine CT.out.mono ?_
    rintro e w' ⟨rfl, rfl⟩
    go_wp2_with fail
    refine (CY.out _).mono ?_
    rintro e w' ⟨rfl, rfl⟩
    rw [HLB.out]
    go_wp2_with fail
    go_ret
    refine ⟨?_, rfl⟩
    show Ending.returned (.int .i64 (wrap64 (64 * (k : Int) + (BY : Int)))) = _
    rw [G5.out]

/-- What a literal of one limb lays. -/
theorem own_lit (B : Nat) (w : World) (x : Nat) (hx : x < B64) (hB : B ≤ w.heap.size) :
    Own B (w.alloc (.cells #[.int .u64 (x : Int)] 26 (0, 0))) (some ⟨w.heap.size, 0, none⟩) 1 1 [x] := by
  have hc : (w.alloc (.cells #[.int .u64 (x : Int)] 26 (0, 0))).heap[w.heap.size]? = some (.cells #[.int .u64 (x : Int)] 26 (0, 0)) := heap_alloc_new w _
  refine ⟨⟨rfl, Nat.le_refl _, by decide, Bd.cons hx (Bd.nil _), .inr ⟨_, _, rfl, ?_⟩⟩, .inr ⟨_, _, _, _, rfl, hB, hc⟩⟩
  intro i hi
  obtain rfl : i = 0 := by omega
  rw [cell_of_row _ _ _ _ _ _ hc]; rfl

end Go.Proofs.YtifoflicflodcaaGreatDoor
