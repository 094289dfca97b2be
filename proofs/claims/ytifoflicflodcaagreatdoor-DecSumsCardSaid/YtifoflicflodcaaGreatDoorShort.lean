/- nat.short: a quotient by one limb. -/
import Derived.Test.YtifoflicflodcaaGreatDoorDiv64
namespace Go.Proofs.YtifoflicflodcaaGreatDoor
open Go.RowKit

theorem divQ_lt {hi lo y : Nat} (hhi : hi < y) (hlo : lo < B64) : divQ hi lo y < B64 := by
  unfold divQ
  rw [Nat.div_lt_iff_lt_mul (by omega)]
  have : (hi + 1) * B64 ≤ y * B64 := Nat.mul_le_mul_right _ hhi
  rw [Nat.add_mul] at this
  rw [Nat.mul_comm B64 y]
  omega
theorem divR_lt {hi lo y : Nat} (hy : 0 < y) : divR hi lo y < y := Nat.mod_lt _ hy
theorem div_eq (hi lo y : Nat) : divQ hi lo y * y + divR hi lo y = hi * B64 + lo := by
  have := Nat.div_add_mod (hi * B64 + lo) y
  rw [Nat.mul_comm] at this
  exact this

theorem div64_calls (hi lo y : Nat) (hhi : hi < y) (hlo : lo < B64) (hy : y < B64) (w : World) :
    Calls Tryz.prog 105 #[.int .u64 (hi : Int), .int .u64 (lo : Int), .int .u64 (y : Int)] w (RetD (.tuple #[.int .u64 (divQ hi lo y : Nat), .int .u64 (divR hi lo y : Nat)]) w) := by
  by_cases h0 : hi = 0
  · subst h0
    have e1 : divQ 0 lo y = lo / y := by simp [divQ]
    have e2 : divR 0 lo y = lo % y := by simp [divR]
    rw [e1, e2]
    exact div64_zero lo y hlo hy (by omega) w
  · exact div64_pos hi lo y hhi hlo hy h0 w

/-- What the loop keeps: from place k on all is divided. -/
def ShortRel (w : World) (o : Option Addr) (A b : Nat) (us : List Nat) (rv iv : Value) (wr : World) : Prop :=
  ∃ (k r : Nat) (os : List Nat), k ≤ A ∧ iv = .int .i64 ((k : Int) - 1) ∧ rv = .int .u64 r ∧ r < b ∧ Own w.heap.size wr o A A os ∧ Ext w wr ∧ nv B64 (os.drop k) * b + r = nv B64 (us.drop k)

theorem nv_drop_succ (b : Nat) (xs : List Nat) (k : Nat) (hk : k < xs.length) : nv b (xs.drop k) = xs.getD k 0 + b * nv b (xs.drop (k + 1)) := by
  rw [List.drop_eq_getElem_cons hk, nv_cons, getD_of_lt hk]
theorem drop_set_self {α : Type} (xs : List α) (k : Nat) (x : α) (hk : k < xs.length) : (xs.set k x).drop k = x :: xs.drop (k + 1) := by
  rw [List.drop_eq_getElem_cons (by rw [List.length_set]; exact hk), List.getElem_set_self, drop_set_lo _ _ _ _ (by omega)]
theorem short_step {os us : List Nat} {j b r u q r' : Nat} (hj : j < os.length) (hj' : j < us.length) (hu : us.getD j 0 = u) (hd : q * b + r' = r * B64 + u)
    (h : nv B64 (os.drop (j + 1)) * b + r = nv B64 (us.drop (j + 1))) : nv B64 ((os.set j q).drop j) * b + r' = nv B64 (us.drop j) := by
  rw [drop_set_self _ _ _ hj, nv_drop_succ _ us _ hj', nv_cons, hu, ← h, Nat.add_mul, Nat.mul_add, Nat.mul_assoc, Nat.mul_comm B64 r]
  omega

/-- What nat.short tells: the quotient, and the rest. -/
def ShortRes (w : World) (n b v : Nat) (e : Ending) (w' : World) : Prop :=
  ∃ a c L, e = .returned (.tuple #[.slice a L c, .int .u64 ((v % b : Nat) : Int)]) ∧ Own w.heap.size w' a L c (lim (v / b)) ∧ Ext w w' ∧ L ≤ n

set_option maxHeartbeats 2000000 in
set_option maxRecDepth 100000 in
theorem short_calls {a : Option Addr} {A c : Nat} {us : List Nat} {w : World} (ha : Sl w a A c us) (hm : A ≤ 1000000000) (b : Nat) (hb0 : 0 < b) (hb : b < B64) :
    Calls Tryz.prog 69 #[.slice a A c, .int .u64 (b : Int)] w (ShortRes w A b (val us)) := by
  obtain ⟨i0, hi, hz0, hs, hby⟩ := info_parts info64
  have H1 := Lib.hid hi; have H2 := Lib.hid hz0; have H3 := Lib.hid hs; have H4 := Lib.hid hby
  have HLU := Lib.hid ha.len
  have HB := Lib.hid hb
  clear hi hz0 hs hby hb
  go_enter Tryz.func69, Tryz.ntmps69
  go_wp2_with (at_make; refine make_sl _ rfl _ _ _ rfl _ _ Tryz.underlying23 H1.out H2.out H3.out H4.out _ _ rfl rfl A (by omega) (by omega) (by omega) ?_)
  intro o w1 ho hext
  go_wp2_with fail
  go_loopw [7, 8] (fun rv iv wr => ShortRel w o A b us rv iv wr) (fun _ iv _ => (intOf iv + 1).toNat)
  case atStart => exact ⟨A, 0, _, Nat.le_refl _, rfl, rfl, hb0, ho, hext, by rw [List.drop_of_length_le (by simp), List.drop_of_length_le (by rw [HLU.out]; exact Nat.le_refl _)]; simp⟩
  case round =>
    obtain ⟨k, r, os, hk, rfl, rfl, hr, hown, hex, hval⟩ := hrel
    have HV := Lib.hid hval
    clear hval
    by_cases hk0 : k = 0
    · subst hk0
      have hv : val us = b * val os + r := by have := HV.out; simp only [List.drop_zero] at this; rw [Nat.mul_comm b]; exact this.symm
      obtain ⟨h1, h2⟩ := div_unique hv hr
      have HQ := Lib.hid h1
      have HR := Lib.hid h2
      clear h1 h2 hv
      have CT := Lib.hid (trimmed_calls hown.sl)
      go_wp2_with fail
      refine CT.out.mono ?_
      rintro e w' ⟨rfl, rfl⟩
      go_wp2_with fail
      go_ret2
      have hfin := hown.trimmed
      have hll := hown.sl.trimmed_len
      rw [HQ.out] at hfin hll
      refine ⟨o, _, _, ?_, hfin, hex, hll⟩
      rw [← HR.out, ← HQ.out]; rfl
    · obtain ⟨j, rfl⟩ : ∃ j, k = j + 1 := ⟨k - 1, by omega⟩
      rw [show ((j + 1 : Nat) : Int) - 1 = (j : Int) by omega]
      have hj0 : (0 : Int) ≤ (j : Int) := by omega
      obtain ⟨bo, oo, hixo, hco, hao⟩ := hown.sl.ix (P := Tryz.prog) Tryz.underlying23 H1.out H3.out
      obtain ⟨ba, oa, hixa, hca, -⟩ := (ha.old hex).ix (P := Tryz.prog) Tryz.underlying23 H1.out H3.out
      have x1 := hixa j (by omega)
      have x2 := hca j (by omega)
      have x3 := hixo j (by omega)
      have x4 := hco j (by omega)
      have x5 := hown.free (hao (by omega)) (oo + j)
      have HO := Lib.hid (hao (by omega))
      have q1 := ha.bd.getD B64_pos j
      clear hixa hca hixo hco hao hk0
      obtain ⟨u, hu⟩ : ∃ u, us.getD j 0 = u := ⟨_, rfl⟩
      rw [hu] at x2 q1
      have HU := Lib.hid hu
      clear hu
      generalize os.getD j 0 = z at *
      have CD := Lib.hid (fun w => div64_calls r u b hr q1 HB.out w)
      have hq := divQ_lt hr q1
      have hrr := @divR_lt r u b hb0
      have HE := Lib.hid (div_eq r u b)
      generalize divQ r u b = q at *
      generalize divR r u b = r' at *
      have HS := Lib.hid (fun n : Nat => (hown.old ((Ext.refl _).drewN n)).store HO.out j q (by omega) hq)
      go_wp2_with fail
      refine (CD.out _).mono ?_
      rintro e w' ⟨rfl, nd, rfl⟩
      go_wp2_with fail
      go_roundw
      case rel =>
        refine ⟨j, r', os.set j q, by omega, by go_num, rfl, hrr, (HS.out nd).1, ?_, ?_⟩
        · exact (hex.drewN nd).grown' (hown.old ((Ext.refl _).drewN nd)) (Nat.le_refl _) (HS.out nd).2
        · exact short_step (by rw [hown.sl.len]; omega) (by rw [HLU.out]; omega) HU.out HE.out HV.out
      case measure => simp [intOf]

end Go.Proofs.YtifoflicflodcaaGreatDoor
