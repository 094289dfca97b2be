/- nat.odd: a number's odd part, in place. -/
import Derived.Test.YtnfjfgfkeigkiaaGreatDoorTz

namespace Go.Proofs.YtnfjfgfkeigkiaaGreatDoor
open Go.RowKit

theorem sliceAt_from {P : Program} {T E : TypeId} {i : TypeInfo} (hT : P.underlying T = some (.slice E)) (hi : P.info? E = some i) (hs : i.size = 1) (a : Option Addr) (n c j : Nat) (hj : j < n) (_hc : n ≤ c) (w : World) :
    (Instr.sliceAt T (.slice a n c) (some (.int .i64 (j : Int))) none none).run P w = .ok (.slice (a.map (·.add j)) (n - j) (c - j)) w := by
  have hr := run_sizeOf hi w
  rw [hs] at hr
  have h2 : (0 : Int) ≤ (j : Int) ∧ (j : Int) ≤ (n : Int) := ⟨by omega, by omega⟩
  have h3 : j ≤ n := by omega
  have h4 : ¬ c = j := by omega
  simp [Instr.sliceAt, Instr.slice, run_underlying hT, Instr.sliceBounds, Instr.sliceBound, asIntOf, hr, h3, h4]

def OddRel (w : World) (A : Nat) (us : List Nat) (iv : Value) (wr : World) : Prop :=
  ∃ (k n : Nat), k < A ∧ n = 64 * k ∧ iv = .int .i64 (n : Int) ∧ nv B64 (us.take k) = 0 ∧ wr = w

/-- The odd part, in what was the number's place, and how often two divides it. -/
def OddRes (B : Nat) (w : World) (a : Option Addr) (X : Nat) (L : Nat) (e : Ending) (w' : World) : Prop :=
  ∃ (a' : Option Addr) (M n q : Nat), e = .returned (.tuple #[.slice a' n n, .int .i64 (q : Int)]) ∧ blk a' = blk a ∧ Own B w' a' n n (lim M) ∧ w.grownBy w' (blk a) ∧ M % 2 = 1 ∧ X = 2 ^ q * M ∧ n ≤ L ∧ q ≤ 64 * L

set_option maxHeartbeats 2000000 in
set_option maxRecDepth 100000 in
theorem odd_calls {B : Nat} {a : Option Addr} {A c : Nat} {us : List Nat} {w : World} (ha : Own B w a A c us) (hm : A ≤ 1000000000) (hpos : 0 < val us) (htz : TzTab w) :
    Calls Tryz.prog 94 #[.slice a A c] w (OddRes B w a (val us) A) := by
  obtain ⟨i0, hi, hz0, hs, hby⟩ := info_parts info64
  have H1 := Lib.hid hi; have H3 := Lib.hid hs; have HTZ := Lib.hid htz; have HP := Lib.hid hpos
  have q0 := ha.sl.big
  have q00 := ha.sl.cap
  have HLU := Lib.hid ha.sl.len
  have hA0 : 0 < A := by
    rcases Nat.eq_zero_or_pos A with h | h
    · have := List.eq_nil_of_length_eq_zero (ha.sl.len.trans h)
      rw [this] at hpos; simp [val] at hpos
    · exact h
  clear hi hz0 hs hby htz hpos
  go_enter Tryz.func94, Tryz.ntmps94
  go_wp2_with fail
  go_loopw [4] (fun iv wr => OddRel w A us iv wr) (fun iv _ => 64 * A - (intOf iv).toNat)
  case atStart => exact ⟨0, 0, hA0, rfl, rfl, by simp, rfl⟩
  case round =>
    obtain ⟨k, n, hk, hn, rfl, hz, rfl⟩ := hrel
    have f1 : (n : Int) / 64 = (k : Int) := by omega
    have f2 : (n : Int).tdiv 64 = (k : Int) := by rw [Int.tdiv_eq_ediv_of_nonneg (by omega)]; exact f1
    obtain ⟨ba, oa, hixa, hca, haa⟩ := ha.sl.ix (P := Tryz.prog) Tryz.underlying23 H1.out H3.out
    have x1 := hixa k hk
    have x2 := hca k hk
    have p1 := ha.sl.bd.getD B64_pos k
    have HNK := Lib.hid hn
    have HZ := Lib.hid hz
    obtain ⟨u, hu⟩ : ∃ u, us.getD k 0 = u := ⟨_, rfl⟩
    rw [hu] at x2 p1
    have HU := Lib.hid hu
    by_cases hu0 : u = 0
    · subst hu0
      have HM := Lib.hid (odd_more (by rw [HLU.out]; exact hk) HZ.out HU.out HP.out)
      have HK1 : k + 1 < A := by have := HM.out.2; rw [HLU.out] at this; exact this
      clear hixa hca haa hz hu
      go_wp2
      go_roundw
      case rel => exact ⟨k + 1, n + 64, HK1, by have := HNK.out; omega, by go_num, HM.out.1, rfl⟩
      case measure => simp [intOf]; have := HNK.out; omega
    · have g0 : ((u : Int) == 0) = false := by rw [beq_eq_false_iff_ne]; omega
      have x3 := ha.sub k (A - k) (c - k) (by omega) (by omega) (by omega)
      obtain ⟨f, hf⟩ : ∃ f, Lib.ctz 64 u = f := ⟨_, rfl⟩
      obtain ⟨m, hm0, hm1⟩ : ∃ m, u = 2 ^ f * (2 * m + 1) ∧ f < 64 := by
        have h := Lib.ctzFrom_spec 64 u (by omega) p1
        rw [← hf]; unfold Lib.ctz; rw [if_neg hu0]; exact h
      rw [List.take_of_length_le (by rw [List.length_drop, HLU.out]; omega)] at x3
      have HD := Lib.hid (odd_at (by rw [HLU.out]; exact hk) HZ.out HU.out hm0 hm1)
      have HF := Lib.hid hf
      have HX3 := Lib.hid x3
      have hsl := sliceAt_from (P := Tryz.prog) Tryz.underlying23 H1.out H3.out a A c k hk q00
      have c0 : (⟨ba, oa + k, none⟩ : Addr) = ⟨ba, oa + k, none⟩ := rfl
      obtain ⟨bb, ob, hixb, hcb, -⟩ := x3.sl.ix (P := Tryz.prog) Tryz.underlying23 H1.out H3.out
      have x5 := hixb 0 (by omega)
      have x6 := hcb 0 (by omega)
      rw [show (us.drop k).getD 0 0 = u by rw [List.getD_eq_getElem?_getD, List.getElem?_drop, Nat.add_zero, ← List.getD_eq_getElem?_getD]; exact HU.out] at x6
      rw [show ((0 : Nat) : Int) = 0 from rfl] at x5
      simp only [Nat.add_zero] at x5 x6
      have CZ := Lib.hid (tz_calls u p1 hu0 _ HTZ.out)
      have HN1 : IntKind.i64.wrap ((n : Int) + (f : Int)) = ((n + f : Nat) : Int) := by
        rw [IntWalk.i64_in _ (by omega)]; omega
      clear hixa hca haa hz hu hf x3 hixb hcb c0 hm0
      go_wp2_with fail
      refine CZ.out.mono ?_
      rintro e w' ⟨rfl, rfl⟩
      rw [HF.out]
      go_wp2_with fail
      refine (right_calls HX3.out (by omega) f hm1).mono ?_
      rintro e w1 ⟨rfl, hown1, hgr1⟩
      rw [map_add_blk] at hgr1
      obtain ⟨M, hMo, hMd, hMv⟩ := HD.out
      rw [hMd] at hown1
      have HE := Lib.hid hMv
      have hle := Nat.le_trans (digs_len_mono B64_two (odd_le hMv)) (by have := ha.sl.trimmed_len; exact this)
      go_wp2_with fail
      go_ret2
      refine ⟨a.map (·.add k), M, _, n + f, by rw [show ((n + f : Nat) : Int) = 64 * (k : Int) + (f : Int) by have := HNK.out; omega]; rfl, map_add_blk a k, hown1, hgr1, hMo, ?_, hle, ?_⟩
      · rw [HE.out, HNK.out]
      · have := HNK.out; omega
end Go.Proofs.YtnfjfgfkeigkiaaGreatDoor
