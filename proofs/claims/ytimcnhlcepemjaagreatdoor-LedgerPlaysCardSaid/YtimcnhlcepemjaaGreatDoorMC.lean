
/- Common divisors; reduced fractions as numbers. -/
import Derived.Test.YtimcnhlcepemjaaGreatDoorMB
import Derived.Shelf.Spec.TrailingZeros
import Derived.Lib.AppendIntMem
import Derived.Deep.AppendLies

/- Greatest common divisors: plain numbers. -/
namespace Go.Proofs.YtimcnhlcepemjaaGreatDoor

theorem gcd_two_odd {N : Nat} (h : N % 2 = 1) : Nat.gcd 2 N = 1 := by
  rw [Nat.gcd_rec, h]; rfl
theorem gcd_pow_odd {N : Nat} (h : N % 2 = 1) (e M : Nat) : Nat.gcd (2 ^ e * M) N = Nat.gcd M N := by
  have hc : Nat.Coprime (2 ^ e) N := Nat.Coprime.pow_left e (gcd_two_odd h)
  exact Nat.Coprime.gcd_mul_left_cancel M hc
theorem gcd_odd_parts {e f M N : Nat} (hM : M % 2 = 1) (hN : N % 2 = 1) : Nat.gcd (2 ^ e * M) (2 ^ f * N) = 2 ^ min e f * Nat.gcd M N := by
  rcases Nat.le_total e f with h | h
  · obtain ⟨d, rfl⟩ : ∃ d, f = e + d := ⟨f - e, by omega⟩
    rw [Nat.min_eq_left h, Nat.pow_add, Nat.mul_assoc, Nat.gcd_mul_left, Nat.gcd_comm M, gcd_pow_odd hM, Nat.gcd_comm]
  · obtain ⟨d, rfl⟩ : ∃ d, e = f + d := ⟨e - f, by omega⟩
    rw [Nat.min_eq_right h, Nat.pow_add, Nat.mul_assoc, Nat.gcd_mul_left, gcd_pow_odd hN]
theorem gcd_less {M N : Nat} (h : N ≤ M) : Nat.gcd (M - N) N = Nat.gcd M N := by
  have e : M = (M - N) + N := by omega
  rw [e, Nat.gcd_add_self_left, Nat.add_sub_cancel]
theorem gcd_round {M N K e : Nat} (hN : N % 2 = 1) (hlt : N < M) (hK : M - N = 2 ^ e * K) : Nat.gcd K N = Nat.gcd M N := by
  rw [← gcd_less (by omega : N ≤ M), hK, gcd_pow_odd hN]
theorem odd_le {X e M : Nat} (h : X = 2 ^ e * M) : M ≤ X := by
  rw [h]; exact Nat.le_mul_of_pos_left _ (Nat.two_pow_pos e)

theorem B64_pow (k : Nat) : B64 ^ k = 2 ^ (64 * k) := by
  rw [Nat.pow_mul]; rfl
theorem odd_at {us : List Nat} {k u few m : Nat} (hk : k < us.length) (hz : nv B64 (us.take k) = 0) (hu : us.getD k 0 = u) (hm : u = 2 ^ few * (2 * m + 1)) (hf : few < 64) :
    ∃ M, M % 2 = 1 ∧ val (us.drop k) / 2 ^ few = M ∧ val us = 2 ^ (64 * k + few) * M := by
  have e1 := nv_drop_getD B64 us k
  have e2 := nv_take_drop B64 us k (by omega)
  have e3 : B64 = 2 ^ few * (2 * 2 ^ (63 - few)) := by
    rw [← Nat.pow_succ', ← Nat.pow_add, show few + (63 - few + 1) = 64 by omega]; rfl
  obtain ⟨r, hr⟩ : ∃ r, nv B64 (us.drop (k + 1)) = r := ⟨_, rfl⟩
  have e4 : nv B64 (us.drop k) = 2 ^ few * (2 * m + 1 + 2 * (2 ^ (63 - few) * r)) := by
    rw [e1, hr, hu, hm, Nat.mul_add (2 ^ few) (2 * m + 1)]
    congr 1
    conv => lhs; rw [e3]
    rw [Nat.mul_assoc, Nat.mul_assoc]
  refine ⟨2 * m + 1 + 2 * (2 ^ (63 - few) * r), by omega, ?_, ?_⟩
  · unfold val
    rw [e4, Nat.mul_div_cancel_left _ (Nat.two_pow_pos few)]
  · unfold val
    rw [e2, hz, Nat.zero_add, e4, B64_pow, Nat.pow_add, Nat.mul_assoc]
theorem odd_more {us : List Nat} {k : Nat} (_hk : k < us.length) (hz : nv B64 (us.take k) = 0) (hu : us.getD k 0 = 0) (hp : 0 < val us) : nv B64 (us.take (k + 1)) = 0 ∧ k + 1 < us.length := by
  have e := nv_take_succ' B64 us k
  rw [hu, hz, Nat.mul_zero, Nat.add_zero] at e
  refine ⟨e, ?_⟩
  rcases Nat.lt_or_ge (k + 1) us.length with h | h
  · exact h
  · rw [nv_take_of_le B64 us _ h] at e
    unfold val at hp
    omega
theorem val_zeros (z : Nat) (ls : List Nat) : val (List.replicate z 0 ++ ls) = B64 ^ z * val ls := by
  unfold val
  rw [nv_append, List.length_replicate]
  rw [nv_replicate, Nat.zero_add]
theorem gcd_fin {n X : Nat} {ls : List Nat} (h : val ls = X * 2 ^ (n % 64)) : val (List.replicate (n / 64) 0 ++ ls) = 2 ^ n * X := by
  rw [val_zeros, h, B64_pow, Nat.mul_comm X, ← Nat.mul_assoc, ← Nat.pow_add, Nat.div_add_mod]
end Go.Proofs.YtimcnhlcepemjaaGreatDoor

/- math/bits.TrailingZeros64. -/
namespace Go.Proofs.YtimcnhlcepemjaaGreatDoor
open Go.RowKit

/-- The library's table lies as its text lays it. -/
def TzTab (w : World) : Prop := Lib.TabIs Tryz.prog w "math/bits.deBruijn64tab" .u8 (Lib.deBruijn64tab.map fun x : Nat => (x : Int))
theorem gTz : Tryz.prog.globalNamed "math/bits.deBruijn64tab" = some 0 := by kernel_rfl
theorem TzTab.old {w w' : World} (h : TzTab w) (E : Ext w w') : TzTab w' := Lib.tabBelow_of_tabIs h w' E
theorem TzTab.cell {w : World} (h : TzTab w) (j : Nat) (hj : j < 64) : w.cell? ⟨0, j, none⟩ = some (.int .u8 ((Lib.deBruijn64tab.getD j 0 : Nat) : Int)) := by
  unfold TzTab Lib.TabIs World.var? at h
  rw [gTz] at h
  simp only [Option.bind_some] at h
  have hl : Lib.deBruijn64tab.length = 64 := by decide
  cases ho : w.heap[0]? with
  | none => simp [ho] at h
  | some o =>
    cases o with
    | cells cur e fr =>
      simp [ho] at h
      rw [cell_of_row _ _ _ _ _ _ (by rw [ho])]
      subst h
      simp [List.getElem?_toArray, List.getElem?_map, List.getD_eq_getElem?_getD, List.getElem?_eq_getElem (show j < Lib.deBruijn64tab.length by omega)]
    | _ => simp [ho] at h

set_option maxHeartbeats 1000000 in
set_option maxRecDepth 100000 in
theorem tz_core (x k idx : Nat) (w : World) (hx0 : ((x : Int) == 0) = false)
    (key : IntKind.u64.wrap (bits BinOp.and IntKind.u64 (x : Int) (IntKind.u64.wrap (-(x : Int))) * 285870213051353865) / 288230376151711744 = (idx : Int))
    (hi : idx < 64) (hk : k < 64) (hcell : w.cell? ⟨0, idx, none⟩ = some (.int .u8 k)) :
    Calls Tryz.prog 138 #[.int .u64 x] w (Ret (.int .i64 k) w) := by
  go_enter Tryz.func138, Tryz.ntmps138
  go_wp2_with (simp only [key])
  go_ret
  exact ⟨rfl, rfl⟩

theorem tz_calls (x : Nat) (hx : x < B64) (hx0 : x ≠ 0) (w : World) (hT : TzTab w) : Calls Tryz.prog 138 #[.int .u64 (x : Int)] w (Ret (.int .i64 (Lib.ctz 64 x : Nat)) w) := by
  obtain ⟨hlow, hk⟩ := Lib.lowest_bit 64 x hx0 hx
  obtain ⟨hi, htab⟩ := Lib.deBruijn64_at _ hk
  have hcell := hT.cell _ hi
  rw [htab] at hcell
  exact tz_core x _ _ w (by simp; omega) (tz64_key x _ hx hx0 hlow) hi hk hcell
end Go.Proofs.YtimcnhlcepemjaaGreatDoor

/- nat.odd: a number's odd part, in place. -/

namespace Go.Proofs.YtimcnhlcepemjaaGreatDoor
open Go.RowKit

theorem sliceAt_from {P : Program} {T E : TypeId} {i : TypeInfo} (hT : P.underlying T = some (.slice E)) (hi : P.info? E = some i) (hs : i.size = 1) (a : Option Addr) (n c j : Nat) (hj : j < n) (_hc : n ≤ c) (w : World) :
    (Instr.sliceAt T (.slice a n c) (some (.int .i64 (j : Int))) none none).run P w = .ok (.slice (a.map (·.add j)) (n - j) (c - j)) w := by
  have hr := run_sizeOf hi w
  rw [hs] at hr
  have h2 : (0 : Int) ≤ (j : Int) ∧ (j : Int) ≤ (n : Int) := ⟨by omega, by omega⟩
  have h3 : j ≤ n := by omega
  have h4 : ¬ c = j := by omega
  simp [Instr.sliceAt, Instr.slice, run_underlying hT, Instr.sliceBounds, Instr.sliceBound, asIntOf, hr, h3, h4]

def OddRel (w : World) (A : Nat) (us : List Nat) (iv : Value) (wr : World) : Prop :=
  ∃ (k n : Nat), k < A ∧ n = 64 * k ∧ iv = .int .i64 (n : Int) ∧ nv B64 (us.take k) = 0 ∧ wr = w

/-- The odd part, in what was the number's place, and how often two divides it. -/
def OddRes (B : Nat) (w : World) (a : Option Addr) (X : Nat) (L : Nat) (e : Ending) (w' : World) : Prop :=
  ∃ (a' : Option Addr) (M n q : Nat), e = .returned (.tuple #[.slice a' n n, .int .i64 (q : Int)]) ∧ blk a' = blk a ∧ Own B w' a' n n (lim M) ∧ w.grownBy w' (blk a) ∧ M % 2 = 1 ∧ X = 2 ^ q * M ∧ n ≤ L ∧ q ≤ 64 * L

set_option maxHeartbeats 2000000 in
set_option maxRecDepth 100000 in
theorem odd_calls {B : Nat} {a : Option Addr} {A c : Nat} {us : List Nat} {w : World} (ha : Own B w a A c us) (hm : A ≤ 1000000000) (hpos : 0 < val us) (htz : TzTab w) :
    Calls Tryz.prog 108 #[.slice a A c] w (OddRes B w a (val us) A) := by
  obtain ⟨i0, hi, hz0, hs, hby⟩ := info_parts info64
  have H1 := Lib.hid hi; have H3 := Lib.hid hs; have HTZ := Lib.hid htz; have HP := Lib.hid hpos
  have q0 := ha.sl.big
  have q00 := ha.sl.cap
  have HLU := Lib.hid ha.sl.len
  have hA0 : 0 < A := by
    rcases Nat.eq_zero_or_pos A with h | h
    · have := List.eq_nil_of_length_eq_zero (ha.sl.len.trans h)
      rw [this] at hpos; simp [val] at hpos
    · exact h
  clear hi hz0 hs hby htz hpos
  go_enter Tryz.func108, Tryz.ntmps108
  go_wp2_with fail
  go_loopw [4] (fun iv wr => OddRel w A us iv wr) (fun iv _ => 64 * A - (intOf iv).toNat)
  case atStart => exact ⟨0, 0, hA0, rfl, rfl, by simp, rfl⟩
  case round =>
    obtain ⟨k, n, hk, hn, rfl, hz, rfl⟩ := hrel
    have f1 : (n : Int) / 64 = (k : Int) := by omega
    have f2 : (n : Int).tdiv 64 = (k : Int) := by rw [Int.tdiv_eq_ediv_of_nonneg (by omega)]; exact f1
    obtain ⟨ba, oa, hixa, hca, haa⟩ := ha.sl.ix (P := Tryz.prog) Tryz.underlying33 H1.out H3.out
    have x1 := hixa k hk
    have x2 := hca k hk
    have p1 := ha.sl.bd.getD B64_pos k
    have HNK := Lib.hid hn
    have HZ := Lib.hid hz
    obtain ⟨u, hu⟩ : ∃ u, us.getD k 0 = u := ⟨_, rfl⟩
    rw [hu] at x2 p1
    have HU := Lib.hid hu
    by_cases hu0 : u = 0
    · subst hu0
      have HM := Lib.hid (odd_more (by rw [HLU.out]; exact hk) HZ.out HU.out HP.out)
      have HK1 : k + 1 < A := by have := HM.out.2; rw [HLU.out] at this; exact this
      clear hixa hca haa hz hu
      go_wp2
      go_roundw
      case rel => exact ⟨k + 1, n + 64, HK1, by have := HNK.out; omega, by go_num, HM.out.1, rfl⟩
      case measure => simp [intOf]; have := HNK.out; omega
    · have g0 : ((u : Int) == 0) = false := by rw [beq_eq_false_iff_ne]; omega
      have x3 := ha.sub k (A - k) (c - k) (by omega) (by omega) (by omega)
      obtain ⟨f, hf⟩ : ∃ f, Lib.ctz 64 u = f := ⟨_, rfl⟩
      obtain ⟨m, hm0, hm1⟩ : ∃ m, u = 2 ^ f * (2 * m + 1) ∧ f < 64 := by
        have h := Lib.ctzFrom_spec 64 u (by omega) p1
        rw [← hf]; unfold Lib.ctz; rw [if_neg hu0]; exact h
      rw [List.take_of_length_le (by rw [List.length_drop, HLU.out]; omega)] at x3
      have HD := Lib.hid (odd_at (by rw [HLU.out]; exact hk) HZ.out HU.out hm0 hm1)
      have HF := Lib.hid hf
      have HX3 := Lib.hid x3
      have hsl := sliceAt_from (P := Tryz.prog) Tryz.underlying33 H1.out H3.out a A c k hk q00
      have c0 : (⟨ba, oa + k, none⟩ : Addr) = ⟨ba, oa + k, none⟩ := rfl
      obtain ⟨bb, ob, hixb, hcb, -⟩ := x3.sl.ix (P := Tryz.prog) Tryz.underlying33 H1.out H3.out
      have x5 := hixb 0 (by omega)
      have x6 := hcb 0 (by omega)
      rw [show (us.drop k).getD 0 0 = u by rw [List.getD_eq_getElem?_getD, List.getElem?_drop, Nat.add_zero, ← List.getD_eq_getElem?_getD]; exact HU.out] at x6
      rw [show ((0 : Nat) : Int) = 0 from rfl] at x5
      simp only [Nat.add_zero] at x5 x6
      have CZ := Lib.hid (tz_calls u p1 hu0 _ HTZ.out)
      have HN1 : IntKind.i64.wrap ((n : Int) + (f : Int)) = ((n + f : Nat) : Int) := by
        rw [IntWalk.i64_in _ (by omega)]; omega
      clear hixa hca haa hz hu hf x3 hixb hcb c0 hm0
      go_wp2_with fail
      refine CZ.out.mono ?_
      rintro e w' ⟨rfl, rfl⟩
      rw [HF.out]
      go_wp2_with fail
      refine (right_calls HX3.out (by omega) f hm1).mono ?_
      rintro e w1 ⟨rfl, hown1, hgr1⟩
      rw [map_add_blk] at hgr1
      obtain ⟨M, hMo, hMd, hMv⟩ := HD.out
      rw [hMd] at hown1
      have HE := Lib.hid hMv
      have hle := Nat.le_trans (digs_len_mono B64_two (odd_le hMv)) (by have := ha.sl.trimmed_len; exact this)
      go_wp2_with fail
      go_ret2
      refine ⟨a.map (·.add k), M, _, n + f, by rw [show ((n + f : Nat) : Int) = 64 * (k : Int) + (f : Int) by have := HNK.out; omega]; rfl, map_add_blk a k, hown1, hgr1, hMo, ?_, hle, ?_⟩
      · rw [HE.out, HNK.out]
      · have := HNK.out; omega
end Go.Proofs.YtimcnhlcepemjaaGreatDoor

/- nat.Gcd. -/
namespace Go.Proofs.YtimcnhlcepemjaaGreatDoor
open Go.RowKit

def row64 (xs : List Nat) : List Value := xs.map fun x : Nat => Value.int .u64 (x : Int)

/-- 'make([]uint64, k, n)': the row. -/
theorem run_make_room64 {P : Program} (W : World) (t e : TypeId) (i : TypeInfo) (h1 : P.underlying t = some (.slice e)) (h2 : P.info? e = some i) (h3 : i.zero = some (.int .u64 0)) (h4 : i.size = 1) (h5 : i.bytes = 8) (k n : Nat) (hkn : k ≤ n) (hn : n ≤ 1099511627776) :
    (Instr.makeSlice t (.int .i64 (k : Int)) (.int .i64 (n : Int))).run P W = .ok (.slice (some ⟨W.heap.size, 0, none⟩) k n) (W.alloc (.cells (madeCells #[.int .u64 0] n) e)) := by
  have hr := run_make (P := P) W t e i (.int .u64 0) h1 h2 h3 .i64 .i64 (k : Int) (n : Int) (by omega) (by omega) (by rw [h5]; omega) (by omega)
  simp only [Int.toNat_natCast, h4, Nat.mul_one] at hr
  exact hr
theorem make_row (W : World) (e : TypeId) (k n : Nat) (hkn : k ≤ n) (hn : n ≤ 1099511627776) :
    (W.alloc (.cells (madeCells #[.int .u64 0] n) e)).ownsRow W.heap.size e 1 (.slice (some ⟨W.heap.size, 0, none⟩) k n) k (row64 (List.replicate k 0)) := by
  refine ⟨by simp [row64], .inr ⟨W.heap.size, n, _, rfl, Nat.le_refl _, heap_alloc_new _ _, hkn, by unfold maxLen; omega, ?_, ?_⟩⟩
  · rw [Nat.mul_one]; exact size_madeCells _ _
  · rw [toList_madeCells_one, List.take_replicate, Nat.min_eq_left (by omega)]
    simp [row64]
theorem sl_news {w : World} {ad : Addr} {n c : Nat} {xs : List Nat} (hsl : Sl w (some ad) n c xs) : ∀ (j : Nat) u, (row64 xs)[j]? = some u → w.cell? (ad.add j) = some u := by
  intro j u hu
  unfold row64 at hu
  rw [List.getElem?_map] at hu
  have hj : j < xs.length := by
    rcases Nat.lt_or_ge j xs.length with h | h
    · exact h
    · rw [List.getElem?_eq_none h] at hu; cases hu
  rw [List.getElem?_eq_getElem hj] at hu
  simp only [Option.map_some, Option.some.injEq] at hu
  subst hu
  rcases hsl.at_ with ⟨h0, _⟩ | ⟨b, off, h, hc⟩
  · have := hsl.len; omega
  · cases h
    have hadd : (⟨b, off, none⟩ : Addr).add j = ⟨b, off + j, none⟩ := by unfold Addr.add; split <;> simp_all
    rw [hadd, hc j (by rw [← hsl.len]; exact hj), getD_of_lt hj]
theorem row_own {B : Nat} {w : World} {e : TypeId} {a : Option Addr} {n c : Nat} {zs xs : List Nat} (h : w.ownsRow B e 1 (.slice a n c) n (row64 zs ++ row64 xs)) (hz : Bd B64 zs) (hx : Bd B64 xs) : Own B w a n c (zs ++ xs) := by
  obtain ⟨a', c', hv, ho⟩ := Own.of_row (xs := zs ++ xs) (by simpa [row64] using h) (hz.append hx)
  injection hv with e1 e2 e3
  subst e1 e3
  exact ho

theorem Ext.grown'' {a b c : World} {g n k : Nat} (h : Ext a b) (hg : b.grownBy c (Value.slice (some ⟨g, 0, none⟩) n k).ownBlock) (hge : a.heap.size ≤ g) : Ext a c :=
  Below.grown h hg h.size (fun j hj => by
    simp only [Value.ownBlock, Option.some.injEq] at hj
    omega)

/-- What the loop keeps. -/
def GcdRel (w : World) (L G k : Nat) (xv yv cv : Value) (wr : World) : Prop :=
  ∃ (x y : Option Addr) (n m cx cy X Y : Nat), cv = .int .i64 (cmpN X Y) ∧ xv = .slice x n cx ∧ yv = .slice y m cy ∧ Own w.heap.size wr x n cx (lim X) ∧ Own w.heap.size wr y m cy (lim Y) ∧ blk x ≠ blk y ∧ X % 2 = 1 ∧ Y % 2 = 1 ∧ Nat.gcd X Y = G ∧ X + Y = k ∧ Ext w wr ∧ n ≤ L ∧ m ≤ L

set_option maxHeartbeats 16000000 in
set_option maxRecDepth 100000 in
theorem gcd_calls {a b : Option Addr} {m n c d : Nat} {vs zs : List Nat} {w : World} (ha : Sl w a m c vs) (hb : Sl w b n d zs) (hm : m ≤ 10000000) (hn : n ≤ 10000000) (htz : TzTab w) :
    Calls Tryz.prog 82 #[.slice a m c, .slice b n d] w (New w (m + n) (lim (Nat.gcd (val vs) (val zs)))) := by
  obtain ⟨i0, hi, hz0, hs, hby⟩ := info_parts info64
  have H1 := Lib.hid hi; have H2 := Lib.hid hz0; have H3 := Lib.hid hs; have H4 := Lib.hid hby; have HTZ := Lib.hid htz
  obtain ⟨X, hXv⟩ : ∃ X, val vs = X := ⟨_, rfl⟩
  obtain ⟨Y, hYv⟩ : ∃ Y, val zs = Y := ⟨_, rfl⟩
  have CN := norm_calls ha (by omega)
  rw [hXv] at CN
  rw [hXv, hYv]
  have HCN := Lib.hid CN
  have HYV := Lib.hid hYv; have HB := Lib.hid hb
  have hlx := ha.trimmed_len
  have hly := hb.trimmed_len
  rw [hXv] at hlx
  rw [hYv] at hly
  have HLX := Lib.hid hlx; have HLY := Lib.hid hly
  obtain ⟨G, hG⟩ : ∃ G, Nat.gcd X Y = G := ⟨_, rfl⟩
  have HGL := Lib.hid (show (lim (Nat.gcd X Y)).length ≤ m + n by
    rcases Nat.eq_zero_or_pos X with h | h
    · rw [h, Nat.gcd_zero_left]; have := HLY.out; omega
    · have := digs_len_mono B64_two (Nat.gcd_le_left Y h); have := HLX.out; unfold lim at *; omega)
  rw [hG] at HGL ⊢
  have HG := Lib.hid hG
  clear hi hz0 hs hby htz CN hXv hYv ha hb hlx hly hG
  go_enter Tryz.func82, Tryz.ntmps82
  go_wp2_with fail
  refine HCN.out.mono ?_
  rintro e w1 ⟨x, n1, c1, rfl, hx, hext1, hl1⟩
  have CM := norm_calls (HB.out.old hext1) (by omega)
  rw [HYV.out] at CM
  have HCM := Lib.hid CM
  clear CM
  go_wp2_with fail
  refine HCM.out.mono ?_
  rintro e w2 ⟨y, n2, c2, rfl, hy, hext2, hl2⟩
  have hx2 := hx.old hext2
  have CC := cmp_calls hx2.sl hy.sl (by omega) (by omega)
  rw [val_lim, val_lim] at CC
  have HNE := Lib.hid (show n1 = 0 ∨ n2 = 0 ∨ blk x ≠ blk y by
    rcases Nat.eq_zero_or_pos n1 with h | h
    · exact .inl h
    · rcases Nat.eq_zero_or_pos n2 with h2 | h2
      · exact .inr (.inl h2)
      · exact .inr (.inr (Ne.symm (hx.ne h hy h2 (Nat.le_refl _)))))
  have hxl := hx.sl.len
  have hyl := hy.sl.len
  have HCC := Lib.hid CC
  have HX := Lib.hid hx2; have HY := Lib.hid (hy.mono hext1.size)
  have HE := Lib.hid (hext1.trans hext2)
  obtain ⟨q, hq⟩ : ∃ q, cmpN X Y = q := ⟨_, rfl⟩
  have HQ := Lib.hid hq
  have HXL := Lib.hid hxl; have HYL := Lib.hid hyl
  clear CC hx hy hx2 hext1 hext2 hq hxl hyl HCN HCM HB
  obtain ⟨P, R, pa, np, cp, ra, nr, cr, hsel⟩ : ∃ (P R : Nat) (pa : Option Addr) (np cp : Nat) (ra : Option Addr) (nr cr : Nat), (X < Y ∧ P = Y ∧ R = X ∧ pa = y ∧ np = n2 ∧ cp = c2 ∧ ra = x ∧ nr = n1 ∧ cr = c1) ∨ (Y ≤ X ∧ P = X ∧ R = Y ∧ pa = x ∧ np = n1 ∧ cp = c1 ∧ ra = y ∧ nr = n2 ∧ cr = c2) := by
    rcases Nat.lt_or_ge X Y with h | h
    · exact ⟨Y, X, y, n2, c2, x, n1, c1, .inl ⟨h, rfl, rfl, rfl, rfl, rfl, rfl, rfl, rfl⟩⟩
    · exact ⟨X, Y, x, n1, c1, y, n2, c2, .inr ⟨h, rfl, rfl, rfl, rfl, rfl, rfl, rfl, rfl⟩⟩
  go_wp2_with fail
  refine HCC.out.mono ?_
  rintro e w' ⟨rfl, k0, rfl⟩
  rw [HQ.out]
  have E3 := Lib.hid (HE.out.drewN k0)
  have EX3 := Lib.hid (HX.out.old ((Ext.refl _).drewN k0))
  have EY3 := Lib.hid (HY.out.old ((Ext.refl _).drewN k0))
  obtain ⟨w3, hw3⟩ : ∃ w3, w2.drewN k0 = w3 := ⟨_, rfl⟩
  rw [hw3] at E3 EX3 EY3 ⊢
  clear hw3 HX HY HE HCC
  rcases hsel with ⟨hlt, h1, h2, h3, h4, h5, h6, h7, h8⟩ | ⟨hlt, h1, h2, h3, h4, h5, h6, h7, h8⟩
  · obtain ⟨z1, z2⟩ : decide (q < (0 : Int)) = true ∧ q < 0 := by rw [← HQ.out, cmpN_lt hlt]; exact ⟨rfl, by decide⟩
    subst h1 h2 h3 h4 h5 h6 h7 h8
    have HP := EY3; have HR := EX3
    have HPL := HYL; have HRL := HXL
    have HPR : Hid (np = 0 ∨ nr = 0 ∨ blk pa ≠ blk ra) := by rcases HNE.out with h | h | h <;> first | exact .inl h | exact .inr (.inl h) | exact .inr (.inr (Ne.symm h))
    have HGG : Hid (Nat.gcd P R = G) := by rw [Nat.gcd_comm]; exact HG.out
    have hle : R ≤ P := Nat.le_of_lt hlt
    by_cases hr0 : nr = 0
    · subst hr0
      have hR0 := lim_len_zero HRL.out
      have hGP : P = G := by rw [← HGG.out, hR0, Nat.gcd_zero_right]
      have HGP := Lib.hid hGP
      clear hR0 hGP hle
      go_wp2_with fail
      go_ret
      exact ⟨pa, np, cp, rfl, by rw [← HGP.out]; exact HP.out, E3.out, by omega⟩
    have g1 : ((nr : Int) == 0) = false := by rw [beq_eq_false_iff_ne]; omega
    have hR0 : 0 < R := by
      rcases Nat.eq_zero_or_pos R with h | h
      · exfalso; apply hr0; rw [← HRL.out, h]; rfl
      · exact h
    have hP0 : 0 < P := by omega
    have HNPR := Lib.hid (show blk pa ≠ blk ra by
      have : np ≠ 0 := fun h => by rw [← HPL.out] at h; have := lim_len_zero h; omega
      rcases HPR.out with h | h | h <;> first | exact absurd h this | exact absurd h hr0 | exact h)
    by_cases hlong : nr < np
    · have g3 : (nr : Int) < (np : Int) := by omega
      have CD := divmod_pos HP.out.sl HR.out.sl (by omega) (by omega) (by rw [val_lim]; omega)
      rw [val_lim, val_lim] at CD
      have HCD := Lib.hid CD
      have HR0 := Lib.hid hR0
      clear CD hR0 hP0 hle
      go_wp2_with fail
      refine HCD.out.mono ?_
      rintro e w4 ⟨a1, d1, L1, a2, d2, L2, rfl, hown1, hown2, hext4, hl4, hl5, hap4⟩
      have hR4 := HR.out.old hext4
      by_cases hz : P % R = 0
      · have hL2 : L2 = 0 := by rw [← hown2.sl.len, hz]; rfl
        subst hL2
        have HGR : Hid (R = G) := Lib.hid (by rw [← HGG.out, Nat.gcd_comm, Nat.gcd_rec, hz, Nat.gcd_zero_left])
        clear hz
        go_wp2_with fail
        go_ret
        exact ⟨ra, nr, cr, rfl, by rw [← HGR.out]; exact hR4, E3.out.trans hext4, by omega⟩
      · have hL2 : L2 ≠ 0 := fun h => hz (lim_len_zero (by rw [hown2.sl.len]; exact h))
        have g4 : ((L2 : Int) == 0) = false := by rw [beq_eq_false_iff_ne]; omega
        have hA := hR4
        have hB := hown2.mono E3.out.size
        have hab : blk ra ≠ blk a2 := Ne.symm (HR.out.ne (by omega) hown2 (by omega) (Nat.le_refl _))
        have hgu : Nat.gcd R (P % R) = G := by
          have hr := Nat.gcd_rec R P
          rw [Nat.gcd_comm R P] at hr
          rw [Nat.gcd_comm R (P % R), ← hr]; exact HGG.out
        have hU0 := HR0.out
        have hV0 : 0 < P % R := Nat.pos_of_ne_zero hz
        have EC := E3.out.trans hext4
        have HMR := Lib.hid hz
        clear hz hown1 hown2 hR4 hext4 hap4 hL2
        have HAB := Lib.hid hab; have HGU := Lib.hid hgu; have HEC := Lib.hid EC; have HV0 := Lib.hid hV0
        have CA := odd_calls hA (by omega) (by rw [val_lim]; exact hU0) (HTZ.out.old EC)
        rw [val_lim] at CA
        have HCA := Lib.hid CA; have HBo := Lib.hid hB; have HAo := Lib.hid hA
        clear CA hA hB hab hgu EC hV0 hU0
        go_wp2_with fail
        refine HCA.out.mono ?_
        rintro e w5 ⟨o1, M1, l1, q1, rfl, hb1, ho1, hgr1, hM1, hX1, hn1, hq1⟩
        have hB1 := HBo.out.grown hgr1 (.inr (Ne.symm HAB.out))
        have E5 := HEC.out.grown' HAo.out (Nat.le_refl _) hgr1
        have CB := odd_calls hB1 (by omega) (by rw [val_lim]; exact HV0.out) (HTZ.out.old E5)
        rw [val_lim] at CB
        have HCB := Lib.hid CB; have HO1 := Lib.hid ho1; have HB1 := Lib.hid hB1; have HE5 := Lib.hid E5; have HBB1 := Lib.hid hb1; have HX1 := Lib.hid hX1; have HM1 := Lib.hid hM1
        clear CB ho1 hB1 E5 hb1 hX1 hM1 hgr1 HBo HAo HEC HCA
        go_wp2_with fail
        refine HCB.out.mono ?_
        rintro e w6 ⟨o2, M2, l2, q2, rfl, hb2, ho2, hgr2, hM2, hX2, hn2, hq2⟩
        have hA2 := HO1.out.grown hgr2 (.inr (by rw [HBB1.out]; exact HAB.out))
        have E6 := HE5.out.grown' HB1.out (Nat.le_refl _) hgr2
        have CC := cmp_calls hA2.sl ho2.sl (by omega) (by omega)
        rw [val_lim, val_lim] at CC
        have HCC := Lib.hid CC
        have HGF : Hid (G = 2 ^ min q1 q2 * Nat.gcd M1 M2) := Lib.hid (by rw [← HGU.out, hX2, HX1.out, gcd_odd_parts HM1.out hM2])
        have HA2 := Lib.hid hA2; have HO2 := Lib.hid ho2; have HE6 := Lib.hid E6; have HM2 := Lib.hid hM2
        have HBB : Hid (blk o1 ≠ blk o2) := Lib.hid (by rw [HBB1.out, hb2]; exact HAB.out)
        clear CC hA2 ho2 E6 hM2 hX2 hb2 hgr2 HGU HX1 HO1 HB1 HE5 HCB
        go_wp2_with fail
        refine HCC.out.mono ?_
        rintro e w7 ⟨rfl, k7, rfl⟩
        go_wp2_with fail
        go_loopg [5, 6, 12] (M1 + M2) (fun gk xv yv cv wr => GcdRel w 20000000 (Nat.gcd M1 M2) gk xv yv cv wr)
        case atStart => exact ⟨o1, o2, l1, l2, l1, l2, M1, M2, rfl, rfl, rfl, HA2.out.old ((Ext.refl _).drewN k7), HO2.out.old ((Ext.refl _).drewN k7), HBB.out, HM1.out, HM2.out, rfl, rfl, HE6.out.drewN k7, by omega, by omega⟩
        case round =>
          obtain ⟨x, y, nx, ny, cx, cy, X', Y', rfl, rfl, rfl, hx, hy, hxy, hx1, hy1, hg, hk, hex, hnx, hny⟩ := hrel
          have HX' := Lib.hid hx; have HY' := Lib.hid hy; have HXY := Lib.hid hxy; have HEX := Lib.hid hex; have HGG' := Lib.hid hg; have HO1' := Lib.hid hx1; have HO2' := Lib.hid hy1
          clear hxy hg hx1 hy1
          rcases Nat.lt_trichotomy X' Y' with h | h | h
          · rw [cmpN_lt h]
            have hK0 := h
            have CL := Lib.hid (less_calls hy hx.sl (.inr (.inr HXY.out)) (by omega) (by rw [← hy.sl.len, ← hx.sl.len]; exact digs_len_mono B64_two (Nat.le_of_lt hK0)) (by rw [val_lim, val_lim]; exact Nat.le_of_lt hK0))
            have HLT := Lib.hid hK0
            clear hK0
            go_wp2_with fail
            refine CL.out.mono ?_
            rintro e w8 ⟨os, hos, rfl, hown8, hgr8⟩
            rw [val_lim, val_lim] at hos
            have HOS := Lib.hid hos
            have HS8 := Lib.hid (hx.grown hgr8 (.inr HXY.out))
            have E8 := hex.grown' hy (Nat.le_refl _) hgr8
            have CT := Lib.hid (trimmed_calls hown8.sl)
            have hl8 := hown8.sl.trimmed_len
            have CO := odd_calls hown8.trimmed (by omega) (by rw [val_lim, hos]; have := HLT.out; omega) (HTZ.out.old E8)
            rw [val_lim] at CO
            have HCO := Lib.hid CO
            have HO8 := Lib.hid hown8.trimmed
            clear CO hos hown8
            go_wp2_with fail
            refine CT.out.mono ?_
            rintro e w9 ⟨rfl, rfl⟩
            go_wp2_with fail
            refine HCO.out.mono ?_
            rintro e w10 ⟨o10, K, l10, q10, rfl, hb10, ho10, hgr10, hK, hX10, hn10, hq10⟩
            rw [HOS.out] at hX10
            have hS10 := HS8.out.grown hgr10 (.inr HXY.out)
            have E10 := E8.grown' HO8.out (Nat.le_refl _) hgr10
            have CC := cmp_calls ho10.sl hS10.sl (by omega) (by omega)
            rw [val_lim, val_lim] at CC
            have HCC := Lib.hid CC
            have HG10 := Lib.hid (gcd_round HO1'.out HLT.out hX10)
            have HK1 := Lib.hid (odd_le hX10)
            have HNB : Hid (blk o10 ≠ blk x) := Lib.hid (by rw [hb10]; exact Ne.symm HXY.out)
            have HO10 := Lib.hid ho10; have HS10 := Lib.hid hS10; have HE10 := Lib.hid E10; have HK := Lib.hid hK
            clear CC hX10 ho10 hS10 E10 hb10 hK
            go_wp2_with fail
            refine HCC.out.mono ?_
            rintro e w11 ⟨rfl, k11, rfl⟩
            go_wp2_with fail
            go_roundg (K + X')
            case measure => have := HK1.out; have := HLT.out; have := HO1'.out; omega
            case rel => exact ⟨o10, _, l10, _, l10, _, K, X', rfl, rfl, rfl, HO10.out.old ((Ext.refl _).drewN k11), HS10.out.old ((Ext.refl _).drewN k11), HNB.out, HK.out, HO1'.out, (by rw [HG10.out, Nat.gcd_comm]; exact HGG'.out), rfl, HE10.out.drewN k11, by omega, by omega⟩
          · rw [cmpN_eq h]
            subst h
            obtain ⟨qm, hqm⟩ : ∃ qm, min q1 q2 = qm := ⟨_, rfl⟩
            have hqi : min (q1 : Int) (q2 : Int) = (qm : Int) := by omega
            obtain ⟨zq, hzq⟩ : ∃ z, qm / 64 = z := ⟨_, rfl⟩
            obtain ⟨rq, hrq⟩ : ∃ r, qm % 64 = r := ⟨_, rfl⟩
            have f1 : (qm : Int) / 64 = (zq : Int) := by omega
            have f2 : (qm : Int).tdiv 64 = (zq : Int) := by rw [Int.tdiv_eq_ediv_of_nonneg (by omega)]; exact f1
            have f3 : (qm : Int) % 64 = (rq : Int) := by omega
            have f4 : (qm : Int).tmod 64 = (rq : Int) := by rw [Int.tmod_eq_emod_of_nonneg (by omega)]; exact f3
            have hqb : qm ≤ 6400000000 := by omega
            have hzb : zq ≤ 100000000 := by omega
            have hrb : rq < 64 := by omega
            obtain ⟨sq, hsq⟩ : ∃ s, zq + nx = s := ⟨_, rfl⟩
            obtain ⟨cq, hcq⟩ : ∃ s, sq + 1 = s := ⟨_, rfl⟩
            have hw0 : IntKind.i64.wrap (zq : Int) = (zq : Int) := IntWalk.i64_in _ (by omega)
            have hw5 : IntKind.i64.wrap (rq : Int) = (rq : Int) := IntWalk.i64_in _ (by omega)
            have hw1 : IntKind.i64.wrap ((zq : Int) + (nx : Int)) = (sq : Int) := by rw [IntWalk.i64_in _ (by omega)]; omega
            have hw2 : IntKind.i64.wrap ((sq : Int) + 1) = (cq : Int) := by rw [IntWalk.i64_in _ (by omega)]; omega
            have hw6 : IntKind.i64.wrap (sq : Int) = (sq : Int) := IntWalk.i64_in _ (by omega)
            have hw7 : IntKind.i64.wrap (cq : Int) = (cq : Int) := IntWalk.i64_in _ (by omega)
            have HCB := Lib.hid (show zq ≤ cq ∧ cq ≤ 1099511627776 by omega)
            have hmk := fun W => run_make_room64 (P := Tryz.prog) W 33 31 i0 Tryz.underlying33 H1.out H2.out H3.out H4.out zq cq HCB.out.1 HCB.out.2
            have HFIN : Hid (∀ os, val os = val (lim X') * 2 ^ rq → val (List.replicate zq 0 ++ os) = G) := Lib.hid (fun os h => by
              rw [val_lim, ← hrq] at h
              rw [← hzq, gcd_fin h, HGF.out, hqm, ← HGG'.out, Nat.gcd_self])
            have HZB := Lib.hid (Bd.replicate B64_pos zq)
            have HEXS := Lib.hid hex.size
            clear hqm hzq hrq hsq hcq hx hy hk hex
            go_wp2_with fail
            go_region_held3 (fun _ => True) (trivial)
              (first
                | (go_at_call 110; refine (left_calls (HX'.out.sl.old (((Ext.refl wr).drew).alloc _)) (by omega) rq hrb).mono ?_; rintro e w21 ⟨o21, os21, hos21, rfl, hown21, hext21⟩; obtain ⟨b21, f21, rfl, hB21, hlt21⟩ := hown21.some_ (by omega); have R21 := Lib.hid (World.ownsRow.kept (make_row wr.drew 31 zq cq HCB.out.1 HCB.out.2) (hext21.by_ none) (Classical.em _)))
                | (go_at_call 110; refine (left_calls (HX'.out.sl.old ((Ext.refl wr).drew)) (by omega) rq hrb).mono ?_; rintro e w21 ⟨o21, os21, hos21, rfl, hown21, hext21⟩; obtain ⟨b21, f21, rfl, hB21, hlt21⟩ := hown21.some_ (by omega))
                | (refine step_append_lies _ (by rfl) _ _ 33 (by rfl) wr.heap.size 31 i0 (.int .u64 0) 1 8 Tryz.underlying33 H1.out H2.out H3.out H4.out rfl (by decide) (.slice (some ⟨wr.heap.size, 0, none⟩) zq cq) zq (row64 (List.replicate zq 0)) (by rfl) R21.out ⟨b21, f21, none⟩ (nx + 1) (nx + 1) (row64 os21) (by rfl) (by simp [row64, hown21.sl.len]) (sl_news hown21.sl) (oneCell_u64 _) (by omega) (by unfold maxLen; omega) (by omega) (by have := hext21.size; have : (wr.drew.alloc (.cells (madeCells #[.int .u64 0] cq) 31)).heap.size = wr.drew.heap.size + 1 := World.size_alloc ..; have : wr.drew.heap.size = wr.heap.size := rfl; omega) _ rfl ?_; intro g22 c22 w22 hown22 hgrow22 hat22 hlt22; have OWNF := Lib.hid ((row_own hown22 HZB.out hown21.sl.bd).mono HEXS.out); have EXF := Lib.hid (Ext.trans (HEX.out.drew.alloc _) hext21 |>.grown'' hgrow22 HEXS.out))
                | (refine step_append_lies _ (by rfl) _ _ 33 (by rfl) w21.heap.size 31 i0 (.int .u64 0) 1 8 Tryz.underlying33 H1.out H2.out H3.out H4.out rfl (by decide) (.slice (some ⟨w21.heap.size, 0, none⟩) zq cq) zq (row64 (List.replicate zq 0)) (by rfl) (make_row w21 31 zq cq HCB.out.1 HCB.out.2) ⟨b21, f21, none⟩ (nx + 1) (nx + 1) (row64 os21) (by rfl) (by simp [row64, hown21.sl.len]) (sl_news (hown21.sl.old ((Ext.refl _).alloc _))) (oneCell_u64 _) (by omega) (by unfold maxLen; omega) (by omega) (by have : (w21.alloc (.cells (madeCells #[.int .u64 0] cq) 31)).heap.size = w21.heap.size + 1 := World.size_alloc ..; omega) _ rfl ?_; intro g22 c22 w22 hown22 hgrow22 hat22 hlt22; have OWNF := Lib.hid ((row_own hown22 HZB.out hown21.sl.bd).mono (Nat.le_trans HEXS.out hext21.size)); have EXF := Lib.hid (((HEX.out.drew.trans hext21).alloc _).grown'' hgrow22 (Nat.le_trans HEXS.out hext21.size)))
                | (go_at_call 99; refine (trimmed_calls OWNF.out.sl).mono ?_; rintro e w23 ⟨rfl, rfl⟩))
            all_goals (
              have hfin := OWNF.out.trimmed
              have hvf := HFIN.out _ hos21
              have HFO : Hid (Own w.heap.size w22 (some ⟨g22, 0, none⟩) (lim G).length (lim G).length (lim G)) := Lib.hid (by rw [hvf] at hfin; exact hfin)
              have HVF := Lib.hid hvf
              clear hfin hvf
              go_wp2_with fail
              go_ret
              exact ⟨_, _, _, by rw [HVF.out]; rfl, HFO.out, EXF.out, HGL.out⟩)
          · rw [cmpN_gt h]
            have hK0 := h
            have CL := Lib.hid (less_calls hx hy.sl (.inr (.inr (Ne.symm HXY.out))) (by omega) (by rw [← hx.sl.len, ← hy.sl.len]; exact digs_len_mono B64_two (Nat.le_of_lt hK0)) (by rw [val_lim, val_lim]; exact Nat.le_of_lt hK0))
            have HLT := Lib.hid hK0
            clear hK0
            go_wp2_with fail
            refine CL.out.mono ?_
            rintro e w8 ⟨os, hos, rfl, hown8, hgr8⟩
            rw [val_lim, val_lim] at hos
            have HOS := Lib.hid hos
            have HS8 := Lib.hid (hy.grown hgr8 (.inr (Ne.symm HXY.out)))
            have E8 := hex.grown' hx (Nat.le_refl _) hgr8
            have CT := Lib.hid (trimmed_calls hown8.sl)
            have hl8 := hown8.sl.trimmed_len
            have CO := odd_calls hown8.trimmed (by omega) (by rw [val_lim, hos]; have := HLT.out; omega) (HTZ.out.old E8)
            rw [val_lim] at CO
            have HCO := Lib.hid CO
            have HO8 := Lib.hid hown8.trimmed
            clear CO hos hown8
            go_wp2_with fail
            refine CT.out.mono ?_
            rintro e w9 ⟨rfl, rfl⟩
            go_wp2_with fail
            refine HCO.out.mono ?_
            rintro e w10 ⟨o10, K, l10, q10, rfl, hb10, ho10, hgr10, hK, hX10, hn10, hq10⟩
            rw [HOS.out] at hX10
            have hS10 := HS8.out.grown hgr10 (.inr (Ne.symm HXY.out))
            have E10 := E8.grown' HO8.out (Nat.le_refl _) hgr10
            have CC := cmp_calls ho10.sl hS10.sl (by omega) (by omega)
            rw [val_lim, val_lim] at CC
            have HCC := Lib.hid CC
            have HG10 := Lib.hid (gcd_round HO2'.out HLT.out hX10)
            have HK1 := Lib.hid (odd_le hX10)
            have HNB : Hid (blk o10 ≠ blk y) := Lib.hid (by rw [hb10]; exact Ne.symm (Ne.symm HXY.out))
            have HO10 := Lib.hid ho10; have HS10 := Lib.hid hS10; have HE10 := Lib.hid E10; have HK := Lib.hid hK
            clear CC hX10 ho10 hS10 E10 hb10 hK
            go_wp2_with fail
            refine HCC.out.mono ?_
            rintro e w11 ⟨rfl, k11, rfl⟩
            go_wp2_with fail
            go_roundg (K + Y')
            case measure => have := HK1.out; have := HLT.out; have := HO2'.out; omega
            case rel => exact ⟨o10, _, l10, _, l10, _, K, Y', rfl, rfl, rfl, HO10.out.old ((Ext.refl _).drewN k11), HS10.out.old ((Ext.refl _).drewN k11), HNB.out, HK.out, HO2'.out, (by rw [HG10.out]; exact HGG'.out), rfl, HE10.out.drewN k11, by omega, by omega⟩
    · have g3 : ¬ ((nr : Int) < (np : Int)) := by omega
      have hA := HP.out
      have hB := HR.out
      have hab := HNPR.out
      have hgu := HGG.out
      have hU0 := hP0
      have hV0 := hR0
      have EC := E3.out
      clear hP0 hR0 hle
      have HAB := Lib.hid hab; have HGU := Lib.hid hgu; have HEC := Lib.hid EC; have HV0 := Lib.hid hV0
      have CA := odd_calls hA (by omega) (by rw [val_lim]; exact hU0) (HTZ.out.old EC)
      rw [val_lim] at CA
      have HCA := Lib.hid CA; have HBo := Lib.hid hB; have HAo := Lib.hid hA
      clear CA hA hB hab hgu EC hV0 hU0
      go_wp2_with fail
      refine HCA.out.mono ?_
      rintro e w5 ⟨o1, M1, l1, q1, rfl, hb1, ho1, hgr1, hM1, hX1, hn1, hq1⟩
      have hB1 := HBo.out.grown hgr1 (.inr (Ne.symm HAB.out))
      have E5 := HEC.out.grown' HAo.out (Nat.le_refl _) hgr1
      have CB := odd_calls hB1 (by omega) (by rw [val_lim]; exact HV0.out) (HTZ.out.old E5)
      rw [val_lim] at CB
      have HCB := Lib.hid CB; have HO1 := Lib.hid ho1; have HB1 := Lib.hid hB1; have HE5 := Lib.hid E5; have HBB1 := Lib.hid hb1; have HX1 := Lib.hid hX1; have HM1 := Lib.hid hM1
      clear CB ho1 hB1 E5 hb1 hX1 hM1 hgr1 HBo HAo HEC HCA
      go_wp2_with fail
      refine HCB.out.mono ?_
      rintro e w6 ⟨o2, M2, l2, q2, rfl, hb2, ho2, hgr2, hM2, hX2, hn2, hq2⟩
      have hA2 := HO1.out.grown hgr2 (.inr (by rw [HBB1.out]; exact HAB.out))
      have E6 := HE5.out.grown' HB1.out (Nat.le_refl _) hgr2
      have CC := cmp_calls hA2.sl ho2.sl (by omega) (by omega)
      rw [val_lim, val_lim] at CC
      have HCC := Lib.hid CC
      have HGF : Hid (G = 2 ^ min q1 q2 * Nat.gcd M1 M2) := Lib.hid (by rw [← HGU.out, hX2, HX1.out, gcd_odd_parts HM1.out hM2])
      have HA2 := Lib.hid hA2; have HO2 := Lib.hid ho2; have HE6 := Lib.hid E6; have HM2 := Lib.hid hM2
      have HBB : Hid (blk o1 ≠ blk o2) := Lib.hid (by rw [HBB1.out, hb2]; exact HAB.out)
      clear CC hA2 ho2 E6 hM2 hX2 hb2 hgr2 HGU HX1 HO1 HB1 HE5 HCB
      go_wp2_with fail
      refine HCC.out.mono ?_
      rintro e w7 ⟨rfl, k7, rfl⟩
      go_wp2_with fail
      go_loopg [5, 6, 12] (M1 + M2) (fun gk xv yv cv wr => GcdRel w 20000000 (Nat.gcd M1 M2) gk xv yv cv wr)
      case atStart => exact ⟨o1, o2, l1, l2, l1, l2, M1, M2, rfl, rfl, rfl, HA2.out.old ((Ext.refl _).drewN k7), HO2.out.old ((Ext.refl _).drewN k7), HBB.out, HM1.out, HM2.out, rfl, rfl, HE6.out.drewN k7, by omega, by omega⟩
      case round =>
        obtain ⟨x, y, nx, ny, cx, cy, X', Y', rfl, rfl, rfl, hx, hy, hxy, hx1, hy1, hg, hk, hex, hnx, hny⟩ := hrel
        have HX' := Lib.hid hx; have HY' := Lib.hid hy; have HXY := Lib.hid hxy; have HEX := Lib.hid hex; have HGG' := Lib.hid hg; have HO1' := Lib.hid hx1; have HO2' := Lib.hid hy1
        clear hxy hg hx1 hy1
        rcases Nat.lt_trichotomy X' Y' with h | h | h
        · rw [cmpN_lt h]
          have hK0 := h
          have CL := Lib.hid (less_calls hy hx.sl (.inr (.inr HXY.out)) (by omega) (by rw [← hy.sl.len, ← hx.sl.len]; exact digs_len_mono B64_two (Nat.le_of_lt hK0)) (by rw [val_lim, val_lim]; exact Nat.le_of_lt hK0))
          have HLT := Lib.hid hK0
          clear hK0
          go_wp2_with fail
          refine CL.out.mono ?_
          rintro e w8 ⟨os, hos, rfl, hown8, hgr8⟩
          rw [val_lim, val_lim] at hos
          have HOS := Lib.hid hos
          have HS8 := Lib.hid (hx.grown hgr8 (.inr HXY.out))
          have E8 := hex.grown' hy (Nat.le_refl _) hgr8
          have CT := Lib.hid (trimmed_calls hown8.sl)
          have hl8 := hown8.sl.trimmed_len
          have CO := odd_calls hown8.trimmed (by omega) (by rw [val_lim, hos]; have := HLT.out; omega) (HTZ.out.old E8)
          rw [val_lim] at CO
          have HCO := Lib.hid CO
          have HO8 := Lib.hid hown8.trimmed
          clear CO hos hown8
          go_wp2_with fail
          refine CT.out.mono ?_
          rintro e w9 ⟨rfl, rfl⟩
          go_wp2_with fail
          refine HCO.out.mono ?_
          rintro e w10 ⟨o10, K, l10, q10, rfl, hb10, ho10, hgr10, hK, hX10, hn10, hq10⟩
          rw [HOS.out] at hX10
          have hS10 := HS8.out.grown hgr10 (.inr HXY.out)
          have E10 := E8.grown' HO8.out (Nat.le_refl _) hgr10
          have CC := cmp_calls ho10.sl hS10.sl (by omega) (by omega)
          rw [val_lim, val_lim] at CC
          have HCC := Lib.hid CC
          have HG10 := Lib.hid (gcd_round HO1'.out HLT.out hX10)
          have HK1 := Lib.hid (odd_le hX10)
          have HNB : Hid (blk o10 ≠ blk x) := Lib.hid (by rw [hb10]; exact Ne.symm HXY.out)
          have HO10 := Lib.hid ho10; have HS10 := Lib.hid hS10; have HE10 := Lib.hid E10; have HK := Lib.hid hK
          clear CC hX10 ho10 hS10 E10 hb10 hK
          go_wp2_with fail
          refine HCC.out.mono ?_
          rintro e w11 ⟨rfl, k11, rfl⟩
          go_wp2_with fail
          go_roundg (K + X')
          case measure => have := HK1.out; have := HLT.out; have := HO1'.out; omega
          case rel => exact ⟨o10, _, l10, _, l10, _, K, X', rfl, rfl, rfl, HO10.out.old ((Ext.refl _).drewN k11), HS10.out.old ((Ext.refl _).drewN k11), HNB.out, HK.out, HO1'.out, (by rw [HG10.out, Nat.gcd_comm]; exact HGG'.out), rfl, HE10.out.drewN k11, by omega, by omega⟩
        · rw [cmpN_eq h]
          subst h
          obtain ⟨qm, hqm⟩ : ∃ qm, min q1 q2 = qm := ⟨_, rfl⟩
          have hqi : min (q1 : Int) (q2 : Int) = (qm : Int) := by omega
          obtain ⟨zq, hzq⟩ : ∃ z, qm / 64 = z := ⟨_, rfl⟩
          obtain ⟨rq, hrq⟩ : ∃ r, qm % 64 = r := ⟨_, rfl⟩
          have f1 : (qm : Int) / 64 = (zq : Int) := by omega
          have f2 : (qm : Int).tdiv 64 = (zq : Int) := by rw [Int.tdiv_eq_ediv_of_nonneg (by omega)]; exact f1
          have f3 : (qm : Int) % 64 = (rq : Int) := by omega
          have f4 : (qm : Int).tmod 64 = (rq : Int) := by rw [Int.tmod_eq_emod_of_nonneg (by omega)]; exact f3
          have hqb : qm ≤ 6400000000 := by omega
          have hzb : zq ≤ 100000000 := by omega
          have hrb : rq < 64 := by omega
          obtain ⟨sq, hsq⟩ : ∃ s, zq + nx = s := ⟨_, rfl⟩
          obtain ⟨cq, hcq⟩ : ∃ s, sq + 1 = s := ⟨_, rfl⟩
          have hw0 : IntKind.i64.wrap (zq : Int) = (zq : Int) := IntWalk.i64_in _ (by omega)
          have hw5 : IntKind.i64.wrap (rq : Int) = (rq : Int) := IntWalk.i64_in _ (by omega)
          have hw1 : IntKind.i64.wrap ((zq : Int) + (nx : Int)) = (sq : Int) := by rw [IntWalk.i64_in _ (by omega)]; omega
          have hw2 : IntKind.i64.wrap ((sq : Int) + 1) = (cq : Int) := by rw [IntWalk.i64_in _ (by omega)]; omega
          have hw6 : IntKind.i64.wrap (sq : Int) = (sq : Int) := IntWalk.i64_in _ (by omega)
          have hw7 : IntKind.i64.wrap (cq : Int) = (cq : Int) := IntWalk.i64_in _ (by omega)
          have HCB := Lib.hid (show zq ≤ cq ∧ cq ≤ 1099511627776 by omega)
          have hmk := fun W => run_make_room64 (P := Tryz.prog) W 33 31 i0 Tryz.underlying33 H1.out H2.out H3.out H4.out zq cq HCB.out.1 HCB.out.2
          have HFIN : Hid (∀ os, val os = val (lim X') * 2 ^ rq → val (List.replicate zq 0 ++ os) = G) := Lib.hid (fun os h => by
            rw [val_lim, ← hrq] at h
            rw [← hzq, gcd_fin h, HGF.out, hqm, ← HGG'.out, Nat.gcd_self])
          have HZB := Lib.hid (Bd.replicate B64_pos zq)
          have HEXS := Lib.hid hex.size
          clear hqm hzq hrq hsq hcq hx hy hk hex
          go_wp2_with fail
          go_region_held3 (fun _ => True) (trivial)
            (first
              | (go_at_call 110; refine (left_calls (HX'.out.sl.old (((Ext.refl wr).drew).alloc _)) (by omega) rq hrb).mono ?_; rintro e w21 ⟨o21, os21, hos21, rfl, hown21, hext21⟩; obtain ⟨b21, f21, rfl, hB21, hlt21⟩ := hown21.some_ (by omega); have R21 := Lib.hid (World.ownsRow.kept (make_row wr.drew 31 zq cq HCB.out.1 HCB.out.2) (hext21.by_ none) (Classical.em _)))
              | (go_at_call 110; refine (left_calls (HX'.out.sl.old ((Ext.refl wr).drew)) (by omega) rq hrb).mono ?_; rintro e w21 ⟨o21, os21, hos21, rfl, hown21, hext21⟩; obtain ⟨b21, f21, rfl, hB21, hlt21⟩ := hown21.some_ (by omega))
              | (refine step_append_lies _ (by rfl) _ _ 33 (by rfl) wr.heap.size 31 i0 (.int .u64 0) 1 8 Tryz.underlying33 H1.out H2.out H3.out H4.out rfl (by decide) (.slice (some ⟨wr.heap.size, 0, none⟩) zq cq) zq (row64 (List.replicate zq 0)) (by rfl) R21.out ⟨b21, f21, none⟩ (nx + 1) (nx + 1) (row64 os21) (by rfl) (by simp [row64, hown21.sl.len]) (sl_news hown21.sl) (oneCell_u64 _) (by omega) (by unfold maxLen; omega) (by omega) (by have := hext21.size; have : (wr.drew.alloc (.cells (madeCells #[.int .u64 0] cq) 31)).heap.size = wr.drew.heap.size + 1 := World.size_alloc ..; have : wr.drew.heap.size = wr.heap.size := rfl; omega) _ rfl ?_; intro g22 c22 w22 hown22 hgrow22 hat22 hlt22; have OWNF := Lib.hid ((row_own hown22 HZB.out hown21.sl.bd).mono HEXS.out); have EXF := Lib.hid (Ext.trans (HEX.out.drew.alloc _) hext21 |>.grown'' hgrow22 HEXS.out))
              | (refine step_append_lies _ (by rfl) _ _ 33 (by rfl) w21.heap.size 31 i0 (.int .u64 0) 1 8 Tryz.underlying33 H1.out H2.out H3.out H4.out rfl (by decide) (.slice (some ⟨w21.heap.size, 0, none⟩) zq cq) zq (row64 (List.replicate zq 0)) (by rfl) (make_row w21 31 zq cq HCB.out.1 HCB.out.2) ⟨b21, f21, none⟩ (nx + 1) (nx + 1) (row64 os21) (by rfl) (by simp [row64, hown21.sl.len]) (sl_news (hown21.sl.old ((Ext.refl _).alloc _))) (oneCell_u64 _) (by omega) (by unfold maxLen; omega) (by omega) (by have : (w21.alloc (.cells (madeCells #[.int .u64 0] cq) 31)).heap.size = w21.heap.size + 1 := World.size_alloc ..; omega) _ rfl ?_; intro g22 c22 w22 hown22 hgrow22 hat22 hlt22; have OWNF := Lib.hid ((row_own hown22 HZB.out hown21.sl.bd).mono (Nat.le_trans HEXS.out hext21.size)); have EXF := Lib.hid (((HEX.out.drew.trans hext21).alloc _).grown'' hgrow22 (Nat.le_trans HEXS.out hext21.size)))
              | (go_at_call 99; refine (trimmed_calls OWNF.out.sl).mono ?_; rintro e w23 ⟨rfl, rfl⟩))
          all_goals (
            have hfin := OWNF.out.trimmed
            have hvf := HFIN.out _ hos21
            have HFO : Hid (Own w.heap.size w22 (some ⟨g22, 0, none⟩) (lim G).length (lim G).length (lim G)) := Lib.hid (by rw [hvf] at hfin; exact hfin)
            have HVF := Lib.hid hvf
            clear hfin hvf
            go_wp2_with fail
            go_ret
            exact ⟨_, _, _, by rw [HVF.out]; rfl, HFO.out, EXF.out, HGL.out⟩)
        · rw [cmpN_gt h]
          have hK0 := h
          have CL := Lib.hid (less_calls hx hy.sl (.inr (.inr (Ne.symm HXY.out))) (by omega) (by rw [← hx.sl.len, ← hy.sl.len]; exact digs_len_mono B64_two (Nat.le_of_lt hK0)) (by rw [val_lim, val_lim]; exact Nat.le_of_lt hK0))
          have HLT := Lib.hid hK0
          clear hK0
          go_wp2_with fail
          refine CL.out.mono ?_
          rintro e w8 ⟨os, hos, rfl, hown8, hgr8⟩
          rw [val_lim, val_lim] at hos
          have HOS := Lib.hid hos
          have HS8 := Lib.hid (hy.grown hgr8 (.inr (Ne.symm HXY.out)))
          have E8 := hex.grown' hx (Nat.le_refl _) hgr8
          have CT := Lib.hid (trimmed_calls hown8.sl)
          have hl8 := hown8.sl.trimmed_len
          have CO := odd_calls hown8.trimmed (by omega) (by rw [val_lim, hos]; have := HLT.out; omega) (HTZ.out.old E8)
          rw [val_lim] at CO
          have HCO := Lib.hid CO
          have HO8 := Lib.hid hown8.trimmed
          clear CO hos hown8
          go_wp2_with fail
          refine CT.out.mono ?_
          rintro e w9 ⟨rfl, rfl⟩
          go_wp2_with fail
          refine HCO.out.mono ?_
          rintro e w10 ⟨o10, K, l10, q10, rfl, hb10, ho10, hgr10, hK, hX10, hn10, hq10⟩
          rw [HOS.out] at hX10
          have hS10 := HS8.out.grown hgr10 (.inr (Ne.symm HXY.out))
          have E10 := E8.grown' HO8.out (Nat.le_refl _) hgr10
          have CC := cmp_calls ho10.sl hS10.sl (by omega) (by omega)
          rw [val_lim, val_lim] at CC
          have HCC := Lib.hid CC
          have HG10 := Lib.hid (gcd_round HO2'.out HLT.out hX10)
          have HK1 := Lib.hid (odd_le hX10)
          have HNB : Hid (blk o10 ≠ blk y) := Lib.hid (by rw [hb10]; exact Ne.symm (Ne.symm HXY.out))
          have HO10 := Lib.hid ho10; have HS10 := Lib.hid hS10; have HE10 := Lib.hid E10; have HK := Lib.hid hK
          clear CC hX10 ho10 hS10 E10 hb10 hK
          go_wp2_with fail
          refine HCC.out.mono ?_
          rintro e w11 ⟨rfl, k11, rfl⟩
          go_wp2_with fail
          go_roundg (K + Y')
          case measure => have := HK1.out; have := HLT.out; have := HO2'.out; omega
          case rel => exact ⟨o10, _, l10, _, l10, _, K, Y', rfl, rfl, rfl, HO10.out.old ((Ext.refl _).drewN k11), HS10.out.old ((Ext.refl _).drewN k11), HNB.out, HK.out, HO2'.out, (by rw [HG10.out]; exact HGG'.out), rfl, HE10.out.drewN k11, by omega, by omega⟩
  · obtain ⟨z1, z2⟩ : decide (q < (0 : Int)) = false ∧ ¬ q < 0 := by
      rw [← HQ.out]
      rcases Nat.lt_or_eq_of_le hlt with h | h
      · rw [cmpN_gt h]; exact ⟨rfl, by decide⟩
      · rw [cmpN_eq h.symm]; exact ⟨rfl, by decide⟩
    subst h1 h2 h3 h4 h5 h6 h7 h8
    have HP := EX3; have HR := EY3
    have HPL := HXL; have HRL := HYL
    have HPR : Hid (np = 0 ∨ nr = 0 ∨ blk pa ≠ blk ra) := HNE.out
    have HGG : Hid (Nat.gcd P R = G) := HG.out
    have hle : R ≤ P := hlt
    by_cases hr0 : nr = 0
    · subst hr0
      have hR0 := lim_len_zero HRL.out
      have hGP : P = G := by rw [← HGG.out, hR0, Nat.gcd_zero_right]
      have HGP := Lib.hid hGP
      clear hR0 hGP hle
      go_wp2_with fail
      go_ret
      exact ⟨pa, np, cp, rfl, by rw [← HGP.out]; exact HP.out, E3.out, by omega⟩
    have g1 : ((nr : Int) == 0) = false := by rw [beq_eq_false_iff_ne]; omega
    have hR0 : 0 < R := by
      rcases Nat.eq_zero_or_pos R with h | h
      · exfalso; apply hr0; rw [← HRL.out, h]; rfl
      · exact h
    have hP0 : 0 < P := by omega
    have HNPR := Lib.hid (show blk pa ≠ blk ra by
      have : np ≠ 0 := fun h => by rw [← HPL.out] at h; have := lim_len_zero h; omega
      rcases HPR.out with h | h | h <;> first | exact absurd h this | exact absurd h hr0 | exact h)
    by_cases hlong : nr < np
    · have g3 : (nr : Int) < (np : Int) := by omega
      have CD := divmod_pos HP.out.sl HR.out.sl (by omega) (by omega) (by rw [val_lim]; omega)
      rw [val_lim, val_lim] at CD
      have HCD := Lib.hid CD
      have HR0 := Lib.hid hR0
      clear CD hR0 hP0 hle
      go_wp2_with fail
      refine HCD.out.mono ?_
      rintro e w4 ⟨a1, d1, L1, a2, d2, L2, rfl, hown1, hown2, hext4, hl4, hl5, hap4⟩
      have hR4 := HR.out.old hext4
      by_cases hz : P % R = 0
      · have hL2 : L2 = 0 := by rw [← hown2.sl.len, hz]; rfl
        subst hL2
        have HGR : Hid (R = G) := Lib.hid (by rw [← HGG.out, Nat.gcd_comm, Nat.gcd_rec, hz, Nat.gcd_zero_left])
        clear hz
        go_wp2_with fail
        go_ret
        exact ⟨ra, nr, cr, rfl, by rw [← HGR.out]; exact hR4, E3.out.trans hext4, by omega⟩
      · have hL2 : L2 ≠ 0 := fun h => hz (lim_len_zero (by rw [hown2.sl.len]; exact h))
        have g4 : ((L2 : Int) == 0) = false := by rw [beq_eq_false_iff_ne]; omega
        have hA := hR4
        have hB := hown2.mono E3.out.size
        have hab : blk ra ≠ blk a2 := Ne.symm (HR.out.ne (by omega) hown2 (by omega) (Nat.le_refl _))
        have hgu : Nat.gcd R (P % R) = G := by
          have hr := Nat.gcd_rec R P
          rw [Nat.gcd_comm R P] at hr
          rw [Nat.gcd_comm R (P % R), ← hr]; exact HGG.out
        have hU0 := HR0.out
        have hV0 : 0 < P % R := Nat.pos_of_ne_zero hz
        have EC := E3.out.trans hext4
        have HMR := Lib.hid hz
        clear hz hown1 hown2 hR4 hext4 hap4 hL2
        have HAB := Lib.hid hab; have HGU := Lib.hid hgu; have HEC := Lib.hid EC; have HV0 := Lib.hid hV0
        have CA := odd_calls hA (by omega) (by rw [val_lim]; exact hU0) (HTZ.out.old EC)
        rw [val_lim] at CA
        have HCA := Lib.hid CA; have HBo := Lib.hid hB; have HAo := Lib.hid hA
        clear CA hA hB hab hgu EC hV0 hU0
        go_wp2_with fail
        refine HCA.out.mono ?_
        rintro e w5 ⟨o1, M1, l1, q1, rfl, hb1, ho1, hgr1, hM1, hX1, hn1, hq1⟩
        have hB1 := HBo.out.grown hgr1 (.inr (Ne.symm HAB.out))
        have E5 := HEC.out.grown' HAo.out (Nat.le_refl _) hgr1
        have CB := odd_calls hB1 (by omega) (by rw [val_lim]; exact HV0.out) (HTZ.out.old E5)
        rw [val_lim] at CB
        have HCB := Lib.hid CB; have HO1 := Lib.hid ho1; have HB1 := Lib.hid hB1; have HE5 := Lib.hid E5; have HBB1 := Lib.hid hb1; have HX1 := Lib.hid hX1; have HM1 := Lib.hid hM1
        clear CB ho1 hB1 E5 hb1 hX1 hM1 hgr1 HBo HAo HEC HCA
        go_wp2_with fail
        refine HCB.out.mono ?_
        rintro e w6 ⟨o2, M2, l2, q2, rfl, hb2, ho2, hgr2, hM2, hX2, hn2, hq2⟩
        have hA2 := HO1.out.grown hgr2 (.inr (by rw [HBB1.out]; exact HAB.out))
        have E6 := HE5.out.grown' HB1.out (Nat.le_refl _) hgr2
        have CC := cmp_calls hA2.sl ho2.sl (by omega) (by omega)
        rw [val_lim, val_lim] at CC
        have HCC := Lib.hid CC
        have HGF : Hid (G = 2 ^ min q1 q2 * Nat.gcd M1 M2) := Lib.hid (by rw [← HGU.out, hX2, HX1.out, gcd_odd_parts HM1.out hM2])
        have HA2 := Lib.hid hA2; have HO2 := Lib.hid ho2; have HE6 := Lib.hid E6; have HM2 := Lib.hid hM2
        have HBB : Hid (blk o1 ≠ blk o2) := Lib.hid (by rw [HBB1.out, hb2]; exact HAB.out)
        clear CC hA2 ho2 E6 hM2 hX2 hb2 hgr2 HGU HX1 HO1 HB1 HE5 HCB
        go_wp2_with fail
        refine HCC.out.mono ?_
        rintro e w7 ⟨rfl, k7, rfl⟩
        go_wp2_with fail
        go_loopg [5, 6, 12] (M1 + M2) (fun gk xv yv cv wr => GcdRel w 20000000 (Nat.gcd M1 M2) gk xv yv cv wr)
        case atStart => exact ⟨o1, o2, l1, l2, l1, l2, M1, M2, rfl, rfl, rfl, HA2.out.old ((Ext.refl _).drewN k7), HO2.out.old ((Ext.refl _).drewN k7), HBB.out, HM1.out, HM2.out, rfl, rfl, HE6.out.drewN k7, by omega, by omega⟩
        case round =>
          obtain ⟨x, y, nx, ny, cx, cy, X', Y', rfl, rfl, rfl, hx, hy, hxy, hx1, hy1, hg, hk, hex, hnx, hny⟩ := hrel
          have HX' := Lib.hid hx; have HY' := Lib.hid hy; have HXY := Lib.hid hxy; have HEX := Lib.hid hex; have HGG' := Lib.hid hg; have HO1' := Lib.hid hx1; have HO2' := Lib.hid hy1
          clear hxy hg hx1 hy1
          rcases Nat.lt_trichotomy X' Y' with h | h | h
          · rw [cmpN_lt h]
            have hK0 := h
            have CL := Lib.hid (less_calls hy hx.sl (.inr (.inr HXY.out)) (by omega) (by rw [← hy.sl.len, ← hx.sl.len]; exact digs_len_mono B64_two (Nat.le_of_lt hK0)) (by rw [val_lim, val_lim]; exact Nat.le_of_lt hK0))
            have HLT := Lib.hid hK0
            clear hK0
            go_wp2_with fail
            refine CL.out.mono ?_
            rintro e w8 ⟨os, hos, rfl, hown8, hgr8⟩
            rw [val_lim, val_lim] at hos
            have HOS := Lib.hid hos
            have HS8 := Lib.hid (hx.grown hgr8 (.inr HXY.out))
            have E8 := hex.grown' hy (Nat.le_refl _) hgr8
            have CT := Lib.hid (trimmed_calls hown8.sl)
            have hl8 := hown8.sl.trimmed_len
            have CO := odd_calls hown8.trimmed (by omega) (by rw [val_lim, hos]; have := HLT.out; omega) (HTZ.out.old E8)
            rw [val_lim] at CO
            have HCO := Lib.hid CO
            have HO8 := Lib.hid hown8.trimmed
            clear CO hos hown8
            go_wp2_with fail
            refine CT.out.mono ?_
            rintro e w9 ⟨rfl, rfl⟩
            go_wp2_with fail
            refine HCO.out.mono ?_
            rintro e w10 ⟨o10, K, l10, q10, rfl, hb10, ho10, hgr10, hK, hX10, hn10, hq10⟩
            rw [HOS.out] at hX10
            have hS10 := HS8.out.grown hgr10 (.inr HXY.out)
            have E10 := E8.grown' HO8.out (Nat.le_refl _) hgr10
            have CC := cmp_calls ho10.sl hS10.sl (by omega) (by omega)
            rw [val_lim, val_lim] at CC
            have HCC := Lib.hid CC
            have HG10 := Lib.hid (gcd_round HO1'.out HLT.out hX10)
            have HK1 := Lib.hid (odd_le hX10)
            have HNB : Hid (blk o10 ≠ blk x) := Lib.hid (by rw [hb10]; exact Ne.symm HXY.out)
            have HO10 := Lib.hid ho10; have HS10 := Lib.hid hS10; have HE10 := Lib.hid E10; have HK := Lib.hid hK
            clear CC hX10 ho10 hS10 E10 hb10 hK
            go_wp2_with fail
            refine HCC.out.mono ?_
            rintro e w11 ⟨rfl, k11, rfl⟩
            go_wp2_with fail
            go_roundg (K + X')
            case measure => have := HK1.out; have := HLT.out; have := HO1'.out; omega
            case rel => exact ⟨o10, _, l10, _, l10, _, K, X', rfl, rfl, rfl, HO10.out.old ((Ext.refl _).drewN k11), HS10.out.old ((Ext.refl _).drewN k11), HNB.out, HK.out, HO1'.out, (by rw [HG10.out, Nat.gcd_comm]; exact HGG'.out), rfl, HE10.out.drewN k11, by omega, by omega⟩
          · rw [cmpN_eq h]
            subst h
            obtain ⟨qm, hqm⟩ : ∃ qm, min q1 q2 = qm := ⟨_, rfl⟩
            have hqi : min (q1 : Int) (q2 : Int) = (qm : Int) := by omega
            obtain ⟨zq, hzq⟩ : ∃ z, qm / 64 = z := ⟨_, rfl⟩
            obtain ⟨rq, hrq⟩ : ∃ r, qm % 64 = r := ⟨_, rfl⟩
            have f1 : (qm : Int) / 64 = (zq : Int) := by omega
            have f2 : (qm : Int).tdiv 64 = (zq : Int) := by rw [Int.tdiv_eq_ediv_of_nonneg (by omega)]; exact f1
            have f3 : (qm : Int) % 64 = (rq : Int) := by omega
            have f4 : (qm : Int).tmod 64 = (rq : Int) := by rw [Int.tmod_eq_emod_of_nonneg (by omega)]; exact f3
            have hqb : qm ≤ 6400000000 := by omega
            have hzb : zq ≤ 100000000 := by omega
            have hrb : rq < 64 := by omega
            obtain ⟨sq, hsq⟩ : ∃ s, zq + nx = s := ⟨_, rfl⟩
            obtain ⟨cq, hcq⟩ : ∃ s, sq + 1 = s := ⟨_, rfl⟩
            have hw0 : IntKind.i64.wrap (zq : Int) = (zq : Int) := IntWalk.i64_in _ (by omega)
            have hw5 : IntKind.i64.wrap (rq : Int) = (rq : Int) := IntWalk.i64_in _ (by omega)
            have hw1 : IntKind.i64.wrap ((zq : Int) + (nx : Int)) = (sq : Int) := by rw [IntWalk.i64_in _ (by omega)]; omega
            have hw2 : IntKind.i64.wrap ((sq : Int) + 1) = (cq : Int) := by rw [IntWalk.i64_in _ (by omega)]; omega
            have hw6 : IntKind.i64.wrap (sq : Int) = (sq : Int) := IntWalk.i64_in _ (by omega)
            have hw7 : IntKind.i64.wrap (cq : Int) = (cq : Int) := IntWalk.i64_in _ (by omega)
            have HCB := Lib.hid (show zq ≤ cq ∧ cq ≤ 1099511627776 by omega)
            have hmk := fun W => run_make_room64 (P := Tryz.prog) W 33 31 i0 Tryz.underlying33 H1.out H2.out H3.out H4.out zq cq HCB.out.1 HCB.out.2
            have HFIN : Hid (∀ os, val os = val (lim X') * 2 ^ rq → val (List.replicate zq 0 ++ os) = G) := Lib.hid (fun os h => by
              rw [val_lim, ← hrq] at h
              rw [← hzq, gcd_fin h, HGF.out, hqm, ← HGG'.out, Nat.gcd_self])
            have HZB := Lib.hid (Bd.replicate B64_pos zq)
            have HEXS := Lib.hid hex.size
            clear hqm hzq hrq hsq hcq hx hy hk hex
            go_wp2_with fail
            go_region_held3 (fun _ => True) (trivial)
              (first
                | (go_at_call 110; refine (left_calls (HX'.out.sl.old (((Ext.refl wr).drew).alloc _)) (by omega) rq hrb).mono ?_; rintro e w21 ⟨o21, os21, hos21, rfl, hown21, hext21⟩; obtain ⟨b21, f21, rfl, hB21, hlt21⟩ := hown21.some_ (by omega); have R21 := Lib.hid (World.ownsRow.kept (make_row wr.drew 31 zq cq HCB.out.1 HCB.out.2) (hext21.by_ none) (Classical.em _)))
                | (go_at_call 110; refine (left_calls (HX'.out.sl.old ((Ext.refl wr).drew)) (by omega) rq hrb).mono ?_; rintro e w21 ⟨o21, os21, hos21, rfl, hown21, hext21⟩; obtain ⟨b21, f21, rfl, hB21, hlt21⟩ := hown21.some_ (by omega))
                | (refine step_append_lies _ (by rfl) _ _ 33 (by rfl) wr.heap.size 31 i0 (.int .u64 0) 1 8 Tryz.underlying33 H1.out H2.out H3.out H4.out rfl (by decide) (.slice (some ⟨wr.heap.size, 0, none⟩) zq cq) zq (row64 (List.replicate zq 0)) (by rfl) R21.out ⟨b21, f21, none⟩ (nx + 1) (nx + 1) (row64 os21) (by rfl) (by simp [row64, hown21.sl.len]) (sl_news hown21.sl) (oneCell_u64 _) (by omega) (by unfold maxLen; omega) (by omega) (by have := hext21.size; have : (wr.drew.alloc (.cells (madeCells #[.int .u64 0] cq) 31)).heap.size = wr.drew.heap.size + 1 := World.size_alloc ..; have : wr.drew.heap.size = wr.heap.size := rfl; omega) _ rfl ?_; intro g22 c22 w22 hown22 hgrow22 hat22 hlt22; have OWNF := Lib.hid ((row_own hown22 HZB.out hown21.sl.bd).mono HEXS.out); have EXF := Lib.hid (Ext.trans (HEX.out.drew.alloc _) hext21 |>.grown'' hgrow22 HEXS.out))
                | (refine step_append_lies _ (by rfl) _ _ 33 (by rfl) w21.heap.size 31 i0 (.int .u64 0) 1 8 Tryz.underlying33 H1.out H2.out H3.out H4.out rfl (by decide) (.slice (some ⟨w21.heap.size, 0, none⟩) zq cq) zq (row64 (List.replicate zq 0)) (by rfl) (make_row w21 31 zq cq HCB.out.1 HCB.out.2) ⟨b21, f21, none⟩ (nx + 1) (nx + 1) (row64 os21) (by rfl) (by simp [row64, hown21.sl.len]) (sl_news (hown21.sl.old ((Ext.refl _).alloc _))) (oneCell_u64 _) (by omega) (by unfold maxLen; omega) (by omega) (by have : (w21.alloc (.cells (madeCells #[.int .u64 0] cq) 31)).heap.size = w21.heap.size + 1 := World.size_alloc ..; omega) _ rfl ?_; intro g22 c22 w22 hown22 hgrow22 hat22 hlt22; have OWNF := Lib.hid ((row_own hown22 HZB.out hown21.sl.bd).mono (Nat.le_trans HEXS.out hext21.size)); have EXF := Lib.hid (((HEX.out.drew.trans hext21).alloc _).grown'' hgrow22 (Nat.le_trans HEXS.out hext21.size)))
                | (go_at_call 99; refine (trimmed_calls OWNF.out.sl).mono ?_; rintro e w23 ⟨rfl, rfl⟩))
            all_goals (
              have hfin := OWNF.out.trimmed
              have hvf := HFIN.out _ hos21
              have HFO : Hid (Own w.heap.size w22 (some ⟨g22, 0, none⟩) (lim G).length (lim G).length (lim G)) := Lib.hid (by rw [hvf] at hfin; exact hfin)
              have HVF := Lib.hid hvf
              clear hfin hvf
              go_wp2_with fail
              go_ret
              exact ⟨_, _, _, by rw [HVF.out]; rfl, HFO.out, EXF.out, HGL.out⟩)
          · rw [cmpN_gt h]
            have hK0 := h
            have CL := Lib.hid (less_calls hx hy.sl (.inr (.inr (Ne.symm HXY.out))) (by omega) (by rw [← hx.sl.len, ← hy.sl.len]; exact digs_len_mono B64_two (Nat.le_of_lt hK0)) (by rw [val_lim, val_lim]; exact Nat.le_of_lt hK0))
            have HLT := Lib.hid hK0
            clear hK0
            go_wp2_with fail
            refine CL.out.mono ?_
            rintro e w8 ⟨os, hos, rfl, hown8, hgr8⟩
            rw [val_lim, val_lim] at hos
            have HOS := Lib.hid hos
            have HS8 := Lib.hid (hy.grown hgr8 (.inr (Ne.symm HXY.out)))
            have E8 := hex.grown' hx (Nat.le_refl _) hgr8
            have CT := Lib.hid (trimmed_calls hown8.sl)
            have hl8 := hown8.sl.trimmed_len
            have CO := odd_calls hown8.trimmed (by omega) (by rw [val_lim, hos]; have := HLT.out; omega) (HTZ.out.old E8)
            rw [val_lim] at CO
            have HCO := Lib.hid CO
            have HO8 := Lib.hid hown8.trimmed
            clear CO hos hown8
            go_wp2_with fail
            refine CT.out.mono ?_
            rintro e w9 ⟨rfl, rfl⟩
            go_wp2_with fail
            refine HCO.out.mono ?_
            rintro e w10 ⟨o10, K, l10, q10, rfl, hb10, ho10, hgr10, hK, hX10, hn10, hq10⟩
            rw [HOS.out] at hX10
            have hS10 := HS8.out.grown hgr10 (.inr (Ne.symm HXY.out))
            have E10 := E8.grown' HO8.out (Nat.le_refl _) hgr10
            have CC := cmp_calls ho10.sl hS10.sl (by omega) (by omega)
            rw [val_lim, val_lim] at CC
            have HCC := Lib.hid CC
            have HG10 := Lib.hid (gcd_round HO2'.out HLT.out hX10)
            have HK1 := Lib.hid (odd_le hX10)
            have HNB : Hid (blk o10 ≠ blk y) := Lib.hid (by rw [hb10]; exact Ne.symm (Ne.symm HXY.out))
            have HO10 := Lib.hid ho10; have HS10 := Lib.hid hS10; have HE10 := Lib.hid E10; have HK := Lib.hid hK
            clear CC hX10 ho10 hS10 E10 hb10 hK
            go_wp2_with fail
            refine HCC.out.mono ?_
            rintro e w11 ⟨rfl, k11, rfl⟩
            go_wp2_with fail
            go_roundg (K + Y')
            case measure => have := HK1.out; have := HLT.out; have := HO2'.out; omega
            case rel => exact ⟨o10, _, l10, _, l10, _, K, Y', rfl, rfl, rfl, HO10.out.old ((Ext.refl _).drewN k11), HS10.out.old ((Ext.refl _).drewN k11), HNB.out, HK.out, HO2'.out, (by rw [HG10.out]; exact HGG'.out), rfl, HE10.out.drewN k11, by omega, by omega⟩
    · have g3 : ¬ ((nr : Int) < (np : Int)) := by omega
      have hA := HP.out
      have hB := HR.out
      have hab := HNPR.out
      have hgu := HGG.out
      have hU0 := hP0
      have hV0 := hR0
      have EC := E3.out
      clear hP0 hR0 hle
      have HAB := Lib.hid hab; have HGU := Lib.hid hgu; have HEC := Lib.hid EC; have HV0 := Lib.hid hV0
      have CA := odd_calls hA (by omega) (by rw [val_lim]; exact hU0) (HTZ.out.old EC)
      rw [val_lim] at CA
      have HCA := Lib.hid CA; have HBo := Lib.hid hB; have HAo := Lib.hid hA
      clear CA hA hB hab hgu EC hV0 hU0
      go_wp2_with fail
      refine HCA.out.mono ?_
      rintro e w5 ⟨o1, M1, l1, q1, rfl, hb1, ho1, hgr1, hM1, hX1, hn1, hq1⟩
      have hB1 := HBo.out.grown hgr1 (.inr (Ne.symm HAB.out))
      have E5 := HEC.out.grown' HAo.out (Nat.le_refl _) hgr1
      have CB := odd_calls hB1 (by omega) (by rw [val_lim]; exact HV0.out) (HTZ.out.old E5)
      rw [val_lim] at CB
      have HCB := Lib.hid CB; have HO1 := Lib.hid ho1; have HB1 := Lib.hid hB1; have HE5 := Lib.hid E5; have HBB1 := Lib.hid hb1; have HX1 := Lib.hid hX1; have HM1 := Lib.hid hM1
      clear CB ho1 hB1 E5 hb1 hX1 hM1 hgr1 HBo HAo HEC HCA
      go_wp2_with fail
      refine HCB.out.mono ?_
      rintro e w6 ⟨o2, M2, l2, q2, rfl, hb2, ho2, hgr2, hM2, hX2, hn2, hq2⟩
      have hA2 := HO1.out.grown hgr2 (.inr (by rw [HBB1.out]; exact HAB.out))
      have E6 := HE5.out.grown' HB1.out (Nat.le_refl _) hgr2
      have CC := cmp_calls hA2.sl ho2.sl (by omega) (by omega)
      rw [val_lim, val_lim] at CC
      have HCC := Lib.hid CC
      have HGF : Hid (G = 2 ^ min q1 q2 * Nat.gcd M1 M2) := Lib.hid (by rw [← HGU.out, hX2, HX1.out, gcd_odd_parts HM1.out hM2])
      have HA2 := Lib.hid hA2; have HO2 := Lib.hid ho2; have HE6 := Lib.hid E6; have HM2 := Lib.hid hM2
      have HBB : Hid (blk o1 ≠ blk o2) := Lib.hid (by rw [HBB1.out, hb2]; exact HAB.out)
      clear CC hA2 ho2 E6 hM2 hX2 hb2 hgr2 HGU HX1 HO1 HB1 HE5 HCB
      go_wp2_with fail
      refine HCC.out.mono ?_
      rintro e w7 ⟨rfl, k7, rfl⟩
      go_wp2_with fail
      go_loopg [5, 6, 12] (M1 + M2) (fun gk xv yv cv wr => GcdRel w 20000000 (Nat.gcd M1 M2) gk xv yv cv wr)
      case atStart => exact ⟨o1, o2, l1, l2, l1, l2, M1, M2, rfl, rfl, rfl, HA2.out.old ((Ext.refl _).drewN k7), HO2.out.old ((Ext.refl _).drewN k7), HBB.out, HM1.out, HM2.out, rfl, rfl, HE6.out.drewN k7, by omega, by omega⟩
      case round =>
        obtain ⟨x, y, nx, ny, cx, cy, X', Y', rfl, rfl, rfl, hx, hy, hxy, hx1, hy1, hg, hk, hex, hnx, hny⟩ := hrel
        have HX' := Lib.hid hx; have HY' := Lib.hid hy; have HXY := Lib.hid hxy; have HEX := Lib.hid hex; have HGG' := Lib.hid hg; have HO1' := Lib.hid hx1; have HO2' := Lib.hid hy1
        clear hxy hg hx1 hy1
        rcases Nat.lt_trichotomy X' Y' with h | h | h
        · rw [cmpN_lt h]
          have hK0 := h
          have CL := Lib.hid (less_calls hy hx.sl (.inr (.inr HXY.out)) (by omega) (by rw [← hy.sl.len, ← hx.sl.len]; exact digs_len_mono B64_two (Nat.le_of_lt hK0)) (by rw [val_lim, val_lim]; exact Nat.le_of_lt hK0))
          have HLT := Lib.hid hK0
          clear hK0
          go_wp2_with fail
          refine CL.out.mono ?_
          rintro e w8 ⟨os, hos, rfl, hown8, hgr8⟩
          rw [val_lim, val_lim] at hos
          have HOS := Lib.hid hos
          have HS8 := Lib.hid (hx.grown hgr8 (.inr HXY.out))
          have E8 := hex.grown' hy (Nat.le_refl _) hgr8
          have CT := Lib.hid (trimmed_calls hown8.sl)
          have hl8 := hown8.sl.trimmed_len
          have CO := odd_calls hown8.trimmed (by omega) (by rw [val_lim, hos]; have := HLT.out; omega) (HTZ.out.old E8)
          rw [val_lim] at CO
          have HCO := Lib.hid CO
          have HO8 := Lib.hid hown8.trimmed
          clear CO hos hown8
          go_wp2_with fail
          refine CT.out.mono ?_
          rintro e w9 ⟨rfl, rfl⟩
          go_wp2_with fail
          refine HCO.out.mono ?_
          rintro e w10 ⟨o10, K, l10, q10, rfl, hb10, ho10, hgr10, hK, hX10, hn10, hq10⟩
          rw [HOS.out] at hX10
          have hS10 := HS8.out.grown hgr10 (.inr HXY.out)
          have E10 := E8.grown' HO8.out (Nat.le_refl _) hgr10
          have CC := cmp_calls ho10.sl hS10.sl (by omega) (by omega)
          rw [val_lim, val_lim] at CC
          have HCC := Lib.hid CC
          have HG10 := Lib.hid (gcd_round HO1'.out HLT.out hX10)
          have HK1 := Lib.hid (odd_le hX10)
          have HNB : Hid (blk o10 ≠ blk x) := Lib.hid (by rw [hb10]; exact Ne.symm HXY.out)
          have HO10 := Lib.hid ho10; have HS10 := Lib.hid hS10; have HE10 := Lib.hid E10; have HK := Lib.hid hK
          clear CC hX10 ho10 hS10 E10 hb10 hK
          go_wp2_with fail
          refine HCC.out.mono ?_
          rintro e w11 ⟨rfl, k11, rfl⟩
          go_wp2_with fail
          go_roundg (K + X')
          case measure => have := HK1.out; have := HLT.out; have := HO1'.out; omega
          case rel => exact ⟨o10, _, l10, _, l10, _, K, X', rfl, rfl, rfl, HO10.out.old ((Ext.refl _).drewN k11), HS10.out.old ((Ext.refl _).drewN k11), HNB.out, HK.out, HO1'.out, (by rw [HG10.out, Nat.gcd_comm]; exact HGG'.out), rfl, HE10.out.drewN k11, by omega, by omega⟩
        · rw [cmpN_eq h]
          subst h
          obtain ⟨qm, hqm⟩ : ∃ qm, min q1 q2 = qm := ⟨_, rfl⟩
          have hqi : min (q1 : Int) (q2 : Int) = (qm : Int) := by omega
          obtain ⟨zq, hzq⟩ : ∃ z, qm / 64 = z := ⟨_, rfl⟩
          obtain ⟨rq, hrq⟩ : ∃ r, qm % 64 = r := ⟨_, rfl⟩
          have f1 : (qm : Int) / 64 = (zq : Int) := by omega
          have f2 : (qm : Int).tdiv 64 = (zq : Int) := by rw [Int.tdiv_eq_ediv_of_nonneg (by omega)]; exact f1
          have f3 : (qm : Int) % 64 = (rq : Int) := by omega
          have f4 : (qm : Int).tmod 64 = (rq : Int) := by rw [Int.tmod_eq_emod_of_nonneg (by omega)]; exact f3
          have hqb : qm ≤ 6400000000 := by omega
          have hzb : zq ≤ 100000000 := by omega
          have hrb : rq < 64 := by omega
          obtain ⟨sq, hsq⟩ : ∃ s, zq + nx = s := ⟨_, rfl⟩
          obtain ⟨cq, hcq⟩ : ∃ s, sq + 1 = s := ⟨_, rfl⟩
          have hw0 : IntKind.i64.wrap (zq : Int) = (zq : Int) := IntWalk.i64_in _ (by omega)
          have hw5 : IntKind.i64.wrap (rq : Int) = (rq : Int) := IntWalk.i64_in _ (by omega)
          have hw1 : IntKind.i64.wrap ((zq : Int) + (nx : Int)) = (sq : Int) := by rw [IntWalk.i64_in _ (by omega)]; omega
          have hw2 : IntKind.i64.wrap ((sq : Int) + 1) = (cq : Int) := by rw [IntWalk.i64_in _ (by omega)]; omega
          have hw6 : IntKind.i64.wrap (sq : Int) = (sq : Int) := IntWalk.i64_in _ (by omega)
          have hw7 : IntKind.i64.wrap (cq : Int) = (cq : Int) := IntWalk.i64_in _ (by omega)
          have HCB := Lib.hid (show zq ≤ cq ∧ cq ≤ 1099511627776 by omega)
          have hmk := fun W => run_make_room64 (P := Tryz.prog) W 33 31 i0 Tryz.underlying33 H1.out H2.out H3.out H4.out zq cq HCB.out.1 HCB.out.2
          have HFIN : Hid (∀ os, val os = val (lim X') * 2 ^ rq → val (List.replicate zq 0 ++ os) = G) := Lib.hid (fun os h => by
            rw [val_lim, ← hrq] at h
            rw [← hzq, gcd_fin h, HGF.out, hqm, ← HGG'.out, Nat.gcd_self])
          have HZB := Lib.hid (Bd.replicate B64_pos zq)
          have HEXS := Lib.hid hex.size
          clear hqm hzq hrq hsq hcq hx hy hk hex
          go_wp2_with fail
          go_region_held3 (fun _ => True) (trivial)
            (first
              | (go_at_call 110; refine (left_calls (HX'.out.sl.old (((Ext.refl wr).drew).alloc _)) (by omega) rq hrb).mono ?_; rintro e w21 ⟨o21, os21, hos21, rfl, hown21, hext21⟩; obtain ⟨b21, f21, rfl, hB21, hlt21⟩ := hown21.some_ (by omega); have R21 := Lib.hid (World.ownsRow.kept (make_row wr.drew 31 zq cq HCB.out.1 HCB.out.2) (hext21.by_ none) (Classical.em _)))
              | (go_at_call 110; refine (left_calls (HX'.out.sl.old ((Ext.refl wr).drew)) (by omega) rq hrb).mono ?_; rintro e w21 ⟨o21, os21, hos21, rfl, hown21, hext21⟩; obtain ⟨b21, f21, rfl, hB21, hlt21⟩ := hown21.some_ (by omega))
              | (refine step_append_lies _ (by rfl) _ _ 33 (by rfl) wr.heap.size 31 i0 (.int .u64 0) 1 8 Tryz.underlying33 H1.out H2.out H3.out H4.out rfl (by decide) (.slice (some ⟨wr.heap.size, 0, none⟩) zq cq) zq (row64 (List.replicate zq 0)) (by rfl) R21.out ⟨b21, f21, none⟩ (nx + 1) (nx + 1) (row64 os21) (by rfl) (by simp [row64, hown21.sl.len]) (sl_news hown21.sl) (oneCell_u64 _) (by omega) (by unfold maxLen; omega) (by omega) (by have := hext21.size; have : (wr.drew.alloc (.cells (madeCells #[.int .u64 0] cq) 31)).heap.size = wr.drew.heap.size + 1 := World.size_alloc ..; have : wr.drew.heap.size = wr.heap.size := rfl; omega) _ rfl ?_; intro g22 c22 w22 hown22 hgrow22 hat22 hlt22; have OWNF := Lib.hid ((row_own hown22 HZB.out hown21.sl.bd).mono HEXS.out); have EXF := Lib.hid (Ext.trans (HEX.out.drew.alloc _) hext21 |>.grown'' hgrow22 HEXS.out))
              | (refine step_append_lies _ (by rfl) _ _ 33 (by rfl) w21.heap.size 31 i0 (.int .u64 0) 1 8 Tryz.underlying33 H1.out H2.out H3.out H4.out rfl (by decide) (.slice (some ⟨w21.heap.size, 0, none⟩) zq cq) zq (row64 (List.replicate zq 0)) (by rfl) (make_row w21 31 zq cq HCB.out.1 HCB.out.2) ⟨b21, f21, none⟩ (nx + 1) (nx + 1) (row64 os21) (by rfl) (by simp [row64, hown21.sl.len]) (sl_news (hown21.sl.old ((Ext.refl _).alloc _))) (oneCell_u64 _) (by omega) (by unfold maxLen; omega) (by omega) (by have : (w21.alloc (.cells (madeCells #[.int .u64 0] cq) 31)).heap.size = w21.heap.size + 1 := World.size_alloc ..; omega) _ rfl ?_; intro g22 c22 w22 hown22 hgrow22 hat22 hlt22; have OWNF := Lib.hid ((row_own hown22 HZB.out hown21.sl.bd).mono (Nat.le_trans HEXS.out hext21.size)); have EXF := Lib.hid (((HEX.out.drew.trans hext21).alloc _).grown'' hgrow22 (Nat.le_trans HEXS.out hext21.size)))
              | (go_at_call 99; refine (trimmed_calls OWNF.out.sl).mono ?_; rintro e w23 ⟨rfl, rfl⟩))
          all_goals (
            have hfin := OWNF.out.trimmed
            have hvf := HFIN.out _ hos21
            have HFO : Hid (Own w.heap.size w22 (some ⟨g22, 0, none⟩) (lim G).length (lim G).length (lim G)) := Lib.hid (by rw [hvf] at hfin; exact hfin)
            have HVF := Lib.hid hvf
            clear hfin hvf
            go_wp2_with fail
            go_ret
            exact ⟨_, _, _, by rw [HVF.out]; rfl, HFO.out, EXF.out, HGL.out⟩)
        · rw [cmpN_gt h]
          have hK0 := h
          have CL := Lib.hid (less_calls hx hy.sl (.inr (.inr (Ne.symm HXY.out))) (by omega) (by rw [← hx.sl.len, ← hy.sl.len]; exact digs_len_mono B64_two (Nat.le_of_lt hK0)) (by rw [val_lim, val_lim]; exact Nat.le_of_lt hK0))
          have HLT := Lib.hid hK0
          clear hK0
          go_wp2_with fail
          refine CL.out.mono ?_
          rintro e w8 ⟨os, hos, rfl, hown8, hgr8⟩
          rw [val_lim, val_lim] at hos
          have HOS := Lib.hid hos
          have HS8 := Lib.hid (hy.grown hgr8 (.inr (Ne.symm HXY.out)))
          have E8 := hex.grown' hx (Nat.le_refl _) hgr8
          have CT := Lib.hid (trimmed_calls hown8.sl)
          have hl8 := hown8.sl.trimmed_len
          have CO := odd_calls hown8.trimmed (by omega) (by rw [val_lim, hos]; have := HLT.out; omega) (HTZ.out.old E8)
          rw [val_lim] at CO
          have HCO := Lib.hid CO
          have HO8 := Lib.hid hown8.trimmed
          clear CO hos hown8
          go_wp2_with fail
          refine CT.out.mono ?_
          rintro e w9 ⟨rfl, rfl⟩
          go_wp2_with fail
          refine HCO.out.mono ?_
          rintro e w10 ⟨o10, K, l10, q10, rfl, hb10, ho10, hgr10, hK, hX10, hn10, hq10⟩
          rw [HOS.out] at hX10
          have hS10 := HS8.out.grown hgr10 (.inr (Ne.symm HXY.out))
          have E10 := E8.grown' HO8.out (Nat.le_refl _) hgr10
          have CC := cmp_calls ho10.sl hS10.sl (by omega) (by omega)
          rw [val_lim, val_lim] at CC
          have HCC := Lib.hid CC
          have HG10 := Lib.hid (gcd_round HO2'.out HLT.out hX10)
          have HK1 := Lib.hid (odd_le hX10)
          have HNB : Hid (blk o10 ≠ blk y) := Lib.hid (by rw [hb10]; exact Ne.symm (Ne.symm HXY.out))
          have HO10 := Lib.hid ho10; have HS10 := Lib.hid hS10; have HE10 := Lib.hid E10; have HK := Lib.hid hK
          clear CC hX10 ho10 hS10 E10 hb10 hK
          go_wp2_with fail
          refine HCC.out.mono ?_
          rintro e w11 ⟨rfl, k11, rfl⟩
          go_wp2_with fail
          go_roundg (K + Y')
          case measure => have := HK1.out; have := HLT.out; have := HO2'.out; omega
          case rel => exact ⟨o10, _, l10, _, l10, _, K, Y', rfl, rfl, rfl, HO10.out.old ((Ext.refl _).drewN k11), HS10.out.old ((Ext.refl _).drewN k11), HNB.out, HK.out, HO2'.out, (by rw [HG10.out]; exact HGG'.out), rfl, HE10.out.drewN k11, by omega, by omega⟩

end Go.Proofs.YtimcnhlcepemjaaGreatDoor

/- Fractions: plain numbers. -/
namespace Go.Proofs.YtimcnhlcepemjaaGreatDoor

/-- A fraction, reduced. -/
def rN (X Y : Nat) : Nat := X / Nat.gcd X Y
def rD (X Y : Nat) : Nat := Y / Nat.gcd X Y
/-- A fraction as it is read: without a denominator it is 0. -/
def dN (X Y : Nat) : Nat := if Y = 0 then 0 else X
def dD (Y : Nat) : Nat := if Y = 0 then 1 else Y
theorem dD_pos (Y : Nat) : 0 < dD Y := by unfold dD; split <;> omega

theorem gcd_posR {X Y : Nat} (h : 0 < Y) : 0 < Nat.gcd X Y := Nat.gcd_pos_of_pos_right _ h
theorem rN_mul (X Y : Nat) : rN X Y * Nat.gcd X Y = X := Nat.div_mul_cancel (Nat.gcd_dvd_left X Y)
theorem rD_mul (X Y : Nat) : rD X Y * Nat.gcd X Y = Y := Nat.div_mul_cancel (Nat.gcd_dvd_right X Y)
theorem rD_pos {X Y : Nat} (h : 0 < Y) : 0 < rD X Y := by
  rcases Nat.eq_zero_or_pos (rD X Y) with h0 | h0
  · have := rD_mul X Y
    rw [h0] at this; omega
  · exact h0
theorem r_cross (X Y : Nat) : rN X Y * Y = X * rD X Y := by
  have h1 := rN_mul X Y
  have h2 := rD_mul X Y
  generalize rN X Y = x at *
  generalize rD X Y = y at *
  generalize Nat.gcd X Y = g at *
  subst h1 h2
  grind
theorem r_cop {X Y : Nat} (h : 0 < Y) : Nat.gcd (rN X Y) (rD X Y) = 1 := by
  have h1 := rN_mul X Y
  have h2 := rD_mul X Y
  have hg := gcd_posR (X := X) h
  have e : Nat.gcd (rN X Y) (rD X Y) * Nat.gcd X Y = 1 * Nat.gcd X Y := by
    rw [← Nat.gcd_mul_right, h1, h2, Nat.one_mul]
  exact Nat.eq_of_mul_eq_mul_right hg e
theorem r_le (X Y : Nat) : rN X Y ≤ X ∧ rD X Y ≤ Y := ⟨Nat.div_le_self _ _, Nat.div_le_self _ _⟩
theorem r_uniq {X Y X' Y' : Nat} (h : 0 < Y) (h' : 0 < Y') (e : X * Y' = X' * Y) : rN X Y = rN X' Y' ∧ rD X Y = rD X' Y' := by
  have c1 := r_cross X Y
  have c2 := r_cross X' Y'
  have g1 : Nat.Coprime (rN X Y) (rD X Y) := r_cop h
  have g2 : Nat.Coprime (rN X' Y') (rD X' Y') := r_cop h'
  generalize rN X Y = x at *
  generalize rD X Y = y at *
  generalize rN X' Y' = x' at *
  generalize rD X' Y' = y' at *
  have k : x * y' = x' * y := by
    have : x * y' * (Y * Y') = x' * y * (Y * Y') := by grind
    exact Nat.eq_of_mul_eq_mul_right (Nat.mul_pos h h') this
  constructor
  · exact Nat.dvd_antisymm (g1.dvd_of_dvd_mul_right ⟨y', k.symm⟩) (g2.dvd_of_dvd_mul_right ⟨y, k⟩)
  · exact Nat.dvd_antisymm (g1.symm.dvd_of_dvd_mul_left ⟨x', by rw [k, Nat.mul_comm]⟩) (g2.symm.dvd_of_dvd_mul_left ⟨x, by rw [← k, Nat.mul_comm]⟩)
theorem r_id {X Y : Nat} (h : Nat.gcd X Y = 1) : rN X Y = X ∧ rD X Y = Y := by
  unfold rN rD; rw [h]; simp
/-! The laws. -/
end Go.Proofs.YtimcnhlcepemjaaGreatDoor

/- Fractions as numbers of the field of fractions: what the sums, products and quotients of reduced fractions are worth. -/
namespace Go.Proofs.YtimcnhlcepemjaaGreatDoor

/-- The sum of two fractions as they are read, reduced; the product; the quotient (nought where the divisor is nought); the fraction itself. -/
def addR (p q : Nat × Nat) : Nat × Nat :=
  (rN (dN p.1 p.2 * dD q.2 + dN q.1 q.2 * dD p.2) (dD p.2 * dD q.2), rD (dN p.1 p.2 * dD q.2 + dN q.1 q.2 * dD p.2) (dD p.2 * dD q.2))
def mulR (p q : Nat × Nat) : Nat × Nat := (rN (dN p.1 p.2 * dN q.1 q.2) (dD p.2 * dD q.2), rD (dN p.1 p.2 * dN q.1 q.2) (dD p.2 * dD q.2))
def quoR (p q : Nat × Nat) : Nat × Nat :=
  if dN q.1 q.2 = 0 then (0, 1) else (rN (dN p.1 p.2 * dD q.2) (dD p.2 * dN q.1 q.2), rD (dN p.1 p.2 * dD q.2) (dD p.2 * dN q.1 q.2))
/-- What a fraction is worth. -/
def tQ (p : Nat × Nat) : Rat := (dN p.1 p.2 : Rat) / (dD p.2 : Rat)
/-- It is reduced, and has a denominator. -/
def Can (p : Nat × Nat) : Prop := 0 < p.2 ∧ Nat.gcd p.1 p.2 = 1

theorem castne {n : Nat} (h : 0 < n) : (n : Rat) ≠ 0 := by
  intro e
  have := Rat.natCast_eq_zero_iff.1 e
  omega
theorem dDne (Y : Nat) : ((dD Y : Nat) : Rat) ≠ 0 := castne (dD_pos Y)
theorem dN_pos {X Y : Nat} (h : 0 < Y) : dN X Y = X := by unfold dN; rw [if_neg (by omega)]
theorem dD_of {Y : Nat} (h : 0 < Y) : dD Y = Y := by unfold dD; rw [if_neg (by omega)]
theorem tQ_pos {X Y : Nat} (h : 0 < Y) : tQ (X, Y) = (X : Rat) / (Y : Rat) := by
  unfold tQ; simp only; rw [dN_pos h, dD_of h]
theorem can_r {X Y : Nat} (h : 0 < Y) : Can (rN X Y, rD X Y) := ⟨rD_pos h, r_cop h⟩
theorem tQ_r {X Y : Nat} (h : 0 < Y) : tQ (rN X Y, rD X Y) = (X : Rat) / (Y : Rat) := by
  rw [tQ_pos (rD_pos h)]
  have c := r_cross X Y
  have h1 := castne (rD_pos (X := X) h)
  have h2 := castne h
  have c' : ((rN X Y * Y : Nat) : Rat) = ((X * rD X Y : Nat) : Rat) := by rw [c]
  rw [Rat.natCast_mul, Rat.natCast_mul] at c'
  generalize ((rN X Y : Nat) : Rat) = a at *
  generalize ((rD X Y : Nat) : Rat) = b at *
  generalize (X : Rat) = x at *
  generalize (Y : Rat) = y at *
  grind
theorem Can.eq {p q : Nat × Nat} (hp : Can p) (hq : Can q) (h : tQ p = tQ q) : p = q := by
  obtain ⟨a, b⟩ := p
  obtain ⟨c, d⟩ := q
  obtain ⟨h1, h2⟩ := hp
  obtain ⟨h3, h4⟩ := hq
  simp only at h1 h2 h3 h4
  rw [tQ_pos h1, tQ_pos h3] at h
  have e1 := castne h1
  have e2 := castne h3
  have e : (a : Rat) * (d : Rat) = (c : Rat) * (b : Rat) := by grind
  rw [← Rat.natCast_mul, ← Rat.natCast_mul, Rat.natCast_inj] at e
  have u := r_uniq h1 h3 e
  rw [(r_id h2).1, (r_id h2).2, (r_id h4).1, (r_id h4).2] at u
  rw [u.1, u.2]
theorem can_one : Can (0, 1) := ⟨by decide, by decide⟩
theorem can_add (p q : Nat × Nat) : Can (addR p q) := can_r (Nat.mul_pos (dD_pos _) (dD_pos _))
theorem can_mul (p q : Nat × Nat) : Can (mulR p q) := can_r (Nat.mul_pos (dD_pos _) (dD_pos _))
theorem can_quo (p q : Nat × Nat) : Can (quoR p q) := by
  unfold quoR
  split
  · exact can_one
  · rename_i h; exact can_r (Nat.mul_pos (dD_pos _) (Nat.pos_of_ne_zero h))
theorem tQ_one : tQ (0, 1) = 0 := by rw [tQ_pos (by decide)]; grind
theorem tQ_nil : tQ (0, 0) = 0 := by unfold tQ dN dD; simp only [if_true]; grind
theorem tQ_add (p q : Nat × Nat) : tQ (addR p q) = tQ p + tQ q := by
  unfold addR
  rw [tQ_r (Nat.mul_pos (dD_pos _) (dD_pos _))]
  unfold tQ
  have h1 := dDne p.2
  have h2 := dDne q.2
  rw [Rat.natCast_add, Rat.natCast_mul, Rat.natCast_mul, Rat.natCast_mul]
  generalize ((dN p.1 p.2 : Nat) : Rat) = a at *
  generalize ((dD p.2 : Nat) : Rat) = b at *
  generalize ((dN q.1 q.2 : Nat) : Rat) = x at *
  generalize ((dD q.2 : Nat) : Rat) = y at *
  grind
theorem tQ_mul (p q : Nat × Nat) : tQ (mulR p q) = tQ p * tQ q := by
  unfold mulR
  rw [tQ_r (Nat.mul_pos (dD_pos _) (dD_pos _))]
  unfold tQ
  have h1 := dDne p.2
  have h2 := dDne q.2
  rw [Rat.natCast_mul, Rat.natCast_mul]
  generalize ((dN p.1 p.2 : Nat) : Rat) = a at *
  generalize ((dD p.2 : Nat) : Rat) = b at *
  generalize ((dN q.1 q.2 : Nat) : Rat) = x at *
  generalize ((dD q.2 : Nat) : Rat) = y at *
  grind
theorem tQ_quo (p q : Nat × Nat) : tQ (quoR p q) = tQ p / tQ q := by
  unfold quoR
  split
  · rename_i h
    rw [tQ_one]
    unfold tQ
    rw [h]
    grind
  · rename_i h
    rw [tQ_r (Nat.mul_pos (dD_pos _) (Nat.pos_of_ne_zero h))]
    unfold tQ
    have h1 := dDne p.2
    have h2 := dDne q.2
    have h3 := castne (Nat.pos_of_ne_zero h)
    rw [Rat.natCast_mul, Rat.natCast_mul]
    generalize ((dN p.1 p.2 : Nat) : Rat) = a at *
    generalize ((dD p.2 : Nat) : Rat) = b at *
    generalize ((dN q.1 q.2 : Nat) : Rat) = x at *
    generalize ((dD q.2 : Nat) : Rat) = y at *
    grind
end Go.Proofs.YtimcnhlcepemjaaGreatDoor
