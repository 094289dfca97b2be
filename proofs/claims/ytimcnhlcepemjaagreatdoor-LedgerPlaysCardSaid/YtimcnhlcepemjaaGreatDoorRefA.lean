
/- gleanref1: the reference's digits of 32 bits: trim, digits, number, Norm, Of. -/
import Derived.Test.YtimcnhlcepemjaaGreatDoorMA
import Derived.Deep.AppendLies
import Derived.Test.YtimcnhlcepemjaaGreatDoorMB
namespace Go.Proofs.YtimcnhlcepemjaaGreatDoor
open Go.RowKit

/-- The base of the reference's digits. -/
def B32 : Nat := 4294967296
theorem B32_eq : B32 = 4294967296 := rfl
theorem B32_two : 2 ≤ B32 := by decide
theorem B32_pos : 0 < B32 := by decide
theorem B32_lt : B32 ≤ B64 := by decide
theorem B32_sq : B32 * B32 = B64 := by decide
def dig (n : Nat) : List Nat := digs B32 n
def rval (ds : List Nat) : Nat := nv B32 ds
theorem rval_dig (n : Nat) : rval (dig n) = n := nv_digs B32_two n
theorem bd_dig (n : Nat) : Bd B32 (dig n) := bd_digs B32_two n
theorem Bd.wide {ds : List Nat} (h : Bd B32 ds) : Bd B64 ds := fun x hx => Nat.lt_of_lt_of_le (h x hx) B32_lt
theorem trimL_dig {ds : List Nat} (h : Bd B32 ds) : trimL ds = dig (rval ds) := trimL_digs B32_two h

theorem sliceAt_to {P : Program} {T E : TypeId} {i : TypeInfo} (hT : P.underlying T = some (.slice E)) (hi : P.info? E = some i) (a : Option Addr) (n c k : Nat) (hk : k ≤ c) (w : World) :
    (Instr.sliceAt T (.slice a n c) none (some (.int .i64 (k : Int))) none).run P w = .ok (.slice a k c) w := by
  have hr := run_sizeOf hi w
  have h1 : (0 : Int) ≤ (k : Int) ∧ (k : Int) ≤ (c : Int) := ⟨by omega, by omega⟩
  simp [Instr.sliceAt, Instr.slice, run_underlying hT, Instr.sliceBounds, Instr.sliceBound, asIntOf, hk, hr, opt_add_zero]

set_option maxHeartbeats 400000 in
theorem rtrim_calls {a : Option Addr} {n c : Nat} {xs : List Nat} {w : World} (h : Sl w a n c xs) :
    Calls Tryz.prog 134 #[.slice a n c] w (Ret (.slice a (trimL xs).length c) w) := by
  obtain ⟨i0, hi, _, hs, _⟩ := info_parts info64
  obtain ⟨b, off, hix, hcell, -⟩ := h.ix Tryz.underlying32 hi hs
  have hn : n ≤ 9223372036854775807 := Nat.le_trans h.cap h.big
  have hnc := h.cap
  have HL := Lib.hid h.len
  have HC := Lib.hid hcell
  have HX := Lib.hid hix
  have HS := Lib.hid (sliceAt_to (P := Tryz.prog) Tryz.underlying32 hi a n c)
  clear hix hcell h hi hs
  go_enter Tryz.func134, Tryz.ntmps134
  go_wp2
  go_loop [3] (fun i => ∃ k : Nat, k ≤ n ∧ i = .int .i64 k ∧ (trimL xs).length ≤ k) (fun i => (intOf i).toNat)
  case atStart => exact ⟨n, Nat.le_refl _, rfl, by rw [← HL.out]; exact trimL_len xs⟩
  case round =>
    obtain ⟨k, hk, rfl, ht⟩ := hrel
    have HT := Lib.hid ht
    clear ht
    have hsl := HS.out k (by omega)
    by_cases h0 : k = 0
    · subst h0
      have e := Lib.hid (trimL_len_eq xs 0 HT.out (by omega) (.inl rfl))
      go_wp2
      go_ret
      exact ⟨by rw [e.out]; rfl, rfl⟩
    · have hc1 := HC.out (k - 1) (by omega)
      have hx1 := HX.out (k - 1) (by omega)
      rw [show ((k - 1 : Nat) : Int) = (k : Int) - 1 by omega] at hx1
      have hb1 : 0 < k := by omega
      by_cases hz : xs.getD (k - 1) 0 = 0
      · rw [hz] at hc1
        have HZ := Lib.hid hz
        clear hz
        go_wp2
        go_round
        case rel => exact ⟨k - 1, by omega, by go_num, trimL_len_step xs (k - 1) (by have := HT.out; omega) (by rw [HL.out]; omega) HZ.out⟩
        case measure => simp [intOf]; omega
      · have e := Lib.hid (trimL_len_eq xs k HT.out (by rw [HL.out]; exact hk) (.inr hz))
        have hz' : (((xs.getD (k - 1) 0 : Nat) : Int) == 0) = false := by rw [beq_eq_false_iff_ne]; omega
        clear hz
        generalize xs.getD (k - 1) 0 = z at *
        go_wp2
        go_ret
        exact ⟨by rw [e.out]; rfl, rfl⟩

/-- The slice that trim leaves. -/
theorem Sl.rtrim {w : World} {a : Option Addr} {n c : Nat} {xs : List Nat} (h : Sl w a n c xs) : Sl w a (trimL xs).length c (trimL xs) := by
  have hl := trimL_len xs
  have hc := h.cap
  have hln := h.len
  have := h.head (trimL xs).length c (by omega) (by omega) (Nat.le_refl _)
  rw [← trimL_eq_take] at this
  exact this
theorem Own.rtrim {B : Nat} {w : World} {a : Option Addr} {n c : Nat} {xs : List Nat} (h : Own B w a n c xs) : Own B w a (trimL xs).length c (trimL xs) := ⟨h.sl.rtrim, h.row⟩

/-- Each limb in two. -/
def halves32 (xs : List Nat) : List Nat := xs.flatMap fun x => [x % B32, x / B32]
theorem halves32_cons (x : Nat) (xs : List Nat) : halves32 (x :: xs) = (x % B32) :: (x / B32) :: halves32 xs := rfl
theorem halves32_append (xs ys : List Nat) : halves32 (xs ++ ys) = halves32 xs ++ halves32 ys := List.flatMap_append ..
theorem halves32_len (xs : List Nat) : (halves32 xs).length = 2 * xs.length := by
  induction xs with
  | nil => rfl
  | cons x xs ih => rw [halves32_cons, List.length_cons, List.length_cons, ih, List.length_cons]; omega
theorem halves32_val (xs : List Nat) : rval (halves32 xs) = val xs := by
  unfold rval val
  induction xs with
  | nil => rfl
  | cons x xs ih =>
    rw [halves32_cons]
    simp only [nv]
    rw [ih]
    have h := Nat.mod_add_div x B32
    have hq := B32_sq
    generalize nv B64 xs = V at *
    rw [Nat.mul_add, ← Nat.mul_assoc, hq]
    omega
theorem halves32_bd {xs : List Nat} (h : Bd B64 xs) : Bd B32 (halves32 xs) := by
  induction xs with
  | nil => exact Bd.nil _
  | cons x xs ih =>
    rw [halves32_cons]
    refine Bd.cons (Nat.mod_lt _ B32_pos) (Bd.cons ?_ (ih h.tail))
    rw [Nat.div_lt_iff_lt_mul B32_pos, B32_sq]; exact h.head
theorem take_succ_getD {xs : List Nat} {k : Nat} (h : k < xs.length) : xs.take (k + 1) = xs.take k ++ [xs.getD k 0] := by
  rw [List.take_succ_eq_append_getElem h, getD_of_lt h]

def cells64 (ys : List Nat) : List Value := ys.map fun x : Nat => Value.int .u64 (x : Int)
def DigRel (w : World) (n : Nat) (xs : List Nat) (sv iv : Value) (wr : World) : Prop :=
  ∃ k : Nat, k ≤ n ∧ iv = .int .i64 (k : Int) ∧ wr.ownsRow w.heap.size 31 1 sv (2 * k) (cells64 (halves32 (xs.take k))) ∧ Ext w wr

theorem pair_cells (wr : World) (lo hi : Nat) : ∀ (j : Nat) u, [Value.int .u64 (lo : Int), Value.int .u64 (hi : Int)][j]? = some u → ((wr.alloc (.cells #[.int .u64 (lo : Int), .int .u64 (hi : Int)] 31)).drew).cell? ((⟨wr.heap.size, 0, none⟩ : Addr).add j) = some u := by
  intro j u hj
  have hc := heap_alloc_new wr (.cells #[.int .u64 (lo : Int), .int .u64 (hi : Int)] 31)
  have hadd : (⟨wr.heap.size, 0, none⟩ : Addr).add j = ⟨wr.heap.size, j, none⟩ := by unfold Addr.add; split <;> simp_all
  have hc' : ((wr.alloc (.cells #[.int .u64 (lo : Int), .int .u64 (hi : Int)] 31)).drew).heap[wr.heap.size]? = some (.cells #[.int .u64 (lo : Int), .int .u64 (hi : Int)] 31 (0, 0)) := hc
  rw [hadd, cell_of_row _ _ _ _ _ _ hc']
  match j, hj with
  | 0, hj => simp at hj; subst hj; rfl
  | 1, hj => simp at hj; subst hj; rfl
theorem pair_one (lo hi : Nat) : ∀ u ∈ [Value.int .u64 (lo : Int), Value.int .u64 (hi : Int)], u.oneCell' = true := by
  intro u hu
  simp at hu
  rcases hu with rfl | rfl <;> rfl
theorem row_slice' {w : World} {b e z : Nat} {v : Value} {n : Nat} {xs : List Value} (h : w.ownsRow b e z v n xs) : ∃ a c, v = .slice a n c := by
  rcases h.2 with ⟨rfl, rfl⟩ | ⟨g, cap, cur, rfl, _⟩
  · exact ⟨none, 0, rfl⟩
  · exact ⟨_, cap, rfl⟩

set_option maxHeartbeats 4000000 in
set_option maxRecDepth 100000 in
theorem digits_calls {a : Option Addr} {n c : Nat} {xs : List Nat} {w : World} (ha : Sl w a n c xs) (hn : n ≤ 1000000000) :
    Calls Tryz.prog 97 #[.slice a n c] w (New w (2 * n) (dig (val xs))) := by
  obtain ⟨i0, hi, hz0, hs, hby⟩ := info_parts info64
  have H1 := Lib.hid hi; have H2 := Lib.hid hz0; have H3 := Lib.hid hs; have H4 := Lib.hid hby
  clear hi hz0 hs hby
  have HL := Lib.hid ha.len
  go_enter Tryz.func97, Tryz.ntmps97
  go_wp2_with (at_make; refine wpList_make_own _ rfl _ _ 32 rfl w.heap.size 31 i0 (.int .u64 0) 1 Tryz.underlying32 H1.out H2.out H3.out _ _ _ (2 * n) rfl rfl (by omega) (by rw [H4.out]; omega) (by unfold maxLen; omega) (Nat.le_refl _) ?_; intro w1 hown1 hgrow1; have HG1 := Lib.hid hgrow1; have HO1 := Lib.hid hown1; clear hown1 hgrow1)
  go_loopw [3, 4] (fun sv iv wr => DigRel w n xs sv iv wr) (fun _ iv _ => n - (intOf iv).toNat)
  case atStart => exact ⟨0, by omega, rfl, HO1.out, Ext.grown HG1.out (fun k h => by cases h)⟩
  case round =>
    obtain ⟨k, hk, rfl, hrow, hex⟩ := hrel
    have HROW := Lib.hid hrow
    have HEX := Lib.hid hex
    obtain ⟨sa, sc, hsv⟩ := row_slice' hrow
    subst hsv
    clear hrow hex
    by_cases hkn : k = n
    · subst hkn
      have hbd := halves32_bd ha.bd
      have hrow := HROW.out
      rw [List.take_of_length_le (by rw [HL.out]; omega)] at hrow
      obtain ⟨a2, c2, hv2, ho2⟩ := Own.of_row (xs := halves32 xs) hrow hbd.wide
      injection hv2 with q1 q2 q3
      subst q1 q3
      have HO2 := Lib.hid ho2
      have hle : (trimL (halves32 xs)).length ≤ 2 * k := by have := trimL_len (halves32 xs); rw [halves32_len, HL.out] at this; exact this
      have HE := Lib.hid (trimL_dig hbd)
      rw [halves32_val] at HE
      clear hbd hrow ho2
      go_wp2_with fail
      refine (rtrim_calls HO2.out.sl).mono ?_
      rintro e w3 ⟨rfl, rfl⟩
      go_wp2_with fail
      go_ret
      have ho3 := HO2.out.rtrim
      rw [HE.out] at hle ho3
      exact ⟨sa, _, sc, by rw [HE.out]; rfl, ho3, HEX.out, hle⟩
    · have hlt : (k : Int) < (n : Int) := by omega
      obtain ⟨ba, oa, hixa, hca, -⟩ := ha.ix (P := Tryz.prog) Tryz.underlying33 H1.out H3.out
      have x1 := hixa k (by omega)
      have x2 := hca k (by omega)
      have q1 := ha.bd.getD B64_pos k
      have HT := Lib.hid (take_succ_getD (xs := xs) (k := k) (by rw [HL.out]; omega))
      clear hixa hca
      generalize xs.getD k 0 = u at *
      have hand : bits BinOp.and IntKind.u64 (u : Int) 4294967295 = ((u % B32 : Nat) : Int) := by
        have := bits_and_u64_nat u 4294967295 q1 (by decide)
        rw [show ((4294967295 : Nat) : Int) = 4294967295 from rfl] at this
        rw [this, B32_eq]
        congr 1
        exact Nat.and_two_pow_sub_one_eq_mod u 32
      have hshr : (u : Int) / 4294967296 = ((u / B32 : Nat) : Int) := by rw [B32_eq]; simp
      have HU1 : Hid (u % B32 = u % B32) := rfl
      obtain ⟨lo, hlo⟩ : ∃ lo, u % B32 = lo := ⟨_, rfl⟩
      obtain ⟨hi, hhi⟩ : ∃ hi, u / B32 = hi := ⟨_, rfl⟩
      rw [hlo] at hand; rw [hhi] at hshr
      have HLO := Lib.hid hlo; have HHI := Lib.hid hhi
      clear hlo hhi q1 HU1
      go_wp2_with fail
      have HX2 := Lib.hid (fun w' (h : Ext w w') => h.cell x2)
      clear x2
      have hgl : k ≤ 1000000000 := by omega
      go_region_held3 (fun w' => w'.cell? ⟨ba, oa + k, none⟩ = some (.int .u64 (u : Int)))
        (first | exact HX2.out _ HEX.out | exact HX2.out _ HEX.out.drew | exact HX2.out _ (HEX.out.alloc _).drew | exact HX2.out _ (by assumption))
        ((refine step_append_lies _ (by rfl) _ _ 32 (by rfl) w.heap.size 31 i0 (.int .u64 0) 1 8 Tryz.underlying32 H1.out H2.out H3.out H4.out rfl (by decide) (.slice sa (2 * k) sc) (2 * k) (cells64 (halves32 (xs.take k))) (by rfl) (World.ownsRow.kept HROW.out ((((Ext.refl wr).alloc _).drew).by_ none) (Classical.em _)) ⟨wr.heap.size, 0, none⟩ 2 2 [.int .u64 (lo : Int), .int .u64 (hi : Int)] (by rfl) rfl (pair_cells wr lo hi) (pair_one lo hi) (by decide) (by unfold maxLen; omega) (by omega) (HEX.out.alloc (.cells #[.int .u64 (lo : Int), .int .u64 (hi : Int)] 31)).drew.size _ rfl ?_; intro g5 c5 w5 hown5 hgrow5 hat5 hlt5; have E5 : Ext w w5 := (Below.grown (HEX.out.alloc _).drew hgrow5 (HEX.out.alloc _).drew.size (fun j hj => (World.ownsRow.lt HROW.out j hj).1))))
      go_wp2_with fail
      go_roundw
      case rel =>
        refine ⟨k + 1, by omega, by go_num, ?_, E5⟩
        rw [HT.out, halves32_append]
        have := hown5
        rw [show 2 * (k + 1) = 2 * k + 2 by omega]
        simpa [cells64, halves32, HLO.out, HHI.out] using this
      case measure => simp only [intOf]; omega

structure NumInv (ds os : List Nat) (M k : Nat) : Prop where
  len : os.length = M
  eq : val os = nv B32 (ds.take k)
  zero : ∀ j, (k + 1) / 2 ≤ j → os.getD j 0 = 0
  low : k % 2 = 1 → os.getD (k / 2) 0 < B32
theorem pow_B64 (j : Nat) : B64 ^ j = B32 ^ (2 * j) := by rw [Nat.pow_mul, Nat.pow_two, B32_sq]
theorem getD_set_ne {os : List Nat} {i j x : Nat} (h : i ≠ j) : (os.set i x).getD j 0 = os.getD j 0 := by
  rw [List.getD_eq_getElem?_getD, List.getD_eq_getElem?_getD, List.getElem?_set_ne h]
theorem getD_set_eq {os : List Nat} {i x : Nat} (h : i < os.length) : (os.set i x).getD i 0 = x := by
  rw [List.getD_eq_getElem?_getD, List.getElem?_set_self h]; rfl
theorem NumInv.even {ds os : List Nat} {M j : Nat} (h : NumInv ds os M (2 * j)) (hj : j < M) (hd : ds.getD (2 * j) 0 < B32) :
    NumInv ds (os.set j (ds.getD (2 * j) 0)) M (2 * j + 1) := by
  have hz := h.zero j (by omega)
  have hl := h.len
  refine ⟨by rw [List.length_set]; exact hl, ?_, fun i hi => ?_, fun _ => ?_⟩
  · have e := nv_set B64 os j (ds.getD (2 * j) 0) (by omega)
    rw [← getD_of_lt (by omega : j < os.length), hz, Nat.mul_zero, Nat.add_zero] at e
    unfold val
    rw [e, nv_take_succ', ← pow_B64]
    have := h.eq; unfold val at this; omega
  · rw [getD_set_ne (by omega)]; exact h.zero i (by omega)
  · rw [show (2 * j + 1) / 2 = j by omega, getD_set_eq (by omega)]; exact hd
theorem NumInv.odd {ds os : List Nat} {M j : Nat} (h : NumInv ds os M (2 * j + 1)) (hj : j < M) :
    NumInv ds (os.set j (os.getD j 0 + B32 * ds.getD (2 * j + 1) 0)) M (2 * j + 1 + 1) := by
  have hl := h.len
  refine ⟨by rw [List.length_set]; exact hl, ?_, fun i hi => ?_, fun hh => by omega⟩
  · have e := nv_set B64 os j (os.getD j 0 + B32 * ds.getD (2 * j + 1) 0) (by omega)
    rw [← getD_of_lt (by omega : j < os.length), Nat.mul_add] at e
    unfold val
    rw [nv_take_succ', Nat.pow_succ, ← pow_B64, Nat.mul_assoc]
    have := h.eq; unfold val at this; omega
  · rw [getD_set_ne (by omega)]; exact h.zero i (by omega)
theorem or_add {u d : Nat} (hu : u < B32) : u ||| (d * 4294967296) = u + B32 * d := by
  rw [Nat.or_comm, show d * 4294967296 = 2 ^ 32 * d by omega, ← Nat.two_pow_add_eq_or_of_lt (show u < 2 ^ 32 from hu), B32_eq]
  omega

def NumRel (w : World) (o : Option Addr) (M D : Nat) (ds : List Nat) (iv : Value) (wr : World) : Prop :=
  ∃ (k : Nat) (os : List Nat), k ≤ D ∧ iv = .int .i64 (k : Int) ∧ Own w.heap.size wr o M M os ∧ NumInv ds os M k ∧ Ext w wr

set_option maxHeartbeats 4000000 in
set_option maxRecDepth 100000 in
theorem number_calls {a : Option Addr} {n c : Nat} {xs : List Nat} {w : World} (ha : Sl w a n c xs) (hbd : Bd B32 xs) (hn : n ≤ 2000000000) :
    Calls Tryz.prog 98 #[.slice a n c] w (New w n (lim (rval xs))) := by
  obtain ⟨i0, hi, hz0, hs, hby⟩ := info_parts info64
  have H1 := Lib.hid hi; have H2 := Lib.hid hz0; have H3 := Lib.hid hs; have H4 := Lib.hid hby
  clear hi hz0 hs hby
  have HTR := Lib.hid (rtrim_calls ha)
  have hle := trimL_len xs
  rw [ha.len] at hle
  have hT := ha.rtrim
  have HNV := Lib.hid (nv_trimL B32 xs)
  have hbT := hbd.trimL
  have HNR := Lib.hid (trimL_nrm xs)
  generalize trimL xs = ds at *
  obtain ⟨D, hD⟩ : ∃ D, ds.length = D := ⟨_, rfl⟩
  rw [hD] at HTR hle hT
  obtain ⟨M, hM⟩ : ∃ M, (D + 1) / 2 = M := ⟨_, rfl⟩
  have HM := Lib.hid hM
  have HDL := Lib.hid hD
  have m1 : ((D : Int) + 1) / 2 = (M : Int) := by omega
  have m2 : ((D : Int) + 1).tdiv 2 = (M : Int) := by rw [Int.tdiv_eq_ediv_of_nonneg (by omega)]; exact m1
  clear hM hD ha hbd
  go_enter Tryz.func98, Tryz.ntmps98
  go_wp2_with fail
  refine HTR.out.mono ?_
  rintro e w1 ⟨rfl, rfl⟩
  go_wp2_with (at_make; refine make_sl _ rfl _ _ _ rfl _ _ Tryz.underlying33 H1.out H2.out H3.out H4.out _ _ rfl rfl M (by omega) (by omega) (by have := HM.out; omega) ?_)
  intro o w2 hown hext
  go_wp2_with fail
  go_loopw [4] (fun iv wr => NumRel w o M D ds iv wr) (fun iv _ => D - (intOf iv).toNat)
  case atStart => exact ⟨0, List.replicate M 0, by omega, rfl, hown, ⟨List.length_replicate .., by unfold val; rw [nv_replicate]; rfl, fun j _ => by rw [List.getD_eq_getElem?_getD, List.getElem?_replicate]; split <;> rfl, fun h => by omega⟩, hext⟩
  case round =>
    obtain ⟨k, os, hk, rfl, hown', hinv, hex⟩ := hrel
    have HOWN := Lib.hid hown'
    have HINV := Lib.hid hinv
    have HEX := Lib.hid hex
    clear hown' hinv hex
    by_cases hkD : k = D
    · subst hkD
      have hM64 : val os = rval xs := by
        have := HINV.out.eq
        rw [List.take_of_length_le (by rw [HDL.out]; omega), HNV.out] at this
        exact this
      have HV := Lib.hid hM64
      clear hM64
      have hos : os = lim (rval xs) := by
        have hl := HINV.out.len
        rw [← HV.out]
        refine (lim_eq_of HOWN.out.sl.bd ?_ rfl).symm
        intro hlast
        have hM0 : 0 < M := by
          rcases Nat.eq_zero_or_pos M with h | h
          · rw [List.eq_nil_of_length_eq_zero (by omega : os.length = 0)] at hlast; cases hlast
          · exact h
        have hD0 : ds ≠ [] := by
          intro h
          have := HDL.out; have := HM.out
          rw [h] at *
          simp at *
          omega
        have hge := nrm_ge B32_pos HNR.out hD0
        have hz : os.getD (M - 1) 0 = 0 := by
          rw [List.getLast?_eq_getElem?, hl] at hlast
          rw [List.getD_eq_getElem?_getD, hlast]; rfl
        have hlt : val os < B64 ^ (M - 1) := by
          have e := nv_take_succ' B64 os (M - 1)
          rw [hz, Nat.mul_zero, Nat.add_zero, show M - 1 + 1 = M by omega, List.take_of_length_le (by omega)] at e
          unfold val
          rw [e]
          have := nv_lt (HOWN.out.sl.bd.take (M - 1))
          rw [List.length_take, hl, Nat.min_eq_left (by omega)] at this
          exact this
        rw [HV.out, pow_B64] at hlt
        have h2 : B32 ^ (2 * (M - 1)) ≤ B32 ^ (ds.length - 1) := Nat.pow_le_pow_right B32_pos (by have := HDL.out; have := HM.out; omega)
        have h3 := HNV.out
        unfold rval at hlt
        omega
      have HO := Lib.hid hos
      clear hos
      go_wp2_with fail
      go_ret
      have ho := HOWN.out
      rw [HO.out] at ho
      exact ⟨o, M, M, rfl, ho, HEX.out, by have := HM.out; omega⟩
    · have hlt : (k : Int) < (D : Int) := by omega
      obtain ⟨bd, od, hixd, hcd, -⟩ := (hT.old HEX.out).ix (P := Tryz.prog) Tryz.underlying32 H1.out H3.out
      obtain ⟨bo, oo, hixo, hco, hao⟩ := HOWN.out.sl.ix (P := Tryz.prog) Tryz.underlying33 H1.out H3.out
      have HB := Lib.hid (hbT.getD B32_pos k)
      obtain ⟨j, hj⟩ : ∃ j, k = 2 * j ∨ k = 2 * j + 1 := ⟨k / 2, by omega⟩
      have hjM : j < M := by have := HM.out; omega
      have x1 := hixd k (by omega)
      have x2 := hcd k (by omega)
      have x3 := hixo j hjM
      have x4 := hco j hjM
      have x5 := HOWN.out.free (hao (by omega)) (oo + j)
      have HAO := Lib.hid (hao (by omega))
      clear hixd hcd hixo hco hao
      have wj : IntKind.i64.wrap (j : Int) = (j : Int) := IntWalk.i64_in _ (by omega)
      have f1 : (k : Int) / 2 = (j : Int) := by omega
      have f2 : (k : Int).tdiv 2 = (j : Int) := by rw [Int.tdiv_eq_ediv_of_nonneg (by omega)]; exact f1
      rcases hj with hj | hj
      · have HJ := Lib.hid hj
        have f3 : (k : Int) % 2 = 0 := by omega
        have f4 : (k : Int).tmod 2 = 0 := by rw [Int.tmod_eq_emod_of_nonneg (by omega)]; exact f3
        have HZ := Lib.hid (HINV.out.zero j (by omega))
        rw [HZ.out] at x4
        have HN := Lib.hid (show NumInv ds (os.set j (ds.getD k 0)) M (k + 1) by
          have h := HINV.out; have hb := HB.out
          subst hj
          exact h.even hjM hb)
        clear hj
        generalize ds.getD k 0 = d at *
        have hd64 : d < B64 := Nat.lt_of_lt_of_le HB.out B32_lt
        have HST := Lib.hid (HOWN.out.store HAO.out j d hjM hd64)
        have hd2 : d < 18446744073709551616 := hd64
        have hor : bits BinOp.or IntKind.u64 0 (d : Int) = (d : Int) := by
          have := bits_or_u64_nat 0 d (by decide) hd2
          rw [Nat.zero_or] at this; exact this
        have hsh : IntKind.u64.wrap (d : Int) = (d : Int) := IntWalk.u64_in _ (by omega)
        have HSH := Lib.hid hd2
        clear hd64 hd2
        go_wp2_with fail
        go_region
        go_wp2_with fail
        go_roundw
        case rel => exact ⟨k + 1, os.set j d, by omega, by go_num, HST.out.1.old (Ext.refl _).drew, HN.out, (Ext.grown' HEX.out HOWN.out (Nat.le_refl _) HST.out.2).drew⟩
        case measure => simp only [intOf]; omega
      · have HJ := Lib.hid hj
        have f3 : (k : Int) % 2 = 1 := by omega
        have f4 : (k : Int).tmod 2 = 1 := by rw [Int.tmod_eq_emod_of_nonneg (by omega)]; exact f3
        have HU := Lib.hid (show os.getD j 0 < B32 by
          have h := HINV.out.low (by omega)
          rwa [show k / 2 = j by omega] at h)
        have HN := Lib.hid (show NumInv ds (os.set j (os.getD j 0 + B32 * ds.getD k 0)) M (k + 1) by
          have h := HINV.out
          subst hj
          exact h.odd hjM)
        clear hj
        generalize ds.getD k 0 = d at *
        generalize os.getD j 0 = u at *
        obtain ⟨s, hs⟩ : ∃ s, d * 4294967296 = s := ⟨_, rfl⟩
        obtain ⟨v, hv⟩ : ∃ v, u + B32 * d = v := ⟨_, rfl⟩
        have hvB : v < B64 := by
          have h1 := HU.out; have h2 := HB.out
          rw [← hv, B64_eq]; rw [B32_eq] at *; omega
        have hor : bits BinOp.or IntKind.u64 (u : Int) (s : Int) = (v : Int) := by
          have h1 := HU.out; have h2 := HB.out
          rw [B32_eq] at h1 h2
          rw [bits_or_u64_nat u s (by omega) (by omega), ← hs, or_add HU.out, hv]
        have hsh : IntKind.u64.wrap ((d : Int) * 4294967296) = (s : Int) := by
          have h2 := HB.out
          rw [B32_eq] at h2
          rw [show ((d : Int) * 4294967296) = (s : Int) by omega]; exact IntWalk.u64_in _ (by omega)
        rw [hv] at HN
        have HST := Lib.hid (HOWN.out.store HAO.out j v hjM hvB)
        clear hvB hv hs
        go_wp2_with fail
        go_region
        go_wp2_with fail
        go_roundw
        case rel => exact ⟨k + 1, os.set j v, by omega, by go_num, HST.out.1.old (Ext.refl _).drew, HN.out, (Ext.grown' HEX.out HOWN.out (Nat.le_refl _) HST.out.2).drew⟩
        case measure => simp only [intOf]; omega

/-- Norm: new limbs. -/
theorem rnorm_calls {a : Option Addr} {n c : Nat} {xs : List Nat} {w : World} (ha : Sl w a n c xs) (hn : n ≤ 1000000000) :
    Calls Tryz.prog 96 #[.slice a n c] w (New w (2 * n) (lim (val xs))) := by
  have C := Lib.hid (digits_calls ha hn)
  go_enter Tryz.func96, Tryz.ntmps96
  go_wp2_with fail
  refine C.out.mono ?_
  rintro e w1 ⟨o, no, co, rfl, hown, hext, hno⟩
  go_wp2_with fail
  refine (number_calls hown.sl (bd_dig _) (by omega)).mono ?_
  rintro e w2 ⟨o2, no2, co2, rfl, hown2, hext2, hno2⟩
  rw [rval_dig] at hown2
  go_wp2_with fail
  go_ret
  exact ⟨o2, no2, co2, rfl, hown2.mono hext.size, hext.trans hext2, by omega⟩

end Go.Proofs.YtimcnhlcepemjaaGreatDoor

/- gleanref1: Of, Small, cmp, Cmp. -/
namespace Go.Proofs.YtimcnhlcepemjaaGreatDoor
open Go.RowKit

theorem alloc_size' (w : World) (o : Obj) : (w.alloc o).heap.size = w.heap.size + 1 := World.size_alloc ..
/-- The call returns v; of what was there nothing has turned. -/
theorem val_one (x : Nat) : val [x] = x := by simp [val, nv]

set_option maxRecDepth 100000 in
theorem fof_calls (x : Nat) (hx : x < B64) (w : World) : Calls Tryz.prog 65 #[.int .u64 (x : Int)] w (New w 2 (lim x)) := by
  have HO := Lib.hid (own_lit w.heap.size w x hx (Nat.le_refl _))
  have HC := Lib.hid (rnorm_calls HO.out.sl (by omega))
  rw [val_one] at HC
  clear hx
  go_enter Tryz.func65, Tryz.ntmps65
  go_wp2_with fail
  refine HC.out.mono ?_
  rintro e w2 ⟨o, n, c, rfl, hown, hext, hn⟩
  go_wp2_with fail
  go_ret
  exact ⟨o, n, c, rfl, hown.mono (by rw [alloc_size']; omega), ((Ext.refl _).alloc _).trans hext, by omega⟩

theorem cmp_top32 {us vs : List Nat} {L k : Nat} (hu : us.length = L) (hv : vs.length = L) (bu : Bd B32 us) (bv : Bd B32 vs) (hk : k < L) (hd : us.drop (k + 1) = vs.drop (k + 1)) :
    (us.getD k 0 < vs.getD k 0 → rval us < rval vs) ∧ (vs.getD k 0 < us.getD k 0 → rval vs < rval us) ∧ (us.getD k 0 = vs.getD k 0 → us.drop k = vs.drop k) := by
  rw [getD_of_lt (by omega : k < us.length), getD_of_lt (by omega : k < vs.length)]
  refine ⟨fun h => nv_lt_of_top bu (by omega) k (by omega) h hd, fun h => nv_lt_of_top bv (by omega) k (by omega) h hd.symm, fun h => ?_⟩
  rw [List.drop_eq_getElem_cons (by omega : k < us.length), List.drop_eq_getElem_cons (by omega : k < vs.length), h, hd]

set_option maxHeartbeats 2000000 in
set_option maxRecDepth 100000 in
theorem rdcmp_calls {a b : Option Addr} {m n c d : Nat} (X Y : Nat) {w : World} (ha : Sl w a m c (dig X)) (hb : Sl w b n d (dig Y)) :
    Calls Tryz.prog 135 #[.slice a m c, .slice b n d] w (RetD (.int .i64 (cmpN X Y)) w) := by
  obtain ⟨i0, hi, hz0, hs, hby⟩ := info_parts info64
  have H1 := Lib.hid hi; have H3 := Lib.hid hs
  clear hi hz0 hs hby
  have hlen1 := @digs_len_lt B32 B32_two X Y
  have hlen2 := @digs_len_lt B32 B32_two Y X
  change (dig X).length < (dig Y).length → X < Y at hlen1
  change (dig Y).length < (dig X).length → Y < X at hlen2
  have HBX := Lib.hid (bd_dig X); have HBY := Lib.hid (bd_dig Y)
  have HVX := Lib.hid (rval_dig X); have HVY := Lib.hid (rval_dig Y)
  have hA := ha.len; have hE := hb.len
  have hbig : m ≤ 9223372036854775807 := Nat.le_trans ha.cap ha.big
  generalize dig X = us at *
  generalize dig Y = vs at *
  rw [hA, hE] at hlen1 hlen2
  have HA := Lib.hid hA; have HE := Lib.hid hE
  have HL1 := Lib.hid hlen1; have HL2 := Lib.hid hlen2
  clear hA hE hlen1 hlen2
  rcases Nat.lt_trichotomy m n with h | h | h
  · have HR := Lib.hid (cmpN_lt (HL1.out h))
    have g1 : ((m : Int) == (n : Int)) = false := by rw [beq_eq_false_iff_ne]; omega
    have g2 : (m : Int) < (n : Int) := by omega
    clear h
    go_enter Tryz.func135, Tryz.ntmps135
    go_wp2_with fail
    go_ret
    exact ⟨by rw [HR.out]; rfl, 0, rfl⟩
  · subst h
    go_enter Tryz.func135, Tryz.ntmps135
    go_wp2_with fail
    go_loopw [5] (fun iv wr => CmpRel w m us vs iv wr) (fun iv _ => (intOf iv + 1).toNat)
    case atStart => exact ⟨m, Nat.le_refl _, by go_num, by rw [List.drop_of_length_le (by rw [HA.out]; omega), List.drop_of_length_le (by rw [HE.out]; omega)], 0, rfl⟩
    case round =>
      obtain ⟨k, hk, rfl, hdr, m0, hwr⟩ := hrel
      have HD := Lib.hid hdr
      have HW := Lib.hid hwr
      have hexr : Ext w wr := by rw [hwr]; exact (Ext.refl w).drewN m0
      clear hdr hwr
      by_cases hk0 : k = 0
      · subst hk0
        have he : us = vs := by have := HD.out; simpa using this
        have HR := Lib.hid (@cmpN_eq X Y (by rw [← HVX.out, ← HVY.out, he]))
        clear he
        go_wp2_with fail
        go_ret
        exact ⟨by rw [HR.out]; rfl, _, HW.out⟩
      · obtain ⟨j, rfl⟩ : ∃ j, k = j + 1 := ⟨k - 1, by omega⟩
        rw [show ((j + 1 : Nat) : Int) - 1 = (j : Int) by omega]
        obtain ⟨ba, oa, hixa, hca, -⟩  := (ha.old hexr).ix (P := Tryz.prog) Tryz.underlying32 H1.out H3.out
        obtain ⟨bb, ob, hixb, hcb, -⟩  := (hb.old hexr).ix (P := Tryz.prog) Tryz.underlying32 H1.out H3.out
        have x1 := hixa j (by omega)
        have x2 := hca j (by omega)
        have x3 := hixb j (by omega)
        have x4 := hcb j (by omega)
        have HT := Lib.hid (cmp_top32 HA.out HE.out HBX.out HBY.out (by omega) HD.out)
        clear hixa hca hixb hcb hk0
        have hj0 : (0 : Int) ≤ (j : Int) := by omega
        generalize us.getD j 0 = u at *
        generalize vs.getD j 0 = v at *
        rw [HVX.out, HVY.out] at HT
        rcases Nat.lt_trichotomy u v with h | h | h
        · have HR := Lib.hid (cmpN_lt (HT.out.1 h))
          have g1 : (u : Int) < (v : Int) := by omega
          clear h
          go_wp2_with fail
          go_quiet (fail)
          go_wp2_with fail
          go_ret
          exact ⟨by rw [HR.out]; rfl, m0 + nq, by rw [HW.out]; exact World.drewN_drewN _ _ _⟩
        · subst h
          have HN := Lib.hid (HT.out.2.2 rfl)
          go_wp2_with fail
          go_quiet (fail)
          go_wp2_with fail
          go_quiet (fail)
          go_wp2_with fail
          go_roundw
          case rel =>
            exact ⟨j, by omega, by go_num, HN.out, _, by rw [HW.out, World.drewN_drewN]⟩
          case measure => simp [intOf]
        · have HR := Lib.hid (cmpN_gt (HT.out.2.1 h))
          have g1 : ¬ (u : Int) < (v : Int) := by omega
          have g2 : (v : Int) < (u : Int) := by omega
          clear h
          go_wp2_with fail
          go_quiet (fail)
          go_wp2_with fail
          go_quiet (fail)
          go_wp2_with fail
          go_ret
          exact ⟨by rw [HR.out]; rfl, _, by rw [HW.out]; first | exact (World.drewN_drewN _ _ _) | (rw [World.drewN_drewN, World.drewN_drewN])⟩
  · have HR := Lib.hid (cmpN_gt (HL2.out h))
    have g1 : ((m : Int) == (n : Int)) = false := by rw [beq_eq_false_iff_ne]; omega
    have g2 : ¬ (m : Int) < (n : Int) := by omega
    clear h
    go_enter Tryz.func135, Tryz.ntmps135
    go_wp2_with fail
    go_ret
    exact ⟨by rw [HR.out]; rfl, 0, rfl⟩

end Go.Proofs.YtimcnhlcepemjaaGreatDoor

/- gleanref1.Add. -/
namespace Go.Proofs.YtimcnhlcepemjaaGreatDoor
open Go.RowKit

def RAddRel (w : World) (o : Option Addr) (M : Nat) (us vs : List Nat) (cv iv : Value) (wr : World) : Prop :=
  ∃ (k cr : Nat) (os : List Nat), k ≤ M ∧ iv = .int .i64 (k : Int) ∧ cv = .int .u64 (cr : Int) ∧ cr ≤ 1 ∧ Own w.heap.size wr o M M os ∧ Bd B32 os ∧ Ext w wr ∧
    nv B32 (os.take k) + B32 ^ k * cr = nv B32 (us.take k) + nv B32 (vs.take k)
/-- A round's digits. -/
theorem radd_digits {u v cr : Nat} (hu : u < B32) (hv : v < B32) (hc : cr ≤ 1) : (cr + u + v) % B32 < B32 ∧ (cr + u + v) / B32 ≤ 1 ∧ (cr + u + v) % B32 + B32 * ((cr + u + v) / B32) = u + v + cr := by
  refine ⟨Nat.mod_lt _ B32_pos, ?_, ?_⟩
  · rw [← Nat.lt_succ_iff, Nat.div_lt_iff_lt_mul B32_pos]; omega
  · have := Nat.mod_add_div (cr + u + v) B32; omega
theorem radd_step {os us vs : List Nat} {k cr u v s c' : Nat} (hk : k < os.length) (hu : us.getD k 0 = u) (hv : vs.getD k 0 = v)
    (h : nv B32 (os.take k) + B32 ^ k * cr = nv B32 (us.take k) + nv B32 (vs.take k)) (hs : s + B32 * c' = u + v + cr) :
    nv B32 ((os.set k s).take (k + 1)) + B32 ^ (k + 1) * c' = nv B32 (us.take (k + 1)) + nv B32 (vs.take (k + 1)) := by
  rw [nv_take_set B32 os k s hk, nv_take_succ', nv_take_succ', hu, hv, Nat.pow_succ]
  exact add_round h hs
theorem rand_half (s : Nat) (hs : s < B64) : bits BinOp.and IntKind.u64 (s : Int) 4294967295 = ((s % B32 : Nat) : Int) := by
  have := bits_and_u64_nat s 4294967295 hs (by decide)
  rw [show ((4294967295 : Nat) : Int) = 4294967295 from rfl] at this
  rw [this, B32_eq]
  congr 1
  exact Nat.and_two_pow_sub_one_eq_mod s 32
theorem rshr_half (s : Nat) : (s : Int) / 4294967296 = ((s / B32 : Nat) : Int) := by rw [B32_eq]; simp
set_option maxHeartbeats 8000000 in
set_option maxRecDepth 100000 in
theorem fadd_calls {a b : Option Addr} {m n c d : Nat} {xs ys : List Nat} {w : World} (ha : Sl w a m c xs) (hb : Sl w b n d ys) (hm : m ≤ 400000000) (hn : n ≤ 400000000) :
    Calls Tryz.prog 74 #[.slice a m c, .slice b n d] w (New w (2 * m + 2 * n + 1) (lim (val xs + val ys))) := by
  obtain ⟨i0, hi, hz0, hs, hby⟩ := info_parts info64
  have H1 := Lib.hid hi; have H2 := Lib.hid hz0; have H3 := Lib.hid hs; have H4 := Lib.hid hby
  clear hi hz0 hs hby
  have HB := Lib.hid hb
  have CA := Lib.hid (digits_calls ha (by omega))
  generalize val xs = X at *
  clear ha hb
  go_enter Tryz.func74, Tryz.ntmps74
  go_wp2_with fail
  refine CA.out.mono ?_
  rintro e w1 ⟨o1, m1, c1, rfl, hown1, hext1, hno1⟩
  have CB := Lib.hid (digits_calls (HB.out.old hext1) (by omega))
  generalize val ys = Y at *
  go_wp2_with fail
  refine CB.out.mono ?_
  rintro e w2 ⟨o2, n1, c2, rfl, hown2, hext2, hno2⟩
  have hA := hown1.sl.old hext2
  have hB := hown2.sl
  have HEX := Lib.hid (hext1.trans hext2)
  have HLA := Lib.hid hA.len; have HLB := Lib.hid hB.len
  have HBU := Lib.hid (bd_dig X); have HBV := Lib.hid (bd_dig Y)
  have HVU := Lib.hid (rval_dig X); have HVV := Lib.hid (rval_dig Y)
  generalize dig X = us at *
  generalize dig Y = vs at *
  clear hown1 hown2 hext1 hext2
  obtain ⟨M, hM⟩ : ∃ M, max m1 n1 + 1 = M := ⟨_, rfl⟩
  have g1 : (max (m1 : Int) (n1 : Int)) + 1 = (M : Int) := by omega
  have HM := Lib.hid hM
  have hMb : M ≤ 2000000000 := by omega
  have hMm : m1 < M := by omega
  have hMn : n1 < M := by omega
  clear hM
  go_wp2_with (at_make; refine make_sl _ rfl _ _ _ rfl _ _ Tryz.underlying32 H1.out H2.out H3.out H4.out _ _ rfl rfl M (by omega) (by omega) (by omega) ?_)
  intro o w3 hown3 hext3
  have HA2 := Lib.hid hA; have HB2 := Lib.hid hB
  have HX3 := Lib.hid hext3
  clear hA hB hext3
  go_wp2_with fail
  go_loopw [9, 10] (fun cv iv wr => RAddRel w2 o M us vs cv iv wr) (fun _ iv _ => M - (intOf iv).toNat)
  case atStart => exact ⟨0, 0, List.replicate M 0, by omega, rfl, rfl, by omega, hown3, Bd.replicate B32_pos M, HX3.out, by simp⟩
  case round =>
    obtain ⟨k, cr, os, hk, rfl, rfl, hcr, hown, hbos, hex, hinv⟩ := hrel
    have HOWN := Lib.hid hown
    have HBO := Lib.hid hbos
    have HX := Lib.hid hex
    have HINV := Lib.hid hinv
    clear hown hbos hex hinv
    by_cases hkM : k = M
    · subst hkM
      have hl := HOWN.out.sl.len
      have hval : rval os = X + Y := by
        have h := HINV.out
        rw [List.take_of_length_le (by omega), List.take_of_length_le (by rw [HLA.out]; omega), List.take_of_length_le (by rw [HLB.out]; omega)] at h
        have e1 : nv B32 us = X := HVU.out
        have e2 : nv B32 vs = Y := HVV.out
        rw [e1, e2] at h
        have l1 := nv_lt HBU.out
        have l2 := nv_lt HBV.out
        rw [e1, HLA.out] at l1
        rw [e2, HLB.out] at l2
        have p1 : B32 ^ m1 ≤ B32 ^ (k - 1) := Nat.pow_le_pow_right B32_pos (by omega)
        have p2 : B32 ^ n1 ≤ B32 ^ (k - 1) := Nat.pow_le_pow_right B32_pos (by omega)
        have p3 : B32 ^ k = B32 ^ (k - 1) * B32 := by rw [← Nat.pow_succ]; congr 1; omega
        have p4 : B32 ^ (k - 1) * 2 ≤ B32 ^ (k - 1) * B32 := Nat.mul_le_mul_left _ B32_two
        have hc0 : cr = 0 := by
          rcases Nat.eq_zero_or_pos cr with h0 | h0
          · exact h0
          · have : cr = 1 := by omega
            subst this
            omega
        subst hc0
        unfold rval
        omega
      have HV := Lib.hid hval
      clear hval hl
      go_wp2_with fail
      refine (number_calls HOWN.out.sl HBO.out (by omega)).mono ?_
      rintro e w4 ⟨o4, n4, c4, rfl, hown4, hext4, hno4⟩
      rw [HV.out] at hown4
      go_wp2_with fail
      go_ret
      exact ⟨o4, n4, c4, rfl, hown4.mono (HEX.out.trans HX.out).size, (HEX.out.trans HX.out).trans hext4, by omega⟩
    · have hlt : (k : Int) < (M : Int) := by omega
      obtain ⟨bo, oo, hixo, hco, hao⟩ := HOWN.out.sl.ix (P := Tryz.prog) Tryz.underlying32 H1.out H3.out
      have z1 := hixo k (by omega)
      have z2 := hco k (by omega)
      have z3 := HOWN.out.free (hao (by omega)) (oo + k)
      have HAO := Lib.hid (hao (by omega))
      obtain ⟨ba, oa, hixa, hca, -⟩ := (HA2.out.old HX.out).ix (P := Tryz.prog) Tryz.underlying32 H1.out H3.out
      obtain ⟨bb, ob, hixb, hcb, -⟩ := (HB2.out.old HX.out).ix (P := Tryz.prog) Tryz.underlying32 H1.out H3.out
      have HIA := Lib.hid hixa; have HCA := Lib.hid hca; have HIB := Lib.hid hixb; have HCB := Lib.hid hcb
      obtain ⟨u, hu⟩ : ∃ u, us.getD k 0 = u := ⟨_, rfl⟩
      obtain ⟨v, hv⟩ : ∃ v, vs.getD k 0 = v := ⟨_, rfl⟩
      have huB : u < B32 := by rw [← hu]; exact HBU.out.getD B32_pos k
      have hvB : v < B32 := by rw [← hv]; exact HBV.out.getD B32_pos k
      obtain ⟨d1, d2, d3⟩ := radd_digits huB hvB hcr
      have HST := Lib.hid (radd_step (s := (cr + u + v) % B32) (c' := (cr + u + v) / B32) (by rw [HOWN.out.sl.len]; omega) hu hv HINV.out d3)
      obtain ⟨s, hs⟩ : ∃ s, cr + u + v = s := ⟨_, rfl⟩
      rw [hs] at HST d1 d2
      have hsB : s < B64 := by rw [← hs, B64_eq]; rw [B32_eq] at huB hvB; omega
      have hand := rand_half s hsB
      have hshr := rshr_half s
      obtain ⟨lo, hlo⟩ : ∃ lo, s % B32 = lo := ⟨_, rfl⟩
      obtain ⟨hi, hhi⟩ : ∃ hi, s / B32 = hi := ⟨_, rfl⟩
      rw [hlo] at hand HST d1; rw [hhi] at hshr HST d2
      have HHI := Lib.hid d2
      have HLO := Lib.hid d1
      have HSO := Lib.hid (HOWN.out.store HAO.out k lo (by omega) (Nat.lt_of_lt_of_le d1 B32_lt))
      obtain ⟨t, ht⟩ : ∃ t, cr + u = t := ⟨_, rfl⟩
      have w1' : IntKind.u64.wrap ((cr : Int) + (u : Int)) = (t : Int) := by
        rw [B32_eq] at huB; rw [show ((cr : Int) + (u : Int)) = (t : Int) by omega]; exact IntWalk.u64_in _ (by omega)
      have w2' : IntKind.u64.wrap ((t : Int) + (v : Int)) = (s : Int) := by
        rw [B32_eq] at huB hvB; rw [show ((t : Int) + (v : Int)) = (s : Int) by omega]; exact IntWalk.u64_in _ (by omega)
      have HU0 := Lib.hid (fun h : m1 ≤ k => (by rw [← hu, getD_of_ge (by rw [HLA.out]; exact h)] : u = 0))
      have HV0 := Lib.hid (fun h : n1 ≤ k => (by rw [← hv, getD_of_ge (by rw [HLB.out]; exact h)] : v = 0))
      have HUE := Lib.hid hu; have HVE := Lib.hid hv; have HT := Lib.hid ht; have HS := Lib.hid hs
      clear hixa hca hixb hcb hixo hco hao hu hv huB hvB d1 d2 d3 hs hsB hlo hhi ht
      by_cases hk1 : k < m1
      · have x1 := HIA.out k hk1
        have x2 := HCA.out k hk1
        rw [HUE.out] at x2
        have g2 : (k : Int) < (m1 : Int) := by omega
        by_cases hk2 : k < n1
        · have y1 := HIB.out k hk2
          have y2 := HCB.out k hk2
          rw [HVE.out] at y2
          have g3 : (k : Int) < (n1 : Int) := by omega
          go_wp2_with fail
          go_roundw
          case rel => exact ⟨k + 1, hi, os.set k lo, by omega, by go_num, rfl, HHI.out, HSO.out.1, HBO.out.set k HLO.out, Ext.grown' HX.out HOWN.out (Nat.le_refl _) HSO.out.2, HST.out⟩
          case measure => simp only [intOf]; omega
        · have g3 : ¬ (k : Int) < (n1 : Int) := by omega
          have hv0 := HV0.out (by omega)
          have hts : t = s := by have := HT.out; have := HS.out; omega
          subst hts hv0
          clear w2'
          go_wp2_with fail
          go_roundw
          case rel => exact ⟨k + 1, hi, os.set k lo, by omega, by go_num, rfl, HHI.out, HSO.out.1, HBO.out.set k HLO.out, Ext.grown' HX.out HOWN.out (Nat.le_refl _) HSO.out.2, HST.out⟩
          case measure => simp only [intOf]; omega
      · have g2 : ¬ (k : Int) < (m1 : Int) := by omega
        have hu0 := HU0.out (by omega)
        have hct : cr = t := by have := HT.out; omega
        subst hu0
        by_cases hk2 : k < n1
        · have y1 := HIB.out k hk2
          have y2 := HCB.out k hk2
          rw [HVE.out] at y2
          have g3 : (k : Int) < (n1 : Int) := by omega
          subst hct
          clear w1'
          go_wp2_with fail
          go_roundw
          case rel => exact ⟨k + 1, hi, os.set k lo, by omega, by go_num, rfl, HHI.out, HSO.out.1, HBO.out.set k HLO.out, Ext.grown' HX.out HOWN.out (Nat.le_refl _) HSO.out.2, HST.out⟩
          case measure => simp only [intOf]; omega
        · have g3 : ¬ (k : Int) < (n1 : Int) := by omega
          have hv0 := HV0.out (by omega)
          have hts : t = s := by have := HT.out; have := HS.out; omega
          subst hct hv0
          subst hts
          clear w1' w2'
          go_wp2_with fail
          go_roundw
          case rel => exact ⟨k + 1, hi, os.set k lo, by omega, by go_num, rfl, HHI.out, HSO.out.1, HBO.out.set k HLO.out, Ext.grown' HX.out HOWN.out (Nat.le_refl _) HSO.out.2, HST.out⟩
          case measure => simp only [intOf]; omega

end Go.Proofs.YtimcnhlcepemjaaGreatDoor

/- gleanref1.small: digits by one digit. -/
namespace Go.Proofs.YtimcnhlcepemjaaGreatDoor
open Go.RowKit

def RSmRel (w : World) (o : Option Addr) (N K : Nat) (vs : List Nat) (cv iv : Value) (wr : World) : Prop :=
  ∃ (k cr : Nat) (os : List Nat), k ≤ N ∧ iv = .int .i64 (k : Int) ∧ cv = .int .u64 (cr : Int) ∧ cr < B32 ∧ Own w.heap.size wr o (N + 1) (N + 1) os ∧ Bd B32 os ∧ Ext w wr ∧
    nv B32 (os.take k) + B32 ^ k * cr = K * nv B32 (vs.take k)
theorem rsm_step {os vs : List Nat} {k cr v K s c' : Nat} (hk : k < os.length) (hv : vs.getD k 0 = v)
    (h : nv B32 (os.take k) + B32 ^ k * cr = K * nv B32 (vs.take k)) (hs : s + B32 * c' = v * K + cr) :
    nv B32 ((os.set k s).take (k + 1)) + B32 ^ (k + 1) * c' = K * nv B32 (vs.take (k + 1)) := by
  rw [nv_take_set B32 os k s hk, nv_take_succ', hv, Nat.pow_succ, Nat.mul_add, ← h]
  have e1 : B32 ^ k * B32 * c' = B32 ^ k * (B32 * c') := Nat.mul_assoc ..
  have e2 : K * (B32 ^ k * v) = B32 ^ k * (v * K) := by rw [Nat.mul_left_comm, Nat.mul_comm K v]
  have e3 : B32 ^ k * s + B32 ^ k * (B32 * c') = B32 ^ k * (v * K) + B32 ^ k * cr := by rw [← Nat.mul_add, hs, Nat.mul_add]
  rw [e1, e2]
  omega

set_option maxHeartbeats 8000000 in
set_option maxRecDepth 100000 in
theorem rsm_calls {a : Option Addr} {n c : Nat} {vs : List Nat} {w : World} (K : Nat) (ha : Sl w a n c vs) (hbv : Bd B32 vs) (hK : K < B32) (hn : n ≤ 1000000000) :
    Calls Tryz.prog 159 #[.slice a n c, .int .u64 (K : Int)] w (New w (n + 1) (dig (rval vs * K))) := by
  obtain ⟨i0, hi, hz0, hs, hby⟩ := info_parts info64
  have H1 := Lib.hid hi; have H2 := Lib.hid hz0; have H3 := Lib.hid hs; have H4 := Lib.hid hby
  clear hi hz0 hs hby
  have HLA := Lib.hid ha.len
  have HBV := Lib.hid hbv
  have HK := Lib.hid hK
  have HA := Lib.hid ha
  clear ha hbv hK
  go_enter Tryz.func159, Tryz.ntmps159
  go_wp2_with (at_make; refine make_sl _ rfl _ _ _ rfl _ _ Tryz.underlying32 H1.out H2.out H3.out H4.out _ _ rfl rfl (n + 1) (by omega) (by omega) (by omega) ?_)
  intro o w3 hown3 hext3
  have HX3 := Lib.hid hext3
  clear hext3
  go_wp2_with fail
  go_loopw [6, 7] (fun cv iv wr => RSmRel w o n K vs cv iv wr) (fun _ iv _ => n - (intOf iv).toNat)
  case atStart => exact ⟨0, 0, List.replicate (n + 1) 0, by omega, rfl, rfl, B32_pos, hown3, Bd.replicate B32_pos _, HX3.out, by simp⟩
  case round =>
    obtain ⟨k, cr, os, hk, rfl, rfl, hcr, hown, hbos, hex, hinv⟩ := hrel
    have HOWN := Lib.hid hown
    have HBO := Lib.hid hbos
    have HX := Lib.hid hex
    have HINV := Lib.hid hinv
    have HCR := Lib.hid hcr
    clear hown hbos hex hinv hcr
    obtain ⟨bo, oo, hixo, hco, hao⟩ := HOWN.out.sl.ix (P := Tryz.prog) Tryz.underlying32 H1.out H3.out
    have z1 := hixo k (by omega)
    have z2 := hco k (by omega)
    have z3 := HOWN.out.free (hao (by omega)) (oo + k)
    have HAO := Lib.hid (hao (by omega))
    clear hixo hco hao
    by_cases hkn : k = n
    · subst hkn
      have HSO := Lib.hid (HOWN.out.store HAO.out k cr (by omega) (Nat.lt_of_lt_of_le HCR.out B32_lt))
      have hbd2 := HBO.out.set k HCR.out
      have hval : rval (os.set k cr) = rval vs * K := by
        have h := HINV.out
        have e := nv_take_set B32 os k cr (by rw [HOWN.out.sl.len]; omega)
        rw [List.take_of_length_le (by rw [List.length_set, HOWN.out.sl.len]; omega)] at e
        rw [List.take_of_length_le (l := vs) (by rw [HLA.out]; omega)] at h
        unfold rval
        rw [e, h, Nat.mul_comm]
      have HE := Lib.hid (trimL_dig hbd2)
      rw [hval] at HE
      have hle : (trimL (os.set k cr)).length ≤ k + 1 := by have := trimL_len (os.set k cr); rw [List.length_set, HOWN.out.sl.len] at this; exact this
      clear hval hbd2
      go_wp2_with fail
      refine (rtrim_calls HSO.out.1.sl).mono ?_
      rintro e w4 ⟨rfl, rfl⟩
      go_wp2_with fail
      go_ret
      have ho := HSO.out.1.rtrim
      rw [HE.out] at ho hle
      exact ⟨o, _, k + 1, by rw [HE.out]; rfl, ho, Ext.grown' HX.out HOWN.out (Nat.le_refl _) HSO.out.2, hle⟩
    · have g1 : (k : Int) < (n : Int) := by omega
      obtain ⟨ba, oa, hixa, hca, -⟩ := (HA.out.old HX.out).ix (P := Tryz.prog) Tryz.underlying32 H1.out H3.out
      have x1 := hixa k (by omega)
      have x2 := hca k (by omega)
      clear hixa hca
      obtain ⟨v, hv⟩ : ∃ v, vs.getD k 0 = v := ⟨_, rfl⟩
      rw [hv] at x2
      have hvB : v < B32 := by rw [← hv]; exact HBV.out.getD B32_pos k
      have hs64 : v * K + cr < B64 := by rw [← B32_sq]; exact mul_add_lt hvB HK.out HCR.out
      obtain ⟨s, hs⟩ : ∃ s, v * K + cr = s := ⟨_, rfl⟩
      obtain ⟨p, hp⟩ : ∃ p, v * K = p := ⟨_, rfl⟩
      rw [hs] at hs64
      have hand := rand_half s hs64
      have hshr := rshr_half s
      have w1' : IntKind.u64.wrap ((v : Int) * (K : Int)) = (p : Int) := by
        rw [B64_eq] at hs64
        rw [show ((v : Int) * (K : Int)) = (p : Int) by rw [← hp]; simp]; exact IntWalk.u64_in _ (by omega)
      have w2' : IntKind.u64.wrap ((p : Int) + (cr : Int)) = (s : Int) := by
        rw [B64_eq] at hs64
        rw [show ((p : Int) + (cr : Int)) = (s : Int) by omega]; exact IntWalk.u64_in _ (by omega)
      have HST := Lib.hid (rsm_step (s := s % B32) (c' := s / B32) (by rw [HOWN.out.sl.len]; omega) hv HINV.out (by rw [Nat.mod_add_div]; exact hs.symm))
      have d1 : s % B32 < B32 := Nat.mod_lt _ B32_pos
      have d2 : s / B32 < B32 := by rw [Nat.div_lt_iff_lt_mul B32_pos, B32_sq]; exact hs64
      obtain ⟨lo, hlo⟩ : ∃ lo, s % B32 = lo := ⟨_, rfl⟩
      obtain ⟨hi, hhi⟩ : ∃ hi, s / B32 = hi := ⟨_, rfl⟩
      rw [hlo] at hand HST d1; rw [hhi] at hshr HST d2
      have HHI := Lib.hid d2
      have HLO := Lib.hid d1
      have HSO := Lib.hid (HOWN.out.store HAO.out k lo (by omega) (Nat.lt_of_lt_of_le d1 B32_lt))
      clear hv hvB hs64 hs hp d1 d2 hlo hhi
      go_wp2_with fail
      go_roundw
      case rel => exact ⟨k + 1, hi, os.set k lo, by omega, by go_num, rfl, HHI.out, HSO.out.1, HBO.out.set k HLO.out, Ext.grown' HX.out HOWN.out (Nat.le_refl _) HSO.out.2, HST.out⟩
      case measure => simp only [intOf]; omega

end Go.Proofs.YtimcnhlcepemjaaGreatDoor
