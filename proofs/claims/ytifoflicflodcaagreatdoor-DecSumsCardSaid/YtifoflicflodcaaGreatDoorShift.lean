/- nat.left, nat.right: shifts by fewer than 64 places. -/
import Derived.Test.YtifoflicflodcaaGreatDoorMul
import Derived.BigRegion
namespace Go.Proofs.YtifoflicflodcaaGreatDoor
open Go.RowKit

theorem u64_wrap_nat (n : Nat) : IntKind.u64.wrap (n : Int) = ((n % B64 : Nat) : Int) := by rw [IntKind.wrap_u64, B64_eq]; omega
/-- u shifted up by n: the limb, and what goes over. -/
def shlS (u n : Nat) : Nat := u * 2 ^ n % B64
def shrS (u n : Nat) : Nat := u / 2 ^ n
theorem shl_eq {u n : Nat} (hn : n ≤ 64) : shlS u n + B64 * shrS u (64 - n) = u * 2 ^ n := by
  have e : B64 = 2 ^ (64 - n) * 2 ^ n := by rw [← Nat.pow_add, show 64 - n + n = 64 by omega]; rfl
  have h : u * 2 ^ n / B64 = u / 2 ^ (64 - n) := by
    rw [e, Nat.mul_div_mul_right _ _ (Nat.two_pow_pos n)]
  unfold shlS shrS
  rw [← h]; exact Nat.mod_add_div _ _
theorem shlS_lt (u n : Nat) : shlS u n < B64 := Nat.mod_lt _ B64_pos
theorem shrS_le (u n : Nat) : shrS u n ≤ u := Nat.div_le_self _ _
theorem shrS_lt {u n : Nat} (hu : u < B64) (hn : n ≤ 64) : shrS u (64 - n) < 2 ^ n := by
  unfold shrS
  rw [Nat.div_lt_iff_lt_mul (Nat.two_pow_pos _), ← Nat.pow_add, show n + (64 - n) = 64 by omega]
  exact hu
theorem or_shl {z u n : Nat} (hz : z < 2 ^ n) (hn : n ≤ 64) : z ||| shlS u n = z + shlS u n := by
  have e : shlS u n = 2 ^ n * (u % 2 ^ (64 - n)) := by
    unfold shlS
    have e : B64 = 2 ^ n * 2 ^ (64 - n) := by rw [← Nat.pow_add, show n + (64 - n) = 64 by omega]; rfl
    rw [e, Nat.mul_comm u, Nat.mul_mod_mul_left]
  rw [e, Nat.or_comm, ← Nat.two_pow_add_eq_or_of_lt hz, Nat.add_comm]

/-- What a shift's loop keeps. -/
def LeftRel (w : World) (o : Option Addr) (A : Nat) (us : List Nat) (n : Nat) (iv : Value) (wr : World) : Prop :=
  ∃ (k : Nat) (os : List Nat), k ≤ A ∧ iv = .int .i64 k ∧ Own w.heap.size wr o (A + 1) (A + 1) os ∧ Ext w wr ∧ os.getD k 0 < 2 ^ n ∧ nv B64 (os.take (k + 1)) = nv B64 (us.take k) * 2 ^ n

theorem left_round {os us : List Nat} {k n z u t s hi : Nat} (hk : k + 1 < os.length) (hz : os.getD k 0 = z) (hu : us.getD k 0 = u) (ht : t = z + s) (hs : s + B64 * hi = u * 2 ^ n)
    (h : nv B64 (os.take (k + 1)) = nv B64 (us.take k) * 2 ^ n) : nv B64 (((os.set k t).set (k + 1) hi).take (k + 1 + 1)) = nv B64 (us.take (k + 1)) * 2 ^ n := by
  rw [nv_take_set _ _ _ _ (by rw [List.length_set]; omega), nv_take_set _ _ _ _ (by omega), nv_take_succ' B64 us k, hu, Nat.add_mul, ← h, nv_take_succ' B64 os k, hz, ht, Nat.mul_assoc, ← hs, Nat.mul_add, Nat.mul_add, Nat.pow_succ, Nat.mul_assoc]
  omega

theorem set_getD_self {xs : List Nat} {i x : Nat} (h : i < xs.length) : (xs.set i x).getD i 0 = x := by
  rw [List.getD_eq_getElem?_getD, List.getElem?_set_self h]; rfl
theorem set_getD_other {xs : List Nat} {i j x : Nat} (h : i ≠ j) : (xs.set i x).getD j 0 = xs.getD j 0 := by
  rw [List.getD_eq_getElem?_getD, List.getD_eq_getElem?_getD, List.getElem?_set_ne h]

set_option maxHeartbeats 2000000 in
set_option maxRecDepth 100000 in
theorem left_calls {a : Option Addr} {A c : Nat} {us : List Nat} {w : World} (ha : Sl w a A c us) (hm : A ≤ 1000000000) (n : Nat) (hn : n < 64) :
    Calls Tryz.prog 109 #[.slice a A c, .int .i64 (n : Int)] w (fun e w' => ∃ o os, val os = val us * 2 ^ n ∧ e = .returned (.slice o (A + 1) (A + 1)) ∧ Own w.heap.size w' o (A + 1) (A + 1) os ∧ Ext w w') := by
  obtain ⟨i0, hi, hz0, hs, hby⟩ := info_parts info64
  have H1 := Lib.hid hi; have H2 := Lib.hid hz0; have H3 := Lib.hid hs; have H4 := Lib.hid hby
  clear hi hz0 hs hby
  go_enter Tryz.func109, Tryz.ntmps109
  go_wp2_with (at_make; refine make_sl _ rfl _ _ _ rfl _ _ Tryz.underlying23 H1.out H2.out H3.out H4.out _ _ rfl rfl (A + 1) (by omega) (by omega) (by omega) ?_)
  intro o w1 ho hext
  go_wp2_with fail
  go_loopw [13] (fun iv wr => LeftRel w o A us n iv wr) (fun iv _ => A - (intOf iv).toNat)
  case atStart =>
    refine ⟨0, _, by omega, rfl, ho, hext, ?_, ?_⟩
    · have : (List.replicate (A + 1) 0).getD 0 0 = 0 := by simp [List.replicate_succ]
      rw [this]; exact Nat.two_pow_pos n
    · simp [List.take_replicate]
  case round =>
    obtain ⟨k, os, hk, rfl, hown, hex, htop, hval⟩ := hrel
    have HV := Lib.hid hval
    clear hval
    by_cases hlt : k < A
    · obtain ⟨bo, oo, hixo, hco, hao⟩ := hown.sl.ix (P := Tryz.prog) Tryz.underlying23 H1.out H3.out
      obtain ⟨ba, oa, hixa, hca, haa⟩ := (ha.old hex).ix (P := Tryz.prog) Tryz.underlying23 H1.out H3.out
      have hne : (⟨bo, oo + k, none⟩ : Addr) ≠ ⟨ba, oa + k, none⟩ := by
        intro e
        injection e with e1
        have h1 := (hown.ge bo (by rw [hao (by omega)]; rfl)).1
        have h2 := (ha.lt).resolve_left (by omega)
        obtain ⟨q, hq, hql⟩ := h2
        rw [haa (by omega)] at hq
        have h3 : ba = q := Option.some.inj hq
        omega
      have x1 := hixa k hlt
      have x2 := hca k hlt
      have x3 := hixo k (by omega)
      have x5 := hco k (by omega)
      have x6 := hixo (k + 1) (by omega)
      have x7 := hco (k + 1) (by omega)
      have x8 := hown.free (hao (by omega)) (oo + k)
      have x9 := hown.free (hao (by omega)) (oo + (k + 1))
      rw [show ((k + 1 : Nat) : Int) = (k : Int) + 1 by omega] at x6
      have x10 : ∀ v, (wr.setCell ⟨bo, oo + k, none⟩ v).cell? ⟨ba, oa + k, none⟩ = some (.int .u64 ((us.getD k 0 : Nat) : Int)) := fun v => by
        rw [World.cell?_setCell_other wr _ _ _ hne]; exact x2
      have HO := Lib.hid (hao (by omega))
      have q1 := ha.bd.getD B64_pos k
      have q2 := hown.sl.bd.getD B64_pos k
      have HU := Lib.hid (@rfl _ (us.getD k 0))
      obtain ⟨u, hu⟩ : ∃ u, us.getD k 0 = u := ⟨_, rfl⟩
      obtain ⟨z, hz⟩ : ∃ z, os.getD k 0 = z := ⟨_, rfl⟩
      rw [hu] at x2 x10 q1
      rw [hz] at x5 q2 htop
      have HUU := Lib.hid hu
      have HZ := Lib.hid hz
      clear hixo hixa hca hco hao hu hz hne haa HU
      generalize os.getD (k + 1) 0 = z1 at *
      have HSH := Lib.hid (shl_eq (u := u) (n := n) (by omega))
      have q3 := shlS_lt u n
      have HQ4 := Lib.hid (shrS_lt (u := u) (n := n) q1 (by omega))
      have hw1 : IntKind.u64.wrap ((u : Int) * 2 ^ n) = ((shlS u n : Nat) : Int) := by
        rw [show (u : Int) * 2 ^ n = ((u * 2 ^ n : Nat) : Int) by simp, u64_wrap_nat]; rfl
      have hw2 : (u : Int) / 2 ^ (min ((64 : Int) - (n : Int)).toNat 64) = ((shrS u (64 - n) : Nat) : Int) := by
        rw [show min ((64 : Int) - (n : Int)).toNat 64 = 64 - n by omega]; unfold shrS; simp
      have hw3 : (u : Int) / 2 ^ (64 - n) = ((shrS u (64 - n) : Nat) : Int) := by unfold shrS; simp
      have hw4 : bits BinOp.or IntKind.u64 (z : Int) ((shlS u n : Nat) : Int) = ((z ||| shlS u n : Nat) : Int) := bits_or_u64_nat z (shlS u n) q2 q3
      have HOR := Lib.hid (or_shl (u := u) htop (by omega))
      have hbt : z ||| shlS u n < B64 := Nat.or_lt_two_pow (n := 64) q2 q3
      have hbh : shrS u (64 - n) < B64 := Nat.lt_of_le_of_lt (shrS_le _ _) q1
      clear htop
      generalize z ||| shlS u n = t at *
      generalize shlS u n = s at *
      generalize shrS u (64 - n) = hi at *
      have HS := Lib.hid (hown.store HO.out k t (by omega) hbt)
      have hS2 := HS.out.1.store HO.out (k + 1) hi (by omega) hbh
      have HS2 := Lib.hid hS2
      clear hS2
      have HG := Lib.hid (HS.out.1.ge)
      go_wp2_with fail
      go_region
      go_wp2_with fail
      go_roundw
      case rel =>
        refine ⟨k + 1, (os.set k t).set (k + 1) hi, by omega, by go_num, (HS2.out.1).old ((Ext.refl _).drew), ((hex.grown' hown (Nat.le_refl _) HS.out.2).grown' HS.out.1 (Nat.le_refl _) HS2.out.2).drew, ?_, ?_⟩
        · rw [set_getD_self (by rw [List.length_set, hown.sl.len]; omega)]; exact HQ4.out
        · exact left_round (by rw [hown.sl.len]; omega) HZ.out HUU.out HOR.out HSH.out HV.out
      case measure => simp [intOf]; omega
    · obtain rfl : k = A := by omega
      have hv : val os = val us * 2 ^ n := by
        have := HV.out
        rw [nv_take_of_le B64 os _ (by rw [hown.sl.len]; omega), nv_take_of_le B64 us _ (by rw [ha.len]; omega)] at this
        exact this
      have HW := Lib.hid hv
      clear hv
      go_wp2_with fail
      go_ret
      exact ⟨o, os, HW.out, rfl, hown, hex⟩

/-- What the other shift's loop keeps: below place k all is shifted, from it on nothing is. -/
def RightRel (B : Nat) (w : World) (a : Option Addr) (A c : Nat) (us : List Nat) (n r0 : Nat) (iv : Value) (wr : World) : Prop :=
  ∃ (k : Nat) (os : List Nat), k ≤ A ∧ iv = .int .i64 k ∧ Own B wr a A c os ∧ w.grownBy wr (blk a) ∧ os.drop k = us.drop k ∧
    nv B64 (os.take k) * 2 ^ n + r0 = nv B64 (us.take k) + B64 ^ k * (us.getD k 0 % 2 ^ n)

theorem shl_low {v n : Nat} (hn : n ≤ 64) : shlS v (64 - n) = 2 ^ (64 - n) * (v % 2 ^ n) := by
  unfold shlS
  have e : B64 = 2 ^ (64 - n) * 2 ^ n := by rw [← Nat.pow_add, show 64 - n + n = 64 by omega]; rfl
  rw [e, Nat.mul_comm v, Nat.mul_mod_mul_left]
theorem right_limb {u v t n : Nat} (hn : n ≤ 64) (ht : t = u / 2 ^ n + shlS v (64 - n)) : t * 2 ^ n + u % 2 ^ n = u + B64 * (v % 2 ^ n) := by
  have e : B64 = 2 ^ (64 - n) * 2 ^ n := by rw [← Nat.pow_add, show 64 - n + n = 64 by omega]; rfl
  rw [ht, shl_low hn, Nat.add_mul, e]
  have h1 := Nat.div_add_mod u (2 ^ n)
  rw [Nat.mul_comm (2 ^ n) (u / 2 ^ n)] at h1
  have h2 : 2 ^ (64 - n) * (v % 2 ^ n) * 2 ^ n = 2 ^ (64 - n) * 2 ^ n * (v % 2 ^ n) := by rw [Nat.mul_assoc, Nat.mul_comm (v % 2 ^ n), ← Nat.mul_assoc]
  omega
theorem right_round {os us : List Nat} {k n u v t r0 : Nat} (hk : k < os.length) (hu : us.getD k 0 = u) (hv : us.getD (k + 1) 0 = v) (ht : t * 2 ^ n + u % 2 ^ n = u + B64 * (v % 2 ^ n))
    (h : nv B64 (os.take k) * 2 ^ n + r0 = nv B64 (us.take k) + B64 ^ k * (us.getD k 0 % 2 ^ n)) :
    nv B64 ((os.set k t).take (k + 1)) * 2 ^ n + r0 = nv B64 (us.take (k + 1)) + B64 ^ (k + 1) * (us.getD (k + 1) 0 % 2 ^ n) := by
  rw [hu] at h
  rw [nv_take_set _ _ _ _ hk, nv_take_succ' B64 us k, hu, hv, Nat.add_mul, Nat.mul_assoc]
  have e : B64 ^ k * (t * 2 ^ n + u % 2 ^ n) = B64 ^ k * (u + B64 * (v % 2 ^ n)) := by rw [ht]
  rw [Nat.mul_add, Nat.mul_add, ← Nat.mul_assoc (B64 ^ k) B64] at e
  rw [Nat.pow_succ]
  omega
theorem right_done {os us : List Nat} {A n r0 : Nat} (ho : os.length = A) (hu : us.length = A) (hr : r0 < 2 ^ n) (h : nv B64 (os.take A) * 2 ^ n + r0 = nv B64 (us.take A) + B64 ^ A * (us.getD A 0 % 2 ^ n)) :
    val os = val us / 2 ^ n := by
  rw [nv_take_of_le B64 os _ (by omega), nv_take_of_le B64 us _ (by omega), getD_of_ge (by omega)] at h
  simp only [Nat.zero_mod, Nat.mul_zero, Nat.add_zero] at h
  unfold val
  rw [← h, Nat.mul_comm]
  exact (div_unique rfl hr).1

/-- The call returns the slice's head, which reads as xs now; nothing else has turned. -/
def Head (B : Nat) (w : World) (a : Option Addr) (xs : List Nat) (e : Ending) (w' : World) : Prop :=
  e = .returned (.slice a xs.length xs.length) ∧ Own B w' a xs.length xs.length xs ∧ w.grownBy w' (blk a)

set_option maxHeartbeats 2000000 in
set_option maxRecDepth 100000 in
theorem right_calls {B : Nat} {a : Option Addr} {A c : Nat} {us : List Nat} {w : World} (ha : Own B w a A c us) (hm : A ≤ 1000000000) (n : Nat) (hn : n < 64) :
    Calls Tryz.prog 112 #[.slice a A c, .int .i64 (n : Int)] w (Head B w a (lim (val us / 2 ^ n))) := by
  obtain ⟨i0, hi, hz0, hs, hby⟩ := info_parts info64
  have H1 := Lib.hid hi; have H3 := Lib.hid hs
  have q0 := ha.sl.big
  have q00 := ha.sl.cap
  have HLU := Lib.hid ha.sl.len
  clear hi hz0 hs hby
  go_enter Tryz.func112, Tryz.ntmps112
  go_wp2_with fail
  go_loopw [8] (fun iv wr => RightRel B w a A c us n (us.getD 0 0 % 2 ^ n) iv wr) (fun iv _ => A - (intOf iv).toNat)
  case atStart => exact ⟨0, us, by omega, rfl, ha, grownBy_refl _ _, rfl, by simp⟩
  case round =>
    obtain ⟨k, os, hk, rfl, hown, hgr, hdr, hval⟩ := hrel
    have HV := Lib.hid hval
    have HD := Lib.hid hdr
    clear hval hdr
    by_cases hlt : k < A
    · obtain ⟨bo, oo, hixo, hco, hao⟩ := hown.sl.ix (P := Tryz.prog) Tryz.underlying23 H1.out H3.out
      have x3 := hixo k hlt
      have x5 := hco k hlt
      have x8 := hown.free (hao (by omega)) (oo + k)
      have HO := Lib.hid (hao (by omega))
      have q2 := hown.sl.bd.getD B64_pos k
      have hu := (getD_of_drop HD.out).symm
      have hv := (getD_of_drop (drop_succ_of_drop HD.out)).symm
      obtain ⟨u, hu'⟩ : ∃ u, os.getD k 0 = u := ⟨_, rfl⟩
      rw [hu'] at hu x5 q2
      have HU := Lib.hid hu
      have hw1 : (u : Int) / 2 ^ n = ((u / 2 ^ n : Nat) : Int) := by simp
      have q4 : u / 2 ^ n < B64 := Nat.lt_of_le_of_lt (Nat.div_le_self _ _) q2
      have HQ5 := Lib.hid (show u / 2 ^ n < 2 ^ (64 - n) by
        rw [Nat.div_lt_iff_lt_mul (Nat.two_pow_pos _), ← Nat.pow_add, show 64 - n + n = 64 by omega]; exact q2)
      obtain ⟨t1, ht1⟩ : ∃ t1, u / 2 ^ n = t1 := ⟨_, rfl⟩
      rw [ht1] at hw1 q4
      have HT1 := Lib.hid ht1
      have HS := Lib.hid (hown.store HO.out k t1 hlt q4)
      clear hu hu' ht1
      by_cases hlt2 : k + 1 < A
      · have x6 := hixo (k + 1) hlt2
        have x7 := hco (k + 1) hlt2
        rw [show ((k + 1 : Nat) : Int) = (k : Int) + 1 by omega] at x6
        have q6 := hown.sl.bd.getD B64_pos (k + 1)
        obtain ⟨v, hv'⟩ : ∃ v, os.getD (k + 1) 0 = v := ⟨_, rfl⟩
        rw [hv'] at hv x7 q6
        have HVV := Lib.hid hv
        clear hixo hco hao hv hv'
        have q3 := shlS_lt v (64 - n)
        have hw2 : IntKind.u64.wrap ((v : Int) * 2 ^ (64 - n)) = ((shlS v (64 - n) : Nat) : Int) := by
          rw [show (v : Int) * 2 ^ (64 - n) = ((v * 2 ^ (64 - n) : Nat) : Int) by simp, u64_wrap_nat]; rfl
        have hw3 : IntKind.u64.wrap ((v : Int) * 2 ^ (min ((64 : Int) - (n : Int)).toNat 64)) = ((shlS v (64 - n) : Nat) : Int) := by
          rw [show min ((64 : Int) - (n : Int)).toNat 64 = 64 - n by omega]; exact hw2
        have hw4 : bits BinOp.or IntKind.u64 (t1 : Int) ((shlS v (64 - n) : Nat) : Int) = ((t1 ||| shlS v (64 - n) : Nat) : Int) := bits_or_u64_nat t1 _ q4 q3
        have hbt : t1 ||| shlS v (64 - n) < B64 := Nat.or_lt_two_pow (n := 64) q4 q3
        have HR' := Lib.hid (right_limb (u := u) (v := v) (t := t1 ||| shlS v (64 - n)) (n := n) (by omega) (by rw [HT1.out]; exact or_shl (by rw [← HT1.out]; exact HQ5.out) (by omega)))
        generalize t1 ||| shlS v (64 - n) = t at *
        generalize shlS v (64 - n) = sv at *
        have HS2 := Lib.hid (HS.out.1.store HO.out k t hlt hbt)
        go_wp2_with fail
        go_region
        go_wp2_with fail
        go_roundw
        case rel =>
          refine ⟨k + 1, (os.set k t1).set k t, by omega, by go_num, HS2.out.1.old ((Ext.refl _).drew), grownBy_trans (grownBy_trans (grownBy_trans hgr HS.out.2) HS2.out.2) (((Ext.refl _).drew).by_ _), ?_, ?_⟩
          · rw [List.set_set, drop_set_lo _ _ _ _ (by omega)]; exact drop_succ_of_drop HD.out
          · rw [List.set_set]; exact right_round (by rw [hown.sl.len]; exact hlt) HU.out HVV.out HR'.out HV.out
        case measure => simp [intOf]; omega
      · have HVV := Lib.hid (getD_of_ge (xs := us) (i := k + 1) (by rw [HLU.out]; omega))
        clear hixo hco hao hv
        have HR := Lib.hid (right_limb (u := u) (v := 0) (t := t1) (n := n) (by omega) (by rw [HT1.out]; simp [shlS]))
        go_wp2_with fail
        go_roundw
        case rel =>
          refine ⟨k + 1, os.set k t1, by omega, by go_num, HS.out.1, grownBy_trans hgr HS.out.2, ?_, ?_⟩
          · rw [drop_set_lo _ _ _ _ (by omega)]; exact drop_succ_of_drop HD.out
          · exact right_round (by rw [hown.sl.len]; exact hlt) HU.out HVV.out HR.out HV.out
        case measure => simp [intOf]; omega
    · obtain rfl : k = A := by omega
      have HW := Lib.hid (right_done hown.sl.len HLU.out (Nat.mod_lt _ (Nat.two_pow_pos n)) HV.out)
      have CT := Lib.hid (trimmed_calls hown.sl)
      go_wp2_with fail
      refine CT.out.mono ?_
      rintro e w' ⟨rfl, rfl⟩
      go_wp2_with fail
      go_ret
      have hfin := hown.trimmed
      rw [HW.out] at hfin
      exact ⟨by rw [HW.out]; rfl, hfin, hgr⟩

end Go.Proofs.YtifoflicflodcaaGreatDoor
