/- nat.take: a digit times b is taken from what is left. -/
import Derived.Test.YtifoflicflodcaaGreatDoorShort
import Derived.Deep.RegionLaw
import Derived.Deep.RegionWith
namespace Go.Proofs.YtifoflicflodcaaGreatDoor
open Go.RowKit

/-- Outside the n places from a on no cell has turned. -/
def Only (w w' : World) (a : Option Addr) (n : Nat) : Prop := ∀ p : Addr, (∀ b off i, a = some ⟨b, off, none⟩ → i < n → p ≠ ⟨b, off + i, none⟩) → w'.cell? p = w.cell? p
theorem Only.refl (w : World) (a : Option Addr) (n : Nat) : Only w w a n := fun _ _ => rfl
theorem Only.trans {w w1 w2 : World} {a : Option Addr} {n : Nat} (h : Only w w1 a n) (k : Only w1 w2 a n) : Only w w2 a n := fun p hp => (k p hp).trans (h p hp)
theorem Only.drew {w w1 : World} {a : Option Addr} {n : Nat} (h : Only w w1 a n) : Only w w1.drew a n := fun p hp => h p hp
theorem Only.store {w w1 : World} {a : Option Addr} {n : Nat} (h : Only w w1 a n) {b off i : Nat} (ha : a = some ⟨b, off, none⟩) (hi : i < n) (v : Value) : Only w (w1.setCell ⟨b, off + i, none⟩ v) a n := fun p hp => by
  rw [World.cell?_setCell_other w1 _ _ _ (fun e => hp b off i ha hi e.symm)]
  exact h p hp

/-- What the first loop keeps. -/
def TakeRel (B : Nat) (w : World) (a : Option Addr) (E : Nat) (d : Nat) (xs ys : List Nat) (cv bv iv : Value) (wr : World) : Prop :=
  ∃ (k cr br : Nat) (os : List Nat), k ≤ E ∧ iv = .int .i64 k ∧ cv = .int .u64 cr ∧ bv = .int .u64 br ∧ cr < B64 ∧ br ≤ 1 ∧ Own B wr a (E + 1) (E + 1) os ∧ w.grownBy wr (blk a) ∧ Only w wr a (E + 1) ∧ os.drop k = xs.drop k ∧
    nv B64 (os.take k) + d * nv B64 (ys.take k) = nv B64 (xs.take k) + B64 ^ k * (cr + br)
/-- What the second one keeps. -/
def BackRel (B : Nat) (w : World) (a : Option Addr) (E : Nat) (xs ys : List Nat) (cv iv : Value) (wr : World) : Prop :=
  ∃ (k cr : Nat) (os : List Nat), k ≤ E ∧ iv = .int .i64 k ∧ cv = .int .u64 cr ∧ cr ≤ 1 ∧ Own B wr a (E + 1) (E + 1) os ∧ w.grownBy wr (blk a) ∧ Only w wr a (E + 1) ∧ os.drop k = xs.drop k ∧
    nv B64 (os.take k) + B64 ^ k * cr = nv B64 (xs.take k) + nv B64 (ys.take k)

theorem take_round {os xs ys : List Nat} {k d cr br x y h l s1 c1 t b2 : Nat} (hk : k < os.length) (hx : xs.getD k 0 = x) (hy : ys.getD k 0 = y) (e1 : l + B64 * h = d * y) (e2 : s1 + B64 * c1 = l + cr + 0) (e3 : t + s1 + br = x + B64 * b2)
    (ih : nv B64 (os.take k) + d * nv B64 (ys.take k) = nv B64 (xs.take k) + B64 ^ k * (cr + br)) :
    nv B64 ((os.set k t).take (k + 1)) + d * nv B64 (ys.take (k + 1)) = nv B64 (xs.take (k + 1)) + B64 ^ (k + 1) * (h + c1 + b2) := by
  rw [nv_take_set _ _ _ _ hk, nv_take_succ' B64 xs k, nv_take_succ' B64 ys k, hx, hy, Nat.mul_add, Nat.pow_succ]
  have e5 : t + d * y + cr + br = x + B64 * (h + c1 + b2) := by rw [Nat.mul_add, Nat.mul_add]; omega
  have e6 : B64 ^ k * (t + d * y + cr + br) = B64 ^ k * (x + B64 * (h + c1 + b2)) := by rw [e5]
  rw [Nat.mul_add, Nat.mul_add, Nat.mul_add, Nat.mul_add, ← Nat.mul_assoc (B64 ^ k) B64] at e6
  rw [Nat.mul_add] at ih
  have e7 : d * (B64 ^ k * y) = B64 ^ k * (d * y) := by rw [Nat.mul_left_comm]
  omega

theorem back_round {os xs ys : List Nat} {k cr x y s c1 : Nat} (hk : k < os.length) (hx : xs.getD k 0 = x) (hy : ys.getD k 0 = y) (e1 : s + B64 * c1 = x + y + cr)
    (ih : nv B64 (os.take k) + B64 ^ k * cr = nv B64 (xs.take k) + nv B64 (ys.take k)) :
    nv B64 ((os.set k s).take (k + 1)) + B64 ^ (k + 1) * c1 = nv B64 (xs.take (k + 1)) + nv B64 (ys.take (k + 1)) := by
  rw [nv_take_set _ _ _ _ hk, nv_take_succ' B64 xs k, nv_take_succ' B64 ys k, hx, hy, Nat.pow_succ]
  exact add_round ih e1

theorem take_top {os xs ys : List Nat} {E d cr br z t b2 : Nat} (ho : os.length = E + 1) (hx : xs.length = E + 1) (hy : ys.length = E) (hz : os.getD E 0 = z) (hd : os.drop E = xs.drop E) (e3 : t + cr + br = z + B64 * b2)
    (ih : nv B64 (os.take E) + d * nv B64 (ys.take E) = nv B64 (xs.take E) + B64 ^ E * (cr + br)) : val (os.set E t) + d * val ys = val xs + B64 ^ (E + 1) * b2 := by
  unfold val
  have h1 := nv_take_set B64 os E t (by omega)
  rw [List.take_of_length_le (by rw [List.length_set]; omega)] at h1
  have h2 := nv_take_succ' B64 xs E
  rw [nv_take_of_le B64 xs _ (by omega), ← getD_of_drop hd, hz] at h2
  rw [nv_take_of_le B64 ys E (by omega)] at ih
  have e : B64 ^ E * (t + cr + br) = B64 ^ E * (z + B64 * b2) := by rw [e3]
  rw [Nat.mul_add, Nat.mul_add, Nat.mul_add, ← Nat.mul_assoc] at e
  rw [Nat.mul_add] at ih
  rw [h1, h2, Nat.pow_succ]
  omega
theorem take_yes_carry {os : List Nat} {E X dY b2 : Nat} (ho : os.length = E + 1) (bo : Bd B64 os) (h : val os + dY = X + B64 ^ (E + 1) * b2) (hle : dY ≤ X) (hb : b2 ≤ 1) : b2 = 0 ∧ val os = X - dY := by
  have := nv_lt bo
  rw [ho] at this
  unfold val at *
  rcases (by omega : b2 = 0 ∨ b2 = 1) with rfl | rfl
  · exact ⟨rfl, by omega⟩
  · exfalso; omega
theorem take_no_carry {os : List Nat} {E X dY b2 : Nat} (h : val os + dY = X + B64 ^ (E + 1) * b2) (hle : X < dY) (hb : b2 ≤ 1) : b2 = 1 := by
  rcases (by omega : b2 = 0 ∨ b2 = 1) with rfl | rfl
  · exfalso; omega
  · rfl
theorem wrap_once {b z cr t : Nat} (hge : b ≤ z + cr) (hz : z < b) (hcr : cr ≤ 1) (h2 : 2 ≤ b) (ht : (z + cr) % b = t) : t + b = z + cr := by
  rw [← ht, Nat.mod_eq_sub_mod hge, Nat.mod_eq_of_lt (by omega)]; omega
theorem back_top {os xs ys : List Nat} {E d cr z t X : Nat} (ho : os.length = E + 1) (hx : xs.length = E + 1) (hy : ys.length = E) (bo : Bd B64 os) (hz : os.getD E 0 = z) (hd : os.drop E = xs.drop E) (ht : (z + cr) % B64 = t)
    (ih : nv B64 (os.take E) + B64 ^ E * cr = nv B64 (xs.take E) + nv B64 (ys.take E)) (hz2 : z < B64) (hcr : cr ≤ 1)
    (hX : val xs + (d + 1) * val ys = X + B64 ^ (E + 1)) (hlo : d * val ys ≤ X) (_hhi : X < (d + 1) * val ys) : val (os.set E t) = X - d * val ys := by
  unfold val at *
  have h1 := nv_take_set B64 os E t (by omega)
  rw [List.take_of_length_le (by rw [List.length_set]; omega)] at h1
  have h2 := nv_take_succ' B64 xs E
  rw [nv_take_of_le B64 xs _ (by omega), ← getD_of_drop hd, hz] at h2
  rw [nv_take_of_le B64 ys E (by omega)] at ih
  have hOb := nv_lt (bo.take E)
  rw [List.length_take, Nat.min_eq_left (by omega)] at hOb
  rw [Nat.add_mul, Nat.one_mul] at hX
  have hp : 0 < B64 ^ E := Nat.pow_pos B64_pos
  -- the highest digit and the carry go over
  have hge : B64 ≤ z + cr := by
    rcases Nat.lt_or_ge (z + cr) B64 with h | h
    · exfalso
      have h3 : B64 ^ E * (z + cr + 1) ≤ B64 ^ E * B64 := Nat.mul_le_mul_left _ h
      rw [Nat.mul_add, Nat.mul_add, Nat.mul_one] at h3
      rw [Nat.pow_succ] at hX
      omega
    · exact h
  have e : B64 ^ E * (t + B64) = B64 ^ E * (z + cr) := by rw [wrap_once hge hz2 hcr B64_two ht]
  rw [Nat.mul_add, Nat.mul_add] at e
  rw [Nat.pow_succ] at hX
  rw [h1]
  omega

set_option maxHeartbeats 4000000 in
set_option maxRecDepth 100000 in
theorem take_yes {B : Nat} {a b : Option Addr} {E cb : Nat} {xs ys : List Nat} {w : World} (ha : Own B w a (E + 1) (E + 1) xs) (hb : Sl w b E cb ys) (hap : E = 0 ∨ blk a = none ∨ blk b ≠ blk a) (hE : E ≤ 1000000000)
    (d : Nat) (hd : d < B64) (hle : d * val ys ≤ val xs) :
    Calls Tryz.prog 111 #[.slice a (E + 1) (E + 1), .slice b E cb, .int .u64 (d : Int)] w (fun e w' => ∃ os, e = .returned (.bool true) ∧ val os = val xs - d * val ys ∧ Own B w' a (E + 1) (E + 1) os ∧ w.grownBy w' (blk a) ∧ Only w w' a (E + 1)) := by
  obtain ⟨i0, hi, hz0, hs, hby⟩ := info_parts info64
  have H1 := Lib.hid hi; have H3 := Lib.hid hs; have HP := Lib.hid hap
  have HLX := Lib.hid ha.sl.len; have HLY := Lib.hid hb.len
  have HLE := Lib.hid hle
  have q3 := hb.big
  have q4 := hb.cap
  clear hi hz0 hs hby hap hle
  go_enter Tryz.func111, Tryz.ntmps111
  go_wp2_with fail
  go_loopw [7, 8, 16] (fun cv bv iv wr => TakeRel B w a E d xs ys cv bv iv wr) (fun _ _ iv _ => E - (intOf iv).toNat)
  case atStart => exact ⟨0, 0, 0, xs, by omega, rfl, rfl, rfl, B64_pos, by omega, ha, grownBy_refl _ _, Only.refl _ _ _, rfl, by simp⟩
  case round =>
    obtain ⟨k, cr, br, os, hk, rfl, rfl, rfl, hcr, hbr, hown, hgr, honly, hdr, hval⟩ := hrel
    have HV := Lib.hid hval
    have HD := Lib.hid hdr
    clear hval hdr
    obtain ⟨ba, oa, hixa, hca, haa⟩ := hown.sl.ix (P := Tryz.prog) Tryz.underlying23 H1.out H3.out
    by_cases hlt : k < E
    · obtain ⟨bb, ob, hixb, hcb, -⟩ := (hb.grown hgr HP.out).ix (P := Tryz.prog) Tryz.underlying23 H1.out H3.out
      have x1 := hixa k (by omega)
      have x2 := hca k (by omega)
      have x3 := hown.free (haa (by omega)) (oa + k)
      have HO := Lib.hid (haa (by omega))
      have x4 := hixb k hlt
      have x5 := hcb k hlt
      have p1 := hown.sl.bd.getD B64_pos k
      have p2 := hb.bd.getD B64_pos k
      have hx := (getD_of_drop HD.out).symm
      clear hixa hca haa hixb hcb
      obtain ⟨x, hx'⟩ : ∃ x, os.getD k 0 = x := ⟨_, rfl⟩
      obtain ⟨y, hy'⟩ : ∃ y, ys.getD k 0 = y := ⟨_, rfl⟩
      rw [hx'] at hx x2 p1
      rw [hy'] at x5 p2
      have HX := Lib.hid hx; have HY := Lib.hid hy'
      clear hx hx' hy'
      have cm := mul64_calls d y hd p2
      have e1 := mul_eq d y
      have hl1 := mulL_lt d y
      generalize mulH d y = h at *
      generalize mulL d y = l at *
      have x8 := add64_run0 l cr
      have e2 := addS_eq l cr 0
      have hs1 := addS_lt l cr 0
      have hc1 := addC_le hl1 hcr (by omega : 0 ≤ 1)
      generalize addS l cr 0 = s1 at *
      generalize addC l cr 0 = c1 at *
      have x9 := sub64_run x s1 br hbr
      have e3 := subS_eq p1 hs1 hbr
      have ht := subS_lt x s1 br
      have hb2 := subC_le x s1 br
      generalize subS x s1 br = t at *
      generalize subC x s1 br = b2 at *
      have hbig : h + c1 < B64 := by
        have e4 : s1 + B64 * (h + c1) = d * y + cr := by rw [Nat.mul_add]; omega
        have h2 := mul_add_lt hd p2 hcr
        rw [← e4] at h2
        exact Nat.lt_of_mul_lt_mul_left (a := B64) (by omega)
      have hbig2 : h + c1 < 18446744073709551616 := hbig
      have HR := Lib.hid (take_round (os := os) (xs := xs) (ys := ys) (by rw [hown.sl.len]; omega) HX.out HY.out e1 e2 e3 HV.out)
      have CM := Lib.hid cm
      have HS := Lib.hid (hown.store HO.out k t (by omega) ht)
      clear e1 e2 e3 cm
      go_wp2_with fail
      refine (CM.out _).mono ?_
      rintro e w' ⟨rfl, rfl⟩
      go_wp2_with fail
      go_roundw
      case rel =>
        refine ⟨k + 1, h + c1, b2, os.set k t, by omega, by go_num, rfl, rfl, hbig, hb2, HS.out.1, grownBy_trans hgr HS.out.2, honly.store HO.out (by omega) _, ?_, HR.out⟩
        rw [drop_set_lo _ _ _ _ (by omega)]; exact drop_succ_of_drop HD.out
      case measure => simp [intOf]; omega
    · obtain rfl : k = E := by omega
      have x1 := hixa k (by omega)
      have x2 := hca k (by omega)
      have x3 := hown.free (haa (by omega)) (oa + k)
      have HO := Lib.hid (haa (by omega))
      have p1 := hown.sl.bd.getD B64_pos k
      obtain ⟨z, hz⟩ : ∃ z, os.getD k 0 = z := ⟨_, rfl⟩
      rw [hz] at x2 p1
      have HZ := Lib.hid hz
      clear hz hixa hca haa
      have x9 := sub64_run z cr br hbr
      have e3 := subS_eq p1 hcr hbr
      have ht := subS_lt z cr br
      have hb2 := subC_le z cr br
      have HT := Lib.hid (take_top (t := subS z cr br) (b2 := subC z cr br) hown.sl.len HLX.out HLY.out HZ.out HD.out e3 HV.out)
      generalize subS z cr br = t at *
      generalize subC z cr br = b2 at *
      have HS := Lib.hid (hown.store HO.out k t (by omega) ht)
      clear e3
      obtain ⟨hb0, hv⟩ := take_yes_carry (by rw [List.length_set]; exact hown.sl.len) HS.out.1.sl.bd HT.out HLE.out hb2
      subst hb0
      have HW := Lib.hid hv
      clear hv
      go_wp2_with fail
      go_ret
      exact ⟨os.set k t, rfl, HW.out, HS.out.1, grownBy_trans hgr HS.out.2, honly.store HO.out (by omega) _⟩

set_option maxHeartbeats 4000000 in
set_option maxRecDepth 100000 in
theorem take_no {B : Nat} {a b : Option Addr} {E cb : Nat} {xs ys : List Nat} {w : World} (ha : Own B w a (E + 1) (E + 1) xs) (hb : Sl w b E cb ys) (hap : E = 0 ∨ blk a = none ∨ blk b ≠ blk a) (hE : E ≤ 1000000000)
    (d' d : Nat) (hdd : d = d' + 1) (hd : d < B64) (hle : val xs < d * val ys) (hlo : d' * val ys ≤ val xs) :
    Calls Tryz.prog 111 #[.slice a (E + 1) (E + 1), .slice b E cb, .int .u64 (d : Int)] w (fun e w' => ∃ os, e = .returned (.bool false) ∧ val os = val xs - d' * val ys ∧ Own B w' a (E + 1) (E + 1) os ∧ w.grownBy w' (blk a) ∧ Only w w' a (E + 1)) := by
  have HDD := Lib.hid hdd
  have HLO := Lib.hid hlo
  clear hdd hlo
  obtain ⟨i0, hi, hz0, hs, hby⟩ := info_parts info64
  have H1 := Lib.hid hi; have H3 := Lib.hid hs; have HP := Lib.hid hap
  have HLX := Lib.hid ha.sl.len; have HLY := Lib.hid hb.len
  have HLE := Lib.hid hle
  have q3 := hb.big
  have q4 := hb.cap
  clear hi hz0 hs hby hap hle
  go_enter Tryz.func111, Tryz.ntmps111
  go_wp2_with fail
  go_loopw [7, 8, 16] (fun cv bv iv wr => TakeRel B w a E d xs ys cv bv iv wr) (fun _ _ iv _ => E - (intOf iv).toNat)
  case atStart => exact ⟨0, 0, 0, xs, by omega, rfl, rfl, rfl, B64_pos, by omega, ha, grownBy_refl _ _, Only.refl _ _ _, rfl, by simp⟩
  case round =>
    obtain ⟨k, cr, br, os, hk, rfl, rfl, rfl, hcr, hbr, hown, hgr, honly, hdr, hval⟩ := hrel
    have HV := Lib.hid hval
    have HD := Lib.hid hdr
    clear hval hdr
    obtain ⟨ba, oa, hixa, hca, haa⟩ := hown.sl.ix (P := Tryz.prog) Tryz.underlying23 H1.out H3.out
    by_cases hlt : k < E
    · obtain ⟨bb, ob, hixb, hcb, -⟩ := (hb.grown hgr HP.out).ix (P := Tryz.prog) Tryz.underlying23 H1.out H3.out
      have x1 := hixa k (by omega)
      have x2 := hca k (by omega)
      have x3 := hown.free (haa (by omega)) (oa + k)
      have HO := Lib.hid (haa (by omega))
      have x4 := hixb k hlt
      have x5 := hcb k hlt
      have p1 := hown.sl.bd.getD B64_pos k
      have p2 := hb.bd.getD B64_pos k
      have hx := (getD_of_drop HD.out).symm
      clear hixa hca haa hixb hcb
      obtain ⟨x, hx'⟩ : ∃ x, os.getD k 0 = x := ⟨_, rfl⟩
      obtain ⟨y, hy'⟩ : ∃ y, ys.getD k 0 = y := ⟨_, rfl⟩
      rw [hx'] at hx x2 p1
      rw [hy'] at x5 p2
      have HX := Lib.hid hx; have HY := Lib.hid hy'
      clear hx hx' hy'
      have cm := mul64_calls d y hd p2
      have e1 := mul_eq d y
      have hl1 := mulL_lt d y
      generalize mulH d y = h at *
      generalize mulL d y = l at *
      have x8 := add64_run0 l cr
      have e2 := addS_eq l cr 0
      have hs1 := addS_lt l cr 0
      have hc1 := addC_le hl1 hcr (by omega : 0 ≤ 1)
      generalize addS l cr 0 = s1 at *
      generalize addC l cr 0 = c1 at *
      have x9 := sub64_run x s1 br hbr
      have e3 := subS_eq p1 hs1 hbr
      have ht := subS_lt x s1 br
      have hb2 := subC_le x s1 br
      generalize subS x s1 br = t at *
      generalize subC x s1 br = b2 at *
      have hbig : h + c1 < B64 := by
        have e4 : s1 + B64 * (h + c1) = d * y + cr := by rw [Nat.mul_add]; omega
        have h2 := mul_add_lt hd p2 hcr
        rw [← e4] at h2
        exact Nat.lt_of_mul_lt_mul_left (a := B64) (by omega)
      have hbig2 : h + c1 < 18446744073709551616 := hbig
      have HR := Lib.hid (take_round (os := os) (xs := xs) (ys := ys) (by rw [hown.sl.len]; omega) HX.out HY.out e1 e2 e3 HV.out)
      have CM := Lib.hid cm
      have HS := Lib.hid (hown.store HO.out k t (by omega) ht)
      clear e1 e2 e3 cm
      go_wp2_with fail
      refine (CM.out _).mono ?_
      rintro e w' ⟨rfl, rfl⟩
      go_wp2_with fail
      go_roundw
      case rel =>
        refine ⟨k + 1, h + c1, b2, os.set k t, by omega, by go_num, rfl, rfl, hbig, hb2, HS.out.1, grownBy_trans hgr HS.out.2, honly.store HO.out (by omega) _, ?_, HR.out⟩
        rw [drop_set_lo _ _ _ _ (by omega)]; exact drop_succ_of_drop HD.out
      case measure => simp [intOf]; omega
    · obtain rfl : k = E := by omega
      have x1 := hixa k (by omega)
      have x2 := hca k (by omega)
      have x3 := hown.free (haa (by omega)) (oa + k)
      have HO := Lib.hid (haa (by omega))
      have p1 := hown.sl.bd.getD B64_pos k
      obtain ⟨z, hz⟩ : ∃ z, os.getD k 0 = z := ⟨_, rfl⟩
      rw [hz] at x2 p1
      have HZ := Lib.hid hz
      clear hz hixa hca haa
      have x9 := sub64_run z cr br hbr
      have e3 := subS_eq p1 hcr hbr
      have ht := subS_lt z cr br
      have hb2 := subC_le z cr br
      have HT := Lib.hid (take_top (t := subS z cr br) (b2 := subC z cr br) hown.sl.len HLX.out HLY.out HZ.out HD.out e3 HV.out)
      generalize subS z cr br = t at *
      generalize subC z cr br = b2 at *
      have HS := Lib.hid (hown.store HO.out k t (by omega) ht)
      clear e3
      have hb0 := take_no_carry HT.out HLE.out hb2
      subst hb0
      have hgr2 := grownBy_trans hgr HS.out.2
      have honly2 : Only w (wr.setCell ⟨ba, oa + k, none⟩ (.int .u64 (t : Int))) a (k + 1) := honly.store HO.out (by omega) _
      have HT2 := Lib.hid HT.out
      have HO1 := Lib.hid HS.out.1
      have hown1 := HS.out.1
      clear HT HV HD HZ
      go_wp2_with fail
      clear x1 x2 x3 x9
      generalize os.set k t = o1 at *
      generalize wr.setCell ⟨ba, oa + k, none⟩ (.int .u64 (t : Int)) = w2 at *
      clear HS HO1 hown hgr honly
      go_loopw [7, 70] (fun cv iv wr => BackRel B w a k o1 ys cv iv wr) (fun _ iv _ => k - (intOf iv).toNat)
      case atStart => exact ⟨0, 0, o1, by omega, rfl, rfl, by omega, hown1, hgr2, honly2, rfl, by simp⟩
      case round =>
        obtain ⟨j, cr, os, hk, rfl, rfl, hcr, hown, hgr, honly, hdr, hval⟩ := hrel
        have HV := Lib.hid hval
        have HD := Lib.hid hdr
        clear hval hdr
        obtain ⟨ba, oa, hixa, hca, haa⟩ := hown.sl.ix (P := Tryz.prog) Tryz.underlying23 H1.out H3.out
        by_cases hlt : j < k
        · obtain ⟨bb, ob, hixb, hcb, -⟩ := (hb.grown hgr HP.out).ix (P := Tryz.prog) Tryz.underlying23 H1.out H3.out
          have x1 := hixa j (by omega)
          have x2 := hca j (by omega)
          have x3 := hown.free (haa (by omega)) (oa + j)
          have HO := Lib.hid (haa (by omega))
          have x4 := hixb j hlt
          have x5 := hcb j hlt
          have p1 := hown.sl.bd.getD B64_pos j
          have p2 := hb.bd.getD B64_pos j
          have hx := (getD_of_drop HD.out).symm
          clear hixa hca haa hixb hcb
          obtain ⟨x, hx'⟩ : ∃ x, os.getD j 0 = x := ⟨_, rfl⟩
          obtain ⟨y, hy'⟩ : ∃ y, ys.getD j 0 = y := ⟨_, rfl⟩
          rw [hx'] at hx x2 p1
          rw [hy'] at x5 p2
          have HX := Lib.hid hx; have HY := Lib.hid hy'
          clear hx hx' hy'
          have x8 := add64_run x y cr hcr
          have e2 := addS_eq x y cr
          have hs1 := addS_lt x y cr
          have hc1 := addC_le p1 p2 hcr
          have HR := Lib.hid (back_round (os := os) (xs := o1) (ys := ys) (by rw [hown.sl.len]; omega) HX.out HY.out e2 HV.out)
          generalize addS x y cr = s1 at *
          generalize addC x y cr = c1 at *
          have HS := Lib.hid (fun n : Nat => (hown.old ((Ext.refl _).drewN n)).store HO.out j s1 (by omega) hs1)
          clear e2
          go_wp2_with fail
          go_region
          go_wp2_with fail
          go_roundw
          case rel =>
            refine ⟨j + 1, c1, os.set j s1, by omega, by go_num, rfl, hc1, (HS.out 0).1.old ((Ext.refl _).drew), grownBy_trans (grownBy_trans hgr (HS.out 0).2) (((Ext.refl _).drew).by_ _), (honly.store HO.out (by omega) _).drew, ?_, HR.out⟩
            rw [drop_set_lo _ _ _ _ (by omega)]; exact drop_succ_of_drop HD.out
          case measure => simp [intOf]; omega
        · obtain rfl : j = k := by omega
          have x1 := hixa j (by omega)
          have x2 := hca j (by omega)
          have x3 := hown.free (haa (by omega)) (oa + j)
          have HO := Lib.hid (haa (by omega))
          have p1 := hown.sl.bd.getD B64_pos j
          obtain ⟨z2, hz⟩ : ∃ z2, os.getD j 0 = z2 := ⟨_, rfl⟩
          rw [hz] at x2 p1
          have HZ := Lib.hid hz
          clear hz hixa hca haa
          obtain ⟨t2, ht2⟩ : ∃ t2, (z2 + cr) % B64 = t2 := ⟨_, rfl⟩
          have hw1 : IntKind.u64.wrap ((z2 : Int) + (cr : Int)) = (t2 : Int) := by
            rw [← Int.natCast_add, u64_wrap_nat, ht2]
          have htb : t2 < B64 := by rw [← ht2]; exact Nat.mod_lt _ B64_pos
          have hle2 : d' * val ys ≤ val xs := HLO.out
          have hX : val o1 + (d' + 1) * val ys = val xs + B64 ^ (j + 1) := by
            have := HT2.out
            rw [HDD.out, Nat.mul_one] at this
            exact this
          have hhi : val xs < (d' + 1) * val ys := by rw [← HDD.out]; exact HLE.out
          have HF := Lib.hid (back_top hown.sl.len hown1.sl.len HLY.out hown.sl.bd HZ.out HD.out ht2 HV.out p1 hcr hX hle2 hhi)
          have HS := Lib.hid (hown.store HO.out j t2 (by omega) htb)
          clear ht2 hX hhi hle2
          go_wp2_with fail
          go_ret
          exact ⟨os.set j t2, rfl, HF.out, HS.out.1, grownBy_trans hgr HS.out.2, honly.store HO.out (by omega) _⟩

end Go.Proofs.YtifoflicflodcaaGreatDoor
