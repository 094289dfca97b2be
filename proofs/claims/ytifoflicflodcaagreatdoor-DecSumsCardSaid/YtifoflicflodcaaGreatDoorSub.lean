/- nat.less, nat.Sub. -/
import Derived.Test.YtifoflicflodcaaGreatDoorCmp
namespace Go.Proofs.YtifoflicflodcaaGreatDoor
open Go.RowKit

/-- What a difference's loop keeps. -/
def LessRel (B : Nat) (w : World) (a : Option Addr) (m c : Nat) (xs ys : List Nat) (cv iv : Value) (wr : World) : Prop :=
  ∃ (k cr : Nat) (os : List Nat), k ≤ m ∧ iv = .int .i64 k ∧ cv = .int .u64 cr ∧ cr ≤ 1 ∧ Own B wr a m c os ∧ w.grownBy wr (blk a) ∧ os.drop k = xs.drop k ∧
    nv B64 (os.take k) + nv B64 (ys.take k) = nv B64 (xs.take k) + B64 ^ k * cr

theorem getD_of_drop {xs ys : List Nat} {k : Nat} (h : xs.drop k = ys.drop k) : xs.getD k 0 = ys.getD k 0 := by
  have := congrArg (fun l => l.getD 0 0) h
  simpa [List.getD_eq_getElem?_getD, List.getElem?_drop] using this
theorem drop_succ_of_drop {xs ys : List Nat} {k : Nat} (h : xs.drop k = ys.drop k) : xs.drop (k + 1) = ys.drop (k + 1) := by
  have := congrArg (List.drop 1) h
  simpa [List.drop_drop] using this

theorem grownBy_trans {a b c : World} {row : Option Nat} (h : a.grownBy b row) (k : b.grownBy c row) : a.grownBy c row :=
  ⟨k.os.trans h.os, k.tape.trans h.tape, k.output.trans h.output, Nat.le_trans h.size k.size, fun j hj hne => (k.block j (Nat.lt_of_lt_of_le hj h.size) hne).trans (h.block j hj hne)⟩
theorem grownBy_refl (w : World) (row : Option Nat) : w.grownBy w row := ⟨rfl, rfl, rfl, Nat.le_refl _, fun _ _ _ => rfl⟩
theorem Ext.grown' {B : Nat} {w wr w1 : World} {a : Option Addr} {n c : Nat} {xs : List Nat} (h : Ext w wr) (hown : Own B wr a n c xs) (hB : w.heap.size ≤ B) (hg : wr.grownBy w1 (blk a)) : Ext w w1 :=
  Below.grown h hg h.size (fun j hj => Nat.le_trans hB (hown.ge j hj).1)

/-- The call leaves in the slice (a, m, c) what reads as os, and turns nothing else. -/
def Left (B : Nat) (w : World) (a : Option Addr) (m c : Nat) (os : List Nat) (e : Ending) (w' : World) : Prop :=
  e = .returned (.tuple #[]) ∧ Own B w' a m c os ∧ w.grownBy w' (blk a)

theorem less_done {xs ys os : List Nat} {m cr : Nat} (hx : xs.length = m) (hy : ys.length ≤ m) (ho : os.length = m) (bo : Bd B64 os) (hcr : cr ≤ 1) (hle : val ys ≤ val xs)
    (h : nv B64 (os.take m) + nv B64 (ys.take m) = nv B64 (xs.take m) + B64 ^ m * cr) : val os = val xs - val ys := by
  rw [nv_take_of_le B64 os m (by omega), nv_take_of_le B64 xs m (by omega), nv_take_of_le B64 ys m hy] at h
  have h1 := nv_lt bo
  rw [ho] at h1
  unfold val at *
  rcases (by omega : cr = 0 ∨ cr = 1) with rfl | rfl
  · omega
  · exfalso; omega

set_option maxHeartbeats 1000000 in
set_option maxRecDepth 100000 in
theorem less_calls {B : Nat} {a b : Option Addr} {m n c d : Nat} {xs ys : List Nat} {w : World} (ha : Own B w a m c xs) (hb : Sl w b n d ys) (hap : n = 0 ∨ blk a = none ∨ blk b ≠ blk a) (hm : m ≤ 1000000000) (hnm : n ≤ m) (hle : val ys ≤ val xs) :
    Calls Tryz.prog 75 #[.slice a m c, .slice b n d] w (fun e w' => ∃ os, val os = val xs - val ys ∧ Left B w a m c os e w') := by
  obtain ⟨i0, hi, hz0, hs, hby⟩ := info_parts info64
  have H1 := Lib.hid hi; have H3 := Lib.hid hs; have HP := Lib.hid hap; have HLE := Lib.hid hle
  have HLX := Lib.hid ha.sl.len; have HLY := Lib.hid hb.len
  have q1 := ha.sl.big
  have q2 := ha.sl.cap
  have q3 := hb.big
  have q4 := hb.cap
  clear hi hz0 hs hby hap hle
  go_enter Tryz.func75, Tryz.ntmps75
  go_wp2_with fail
  go_loopw [4, 9] (fun cv iv wr => LessRel B w a m c xs ys cv iv wr) (fun _ iv _ => m - (intOf iv).toNat)
  case atStart => exact ⟨0, 0, xs, by omega, rfl, rfl, by omega, ha, grownBy_refl _ _, rfl, by simp⟩
  case round =>
    obtain ⟨k, cr, os, hk, rfl, rfl, hcr, hown, hgr, hdr, hval⟩ := hrel
    have HV := Lib.hid hval
    have HD := Lib.hid hdr
    clear hval hdr
    by_cases hlt : k < m
    · obtain ⟨ba, oa, hixa, hca, haa⟩ := hown.sl.ix (P := Tryz.prog) Tryz.underlying23 H1.out H3.out
      have x1 := hixa k hlt
      have x2 := hca k hlt
      have x5 := hown.free (haa (by omega)) (oa + k)
      have HO := Lib.hid (haa (by omega))
      have p1 := hown.sl.bd.getD B64_pos k
      have p2 := hb.bd.getD B64_pos k
      have HTX := Lib.hid (nv_take_succ' B64 xs k)
      have HTY := Lib.hid (nv_take_succ' B64 ys k)
      rw [← getD_of_drop HD.out] at HTX
      clear hixa hca haa
      by_cases hlt2 : k < n
      · obtain ⟨bb, ob, hixb, hcb, -⟩ := (hb.grown hgr HP.out).ix (P := Tryz.prog) Tryz.underlying23 H1.out H3.out
        have x6 := hixb k hlt2
        have x7 := hcb k hlt2
        clear hixb hcb
        generalize os.getD k 0 = u at *
        generalize ys.getD k 0 = v at *
        have x8 := sub64_run u v cr hcr
        have HS := Lib.hid (hown.store HO.out k (subS u v cr) (by omega) (subS_lt _ _ _))
        go_wp2
        go_roundw
        case rel =>
          refine ⟨k + 1, subC u v cr, os.set k (subS u v cr), by omega, by go_num, rfl, subC_le _ _ _, HS.out.1, grownBy_trans hgr HS.out.2, ?_, ?_⟩
          · rw [drop_set_lo _ _ _ _ (by omega)]; exact drop_succ_of_drop HD.out
          · rw [HTX.out, HTY.out, nv_take_set _ _ _ _ (by rw [hown.sl.len]; omega), Nat.pow_succ]
            exact sub_round HV.out (subS_eq p1 p2 hcr)
        case measure => simp [intOf]; omega
      · have HZ := Lib.hid (getD_of_ge (xs := ys) (i := k) (by rw [HLY.out]; omega))
        rw [HZ.out] at p2 HTY
        generalize os.getD k 0 = u at *
        have x8 := sub64_run1 u cr hcr
        have HS := Lib.hid (hown.store HO.out k (subS u 0 cr) (by omega) (subS_lt _ _ _))
        go_wp2
        go_roundw
        case rel =>
          refine ⟨k + 1, subC u 0 cr, os.set k (subS u 0 cr), by omega, by go_num, rfl, subC_le _ _ _, HS.out.1, grownBy_trans hgr HS.out.2, ?_, ?_⟩
          · rw [drop_set_lo _ _ _ _ (by omega)]; exact drop_succ_of_drop HD.out
          · rw [HTX.out, HTY.out, nv_take_set _ _ _ _ (by rw [hown.sl.len]; omega), Nat.pow_succ]
            exact sub_round HV.out (subS_eq p1 p2 hcr)
        case measure => simp [intOf]; omega
    · obtain rfl : k = m := by omega
      have HW := Lib.hid (less_done HLX.out (by rw [HLY.out]; exact hnm) hown.sl.len hown.sl.bd hcr HLE.out HV.out)
      go_wp2_with fail
      go_end0
      exact ⟨os, HW.out, rfl, hown, hgr⟩

/-- Two results: a new number, and an error that is a number. -/
def New2 (w : World) (L : Nat) (xs : List Nat) (er : Int) (e : Ending) (w' : World) : Prop :=
  ∃ a n c, e = .returned (.tuple #[.slice a n c, .int .i64 er]) ∧ Own w.heap.size w' a n c xs ∧ Ext w w' ∧ n ≤ L

set_option maxHeartbeats 1000000 in
set_option maxRecDepth 100000 in
theorem sub_calls_lt {a b : Option Addr} {m n c d : Nat} {xs ys : List Nat} {w : World} (ha : Sl w a m c xs) (hb : Sl w b n d ys) (hm : m ≤ 1000000000) (hn : n ≤ 1000000000) (h : val xs < val ys) :
    Calls Tryz.prog 45 #[.slice a m c, .slice b n d] w (New2 w m [] 10) := by
  have CC := Lib.hid (cmp_calls ha hb hm hn)
  have HC := Lib.hid (cmpN_lt h)
  go_enter Tryz.func45, Tryz.ntmps45
  go_wp2_with fail
  refine CC.out.mono ?_
  rintro e w' ⟨rfl, k, rfl⟩
  rw [HC.out]
  go_wp2_with fail
  go_ret2
  exact ⟨none, 0, 0, rfl, Own.nil _ _, (Ext.refl _).drewN _, by omega⟩

set_option maxHeartbeats 1000000 in
set_option maxRecDepth 100000 in
theorem sub_calls_ge {a b : Option Addr} {m n c d : Nat} {xs ys : List Nat} {w : World} (ha : Sl w a m c xs) (hb : Sl w b n d ys) (hm : m ≤ 1000000000) (hn : n ≤ 1000000000) (h : val ys ≤ val xs) :
    Calls Tryz.prog 45 #[.slice a m c, .slice b n d] w (New2 w m (lim (val xs - val ys)) 0) := by
  have CC := Lib.hid (cmp_calls ha hb hm hn)
  have hc : (decide (cmpN (val xs) (val ys) < 0)) = false := by
    unfold cmpN; rw [if_neg (by omega)]; split <;> rfl
  have HC := Lib.hid hc
  have HL := Lib.hid h
  clear hc h
  have hlen : (lim (val ys)).length ≤ (lim (val xs)).length := digs_len_mono B64_two HL.out
  have HVX := Lib.hid (val_lim (val xs))
  have HVY := Lib.hid (val_lim (val ys))
  have hlx := ha.trimmed_len
  generalize cmpN (val xs) (val ys) = cc at *
  go_enter Tryz.func45, Tryz.ntmps45
  go_wp2_with fail
  refine CC.out.mono ?_
  rintro e w' ⟨rfl, k, rfl⟩
  have hcc := HC.out
  go_wp2_with fail
  have hax := ha.old ((Ext.refl _).drewN k)
  have hbx := hb.old ((Ext.refl _).drewN k)
  refine (norm_calls hax hm).mono ?_
  rintro e w1 ⟨o, no, co, rfl, hown, hext, hno⟩
  go_wp2_with fail
  refine (trimmed_calls (hbx.old hext)).mono ?_
  rintro e w' ⟨rfl, rfl⟩
  have hno' : no = (lim (val xs)).length := by rw [← hown.sl.len]
  have HN := Lib.hid hno'
  clear hno'
  go_wp2_with fail
  have hb2 := (hbx.old hext).trimmed
  have hap : (lim (val ys)).length = 0 ∨ blk o = none ∨ blk b ≠ blk o := by
    rcases hbx.apart hown (Nat.le_refl _) with h0 | h0 | h0
    · left; have := hbx.trimmed_len; omega
    · exact .inr (.inl h0)
    · exact .inr (.inr h0)
  refine (less_calls hown hb2 hap (by omega) (by rw [HN.out]; exact hlen) (by rw [HVX.out, HVY.out]; exact HL.out)).mono ?_
  rintro e w2 ⟨os, hos, rfl, hown2, hgr⟩
  rw [HVX.out, HVY.out] at hos
  have HOS := Lib.hid hos
  clear hos
  go_wp2_with fail
  have hext2 : Ext w w2 := (((Ext.refl _).drewN k).trans hext).grown' hown (by simp) hgr
  refine (trimmed_calls hown2.sl).mono ?_
  rintro e w' ⟨rfl, rfl⟩
  go_wp2_with fail
  go_ret2
  have hfin := hown2.trimmed
  have hll := hown2.sl.trimmed_len
  rw [HOS.out] at hfin hll
  refine ⟨o, _, _, ?_, hfin.mono (by simp), hext2, by omega⟩
  rw [HOS.out]; rfl

end Go.Proofs.YtifoflicflodcaaGreatDoor
