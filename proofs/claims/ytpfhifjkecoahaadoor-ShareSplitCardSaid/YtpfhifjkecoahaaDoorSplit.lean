/- gleanlaw10.ShareSplit: the walk. -/
import Derived.Test.YtpfhifjkecoahaaDoorSplitR
namespace Go.Proofs.YtpfhifjkecoahaaDoor
open Go.RowKit

/-- The parts: where each lies, what it reads as. -/
def Pt (w : World) (b off n : Nat) (ps : List Nat) : Prop :=
  ∀ k, k < n → ∃ a m c xs, (∀ w', Ext w w' → w'.cell? ⟨b, off + k, none⟩ = some (.slice a m c)) ∧ (∀ w', Ext w w' → Sl w' a m c xs) ∧ val xs = ps.getD k 0 ∧ m ≤ 12
theorem sum_take_succ {ps : List Nat} {k : Nat} (h : k < ps.length) : (ps.take (k + 1)).sum = (ps.take k).sum + ps.getD k 0 := by
  rw [List.take_succ_eq_append_getElem h, List.sum_append, getD_of_lt h]; simp
theorem le_sum {ps : List Nat} {k : Nat} (h : k < ps.length) : ps.getD k 0 ≤ ps.sum := by
  induction ps generalizing k with
  | nil => simp at h
  | cons p ps ih =>
    cases k with
    | zero => simp
    | succ k =>
      have := ih (k := k) (by simpa using h)
      simp only [List.getD_cons_succ, List.sum_cons]; omega
def wSum (T S : Nat) (ps : List Nat) : Nat := (ps.map (worV T S)).sum
theorem wSum_succ (T S : Nat) {ps : List Nat} {k : Nat} (h : k < ps.length) : wSum T S (ps.take (k + 1)) = wSum T S (ps.take k) + worV T S (ps.getD k 0) := by
  unfold wSum
  rw [List.take_succ_eq_append_getElem h, List.map_append, List.sum_append, getD_of_lt h]; simp
theorem wSum_le (T : Nat) (ps : List Nat) : wSum T ps.sum ps ≤ T * U36 := worV_sum T ps.sum ps rfl

/-- A variable of the type Dec, B its block. -/
def Bx (wr : World) (B : Nat) (a : Option Addr) (n c X : Nat) : Prop :=
  wr.heap[B]? = some (.cells #[.slice a n c] 26 (0, 0)) ∧ ∃ xs, Sl wr a n c xs ∧ val xs = X
theorem Bx.old {w w' : World} {B : Nat} {a : Option Addr} {n c X : Nat} (h : Bx w B a n c X) (E : Ext w w') : Bx w' B a n c X := by
  obtain ⟨hr, xs, hs, hv⟩ := h
  exact ⟨row_ext E hr, xs, hs.old E, hv⟩

def SpRel1 (w1 : World) (B n : Nat) (ps : List Nat) (iv : Value) (wr : World) : Prop :=
  ∃ (k : Nat) (a : Option Addr) (m c : Nat), k ≤ n ∧ iv = .int .i64 (k : Int) ∧ Bx wr B a m c (ps.take k).sum ∧ m ≤ 13 * k ∧ Ext w1 wr

theorem Sl.setBox {w : World} {a : Option Addr} {n c : Nat} {xs : List Nat} (h : Sl w a n c xs) {B : Nat} {a' : Option Addr} {n' c' : Nat} {T : TypeId} (hB : w.heap[B]? = some (.cells #[.slice a' n' c'] T (0, 0))) (u : Value) :
    Sl (w.setCell ⟨B, 0, none⟩ u) a n c xs := by
  refine h.grown (setCell_by w B u) ?_
  by_cases h0 : n = 0
  · exact .inl h0
  · refine .inr (.inr ?_)
    intro he
    rcases h.at_ with hh | ⟨b, off, rfl, hc⟩
    · omega
    · simp only [blk, Option.map_some, Option.some.injEq] at he
      subst he
      have := hc 0 (by omega)
      rw [cell_of_row _ _ _ _ _ _ hB] at this
      rcases Nat.eq_zero_or_pos (off + 0) with h1 | h1
      · rw [h1] at this; cases this
      · rw [Array.getElem?_eq_none (by show 1 ≤ _; omega)] at this; cases this
theorem Bx.set {w : World} {B B' : Nat} {a a' : Option Addr} {n c X n' c' : Nat} {T : TypeId} (h : Bx w B a n c X) (hB : w.heap[B']? = some (.cells #[.slice a' n' c'] T (0, 0))) (hne : B ≠ B') (u : Value) : Bx (w.setCell ⟨B', 0, none⟩ u) B a n c X := by
  obtain ⟨hr, xs, hs, hv⟩ := h
  refine ⟨?_, xs, hs.setBox hB u, hv⟩
  rw [heap_setCell_other _ _ _ _ (by simpa using hne)]; exact hr

theorem setCell_keeps' {w' : World} {ad : Addr} {v : Value} (h : w'.cell? ad = some v) {B : Nat} (hne : ad.block ≠ B) (u : Value) : (w'.setCell ⟨B, 0, none⟩ u).cell? ad = some v := by
  rw [World.cell?_setCell_other _ _ _ _ (fun e => hne (by rw [← e]))]; exact h
theorem row_set {w : World} {B B' : Nat} {o : Obj} (r : w.heap[B]? = some o) (hne : B ≠ B') (u : Value) : (w.setCell ⟨B', 0, none⟩ u).heap[B]? = some o := by
  rw [heap_setCell_other _ _ _ _ (by simpa using hne)]; exact r

def SpRel2 (w1 : World) (T S B5 B7 n : Nat) (ps : List Nat) (ab : Option Addr) (mb cb : Nat) (iv : Value) (wr : World) : Prop :=
  ∃ (i : Nat) (a : Option Addr) (m c : Nat), i ≤ n ∧ iv = .int .i64 (i : Int) ∧ Bx wr B5 ab mb cb S ∧ Bx wr B7 a m c (wSum T S (ps.take i)) ∧ m ≤ 18 * i ∧ Ext w1 wr
def SpRel3 (W : World) (i : Nat) (kv : Value) (wr : World) : Prop := ∃ k : Nat, k ≤ i ∧ kv = .int .i64 (k : Int) ∧ Ext W wr

set_option maxHeartbeats 16000000 in
set_option maxRecDepth 100000 in
theorem split_law {a : Option Addr} {n c : Nat} {vs : List (Option Addr × Nat × Nat)} {ps : List Nat} {w : World} (T : Nat) (hT : T < B64) (ha : DSl w a n c vs) (hps : ps.length = n)
    (hval : ∀ k v, vs[k]? = some v → ∃ xs, Sl w v.1 v.2.1 v.2.2 xs ∧ val xs = ps.getD k 0) (htab : Tab w) :
    Calls Tryd.prog 4 #[.int .u64 (T : Int), .slice a n c] w (RetE (.bool true) w) := by
  obtain ⟨i0, hi, hs⟩ : ∃ i, Tryd.prog.info? 26 = some i ∧ i.size = 1 := by
    have h := infoDec
    cases hq : Tryd.prog.info? 26 with
    | none => simp [hq] at h
    | some i => simp [hq] at h; exact ⟨i, rfl, h.1⟩
  obtain ⟨b, off, hix, hcell⟩ := ha.ix (P := Tryd.prog) Tryd.underlying38 hi hs
  have HIX := Lib.hid hix
  have HT := Lib.hid hT
  have HTAB := Lib.hid htab
  have hnbig : n ≤ 9223372036854775807 := Nat.le_trans ha.cap ha.big
  have HPT := Lib.hid (show (∀ (k : Nat) (v : Option Addr × Nat × Nat), vs[k]? = some v → v.2.1 ≤ 12) → Pt w b off n ps by
    intro h12 k hk
    obtain ⟨v, hv⟩ : ∃ v, vs[k]? = some v := ⟨_, List.getElem?_eq_getElem (by rw [ha.len]; exact hk)⟩
    obtain ⟨xs, hsl, hvv⟩ := hval k v hv
    exact ⟨v.1, v.2.1, v.2.2, xs, fun w' h => h.cell (hcell k v hv), fun w' h => hsl.old h, hvv, h12 k v hv⟩)
  have HD := Lib.hid ha
  have HLEN := Lib.hid hps
  clear hix hcell hi hs hval ha hT htab hps
  go_enter Tryd.func4, Tryd.ntmps4
  go_wp2_with fail
  refine (known_calls _ HTAB.out).mono ?_
  rintro e w1 ⟨rfl, hext1⟩
  have E1 := Lib.hid hext1
  clear hext1
  by_cases hn : n ≤ 20
  rotate_left
  · have g1 : (20 : Int) < (n : Int) := by omega
    go_wp2_with fail
    go_ret
    exact ⟨rfl, E1.out⟩
  have g1 : ¬ (20 : Int) < (n : Int) := by omega
  have HSM := Lib.hid (smallL_calls (HD.out.old E1.out))
  by_cases h12 : vs.all twelve = true
  rotate_left
  · rw [Bool.eq_false_iff.2 h12] at HSM
    go_wp2_with fail
    refine HSM.out.mono ?_
    rintro e w2 ⟨rfl, rfl⟩
    go_wp2_with fail
    go_ret
    exact ⟨rfl, E1.out⟩
  have HP := Lib.hid (HPT.out (fun k v hv => by
    have := List.all_eq_true.1 h12 _ (List.mem_of_getElem? hv)
    simpa [twelve] using this))
  rw [h12] at HSM
  clear h12 HPT
  go_wp2_with fail
  refine HSM.out.mono ?_
  rintro e w2 ⟨rfl, rfl⟩
  go_wp2_with fail
  go_loopw [6] (fun iv wr => SpRel1 w1 w1.heap.size n ps iv wr) (fun iv _ => n - (intOf iv).toNat)
  case atStart => exact ⟨0, none, 0, 0, by omega, rfl, ⟨heap_alloc_new _ _, [], Sl.nil _, by simp [val, nv]⟩, by omega, (Ext.refl _).alloc _⟩
  case round =>
    obtain ⟨k, ab, mb, cb, hk, rfl, hbx, hmb, hex⟩ := hrel
    have HBX := Lib.hid hbx
    have HEX := Lib.hid hex
    clear hbx hex
    by_cases hkn : k = n
    · subst hkn
      obtain ⟨w6, h6⟩ : ∃ w6, w6 = wr := ⟨wr, rfl⟩
      subst h6
      obtain ⟨S, hS⟩ : ∃ S, ps.sum = S := ⟨_, rfl⟩
      have hbx5 := HBX.out
      rw [List.take_of_length_le (by rw [HLEN.out]; omega), hS] at hbx5
      have HS := Lib.hid hS
      have HB5 := Lib.hid hbx5
      have hmS : mb ≤ 13 * 20 := by omega
      have hlt5 := Lib.hid (row_lt hbx5.1)
      clear hbx5 hS HBX
      go_wp2_with fail
      go_loopw [8] (fun iv w' => SpRel2 w1 T S w1.heap.size w6.heap.size k ps ab mb cb iv w') (fun iv _ => k - (intOf iv).toNat)
      case atStart => exact ⟨0, none, 0, 0, by omega, rfl, HB5.out.old ((Ext.refl _).alloc _), ⟨heap_alloc_new _ _, [], Sl.nil _, by simp [val, nv, wSum]⟩, by omega, HEX.out.alloc _⟩
      case round =>
        obtain ⟨i, a7, m7, c7, hi, rfl, hbx5, hbx7, hm7, hex2⟩ := hrel
        have H5 := Lib.hid hbx5; have H7 := Lib.hid hbx7; have HX2 := Lib.hid hex2
        have hne : w1.heap.size ≠ w6.heap.size := by have := hlt5.out; omega
        have HNE := Lib.hid hne
        clear hbx5 hbx7 hex2 hne
        by_cases hin : i = k
        · subst hin
          have hq := wSum_le T ps
          rw [HS.out] at hq
          obtain ⟨q, hqe, hq0⟩ : ∃ q : Int, cmpN (wSum T S ps) (T * U36) = q ∧ q ≤ 0 := by
            rcases Nat.lt_or_eq_of_le hq with h | h
            · exact ⟨_, cmpN_lt h, by decide⟩
            · exact ⟨_, cmpN_eq h, by decide⟩
          have HQ := Lib.hid hqe
          have h7 := H7.out
          rw [List.take_of_length_le (by rw [HLEN.out]; omega)] at h7
          have k1 := row_cell h7.1
          obtain ⟨zs, hzs, hzv⟩ := h7.2
          have HZS := Lib.hid hzs; have HZV := Lib.hid hzv
          clear h7 hzs hzv hq hqe
          go_wp2_with fail
          go_region_with (first | (go_at_call 19; refine (dof_calls T HT.out _).mono ?_; rintro e w8 ⟨o8, n8, c8, rfl, hown8, hext8, hno8⟩; have E8 := ((Ext.refl wr).drew).trans hext8; have k2 := row_cell (row_ext E8 H7.out.1)) | (go_at_call 10; refine (dcmp_calls (HZS.out.old E8) hown8.sl (by omega) (by omega)).mono ?_; rintro e w9 ⟨rfl, hext9⟩; have E9 := E8.trans hext9; rw [HZV.out, val_lim, HQ.out]))
          all_goals (
            go_wp2_with fail
            go_ret
            exact ⟨rfl, (E1.out.trans HX2.out).trans E9⟩)
        · have hlt : (i : Int) < (k : Int) := by omega
          obtain ⟨ap, mp, cp, xs, hc, hsl, hv, hm12⟩ := HP.out i (by omega)
          have HSL := Lib.hid hsl; have HC := Lib.hid hc
          obtain ⟨p, hp⟩ : ∃ p, ps.getD i 0 = p := ⟨_, rfl⟩
          rw [hp] at hv
          have HV := Lib.hid hv
          have HPE := Lib.hid hp
          have hpS : p ≤ S := by rw [← hp, ← HS.out]; exact le_sum (by rw [HLEN.out]; omega)
          have HPS := Lib.hid hpS
          clear hc hsl hv hp
          have x1 := HIX.out i (by omega)
          obtain ⟨V, hVe⟩ : ∃ V, worV T S p = V := ⟨_, rfl⟩
          have HVE := Lib.hid hVe
          obtain ⟨r, hre⟩ : ∃ r, redV T S p = r := ⟨_, rfl⟩
          have HR := Lib.hid hre
          have HRE := Lib.hid (show redE S p = 0 by unfold redE; rw [if_neg (by omega)])
          obtain ⟨ys, hys, hyv⟩ := H5.out.2
          have HYS := Lib.hid hys; have HYV := Lib.hid hyv
          obtain ⟨zs, hzs, hzv⟩ := H7.out.2
          have HZS := Lib.hid hzs; have HZV := Lib.hid hzv
          have hS14 : ∀ w', Ext wr w' → w'.cell? ⟨w1.heap.size, 0, none⟩ = some (.slice ab mb cb) ∧ w'.cell? ⟨b, off + i, none⟩ = some (.slice ap mp cp) :=
            fun w' h => ⟨row_cell (row_ext h H5.out.1), HC.out _ ((E1.out.trans HX2.out).trans h)⟩
          have HS14 := Lib.hid hS14
          have HS15 := Lib.hid (fun w' (h : Ext wr w') (B : Nat) (hB : wr.heap.size ≤ B) (u : Value) => (⟨setCell_keeps' (hS14 w' h).1 (by have := row_lt H5.out.1; show w1.heap.size ≠ B; omega) u, setCell_keeps' (hS14 w' h).2 (by have := World.block_lt_of_cell? wr _ (hS14 wr (Ext.refl _)).2; show b ≠ B; simp only at this; omega) u⟩ :
            (w'.setCell ⟨B, 0, none⟩ u).cell? ⟨w1.heap.size, 0, none⟩ = some (.slice ab mb cb) ∧ (w'.setCell ⟨B, 0, none⟩ u).cell? ⟨b, off + i, none⟩ = some (.slice ap mp cp)))
          clear hVe hre hys hyv hzs hzv hS14 hpS
          go_wp2_with fail
          refine wp_region_mid (fun A A' W' => ∃ (BX : Nat) (o8 : Option Addr) (n8 c8 : Nat), A' = putsFrom A A' [9, 47, 48, 49, 50, 51, 52, 53] ∧ A'.tmps.getD 9 undef = .pointer (some ⟨BX, 0, none⟩) ∧ wr.heap.size ≤ BX ∧ Ext wr W' ∧ W'.heap[BX]? = some (.cells #[.slice o8 n8 c8] 26 (0, 0)) ∧ Sl W' o8 n8 c8 (lim V) ∧ n8 ≤ 17) ?_ ?_
          · skip
            go_region_held3 (fun w' => w'.cell? ⟨w1.heap.size, 0, none⟩ = some (.slice ab mb cb) ∧ w'.cell? ⟨b, off + i, none⟩ = some (.slice ap mp cp))
              (first | exact HS14.out _ (Ext.refl _) | exact HS14.out _ ((Ext.refl _).drew) | exact HS14.out _ ((Ext.refl _).drew.alloc _) | exact HS14.out _ (by assumption) | exact HS14.out _ (Ext.alloc (by assumption) _) | exact HS15.out _ (by assumption) _ (Nat.le_refl _) _ | exact HS15.out _ (Ext.alloc (by assumption) _) _ (Ext.size (by assumption)) _)
              (first | (go_at_call 15; refine (worth_at T S p V (HYS.out.old (by first | exact (Ext.refl _).drew | exact ((Ext.refl _).drew).alloc _)) (HSL.out _ (by first | exact (E1.out.trans HX2.out).drew | exact ((E1.out.trans HX2.out).drew).alloc _)) (by omega) (by omega) HYV.out HV.out HVE.out HT.out).mono ?_; rintro e w8 ⟨o8, n8, c8, rfl, hown8, hext8, hno8⟩; have E8 : Ext wr w8 := (by first | exact ((Ext.refl _).drew).trans hext8 | exact (((Ext.refl _).drew).alloc _).trans hext8); (first | have R9 : Hid (w8.heap[wr.heap.size]? = some (.cells #[.slice none 0 0] 26 (0, 0))) := Lib.hid (row_new (w := wr.drew) hext8) | skip); (first | have k1 := row_cell R9.out | skip); (first | have k2 := row_free R9.out | skip)))
            all_goals (
              first
                | have PK := pack (u := .slice o8 n8 c8) R9.out E8 (Nat.le_refl _) hown8 (by show wr.heap.size < (wr.alloc _).heap.size; rw [alloc_size]; omega)
                | have PK := packA (u := .slice o8 n8 c8) (T := 26) E8 hown8
              obtain ⟨wF, hwF, EF, RF, SF⟩ := PK
              rw [← hwF]
              exact Mid.mk ⟨_, o8, n8, c8, by first | kernel_rfl | rfl, by rfl, by first | exact Nat.le_refl _ | exact E8.size, EF, RF, SF.sl, by omega⟩)
          rintro A' wF ⟨BX, o8, n8, c8, hA', hp9, hBX, EF, RF, hSFsl, hno8⟩
          simp only [putsFrom, List.foldl_cons, List.foldl_nil, hp9] at hA'
          clear hp9
          generalize A'.tmps.getD 47 undef = v47 at hA'
          generalize A'.tmps.getD 48 undef = v48 at hA'
          generalize A'.tmps.getD 49 undef = v49 at hA'
          generalize A'.tmps.getD 50 undef = v50 at hA'
          generalize A'.tmps.getD 51 undef = v51 at hA'
          generalize A'.tmps.getD 52 undef = v52 at hA'
          generalize A'.tmps.getD 53 undef = v53 at hA'
          subst hA'
          simp only [Act.put, List.setIfInBounds_toArray, List.set_cons_zero, List.set_cons_succ]
          have l1 := row_lt H7.out.1
          have l2 := hBX
          have HEF := Lib.hid EF; have HRF := Lib.hid RF; have HSF := Lib.hid hSFsl
          have k3 := row_cell (row_ext EF H7.out.1)
          have k4 := row_cell RF
          clear EF RF hSFsl
          go_wp2_with fail
          refine (dadd_calls (HZS.out.old HEF.out) HSF.out (by omega) (by omega)).mono ?_
          rintro e wA ⟨oA, nA, cA, rfl, hownA, hextA, hnoA⟩
          rw [HZV.out, val_lim] at hownA
          have EA := HEF.out.trans hextA
          have RA7 := row_ext EA H7.out.1
          have k5 := row_cell RA7
          have k6 := row_free RA7
          obtain ⟨W10, hW10⟩ : ∃ W10, wA.setCell ⟨w6.heap.size, 0, none⟩ (.slice oA nA cA) = W10 := ⟨_, rfl⟩
          have D5 : Bx W10 w1.heap.size ab mb cb S := by rw [← hW10]; exact (H5.out.old EA).set RA7 HNE.out _
          have D7 : Bx W10 w6.heap.size oA nA cA (wSum T S (ps.take i) + V) := by
            rw [← hW10]; exact ⟨heap_setCell_same wA _ 0 _ _ _ RA7, _, hownA.sl.setBox RA7 _, val_lim _⟩
          have D9 := row_set (row_ext hextA HRF.out) (show _ ≠ w6.heap.size by omega) (.slice oA nA cA)
          rw [hW10] at D9
          have S9 : Sl W10 o8 n8 c8 (lim V) := by rw [← hW10]; exact (HSF.out.old hextA).setBox RA7 _
          have EX10 : Ext w1 W10 := by rw [← hW10]; exact box_store _ (HX2.out.trans EA) (by have := hlt5.out; omega)
          have HD5 := Lib.hid D5; have HD7 := Lib.hid D7; have HD9 := Lib.hid D9; have HS9 := Lib.hid S9; have HX10 := Lib.hid EX10; have HW10 := Lib.hid hW10
          obtain ⟨yt, hyt, hytv⟩ := D5.2
          have HYT := Lib.hid hyt; have HYTV := Lib.hid hytv
          have HS16 := Lib.hid (fun w' (h : Ext W10 w') => (⟨row_cell (row_ext h D5.1), HC.out _ (E1.out.trans (EX10.trans h))⟩ : w'.cell? ⟨w1.heap.size, 0, none⟩ = some (.slice ab mb cb) ∧ w'.cell? ⟨b, off + i, none⟩ = some (.slice ap mp cp)))
          clear D5 D7 D9 S9 EX10 hW10 hyt hytv k3 k4 RA7 hownA EA hextA
          go_wp2_with (rw [HW10.out])
          go_region_held3 (fun w' => w'.cell? ⟨w1.heap.size, 0, none⟩ = some (.slice ab mb cb) ∧ w'.cell? ⟨b, off + i, none⟩ = some (.slice ap mp cp))
            (first | exact HS16.out _ (Ext.refl _) | exact HS16.out _ ((Ext.refl _).drew) | exact HS16.out _ (by assumption))
            (first | (go_at_call 11; refine (redeem_at T S p r 0 (HYT.out.old (Ext.refl _).drew) (HSL.out _ (E1.out.trans HX10.out).drew) (by omega) (by omega) HYTV.out HV.out HR.out HRE.out HT.out).mono ?_; rintro e w11 ⟨rfl, hext11⟩; have E11 : Ext W10 w11 := ((Ext.refl _).drew).trans hext11))
          have HE11 := Lib.hid E11
          have k9 := row_cell (row_ext E11 HD9.out)
          clear k5 k6 E11 hext11
          go_wp2_with fail
          refine (dtrunc_calls (HS9.out.old HE11.out) (by omega)).mono ?_
          rintro e w12 ⟨a1, d1, L1, a2, d2, L2, rfl, hown1, hown2, hext12, hl1, hl2⟩
          rw [val_lim] at hown1
          obtain ⟨W13, hW13⟩ : ∃ W13, w12.alloc (.cells #[.slice a2 L2 d2] 26) = W13 := ⟨_, rfl⟩
          have HE13 := Lib.hid (show Ext W10 W13 by rw [← hW13]; exact (HE11.out.trans hext12).alloc _)
          have HQ1 := Lib.hid (show Sl W13 a1 L1 d1 (lim (V / U36)) by rw [← hW13]; exact hown1.sl.old ((Ext.refl _).alloc _))
          have HW13 := Lib.hid hW13
          clear hW13 k9 hown1 hown2 hext12
          obtain ⟨q, hqe, hq0⟩ : ∃ q : Int, cmpN p S = q ∧ ((q = -1 ∧ V / U36 = r) ∨ (decide (q < (0 : Int)) = false ∧ ¬ q < (0 : Int))) := by
            rcases Nat.lt_or_eq_of_le HPS.out with h | h
            · exact ⟨_, cmpN_lt h, .inl ⟨rfl, by rw [← HVE.out, ← HR.out]; exact worV_whole h⟩⟩
            · exact ⟨_, cmpN_eq h, .inr (by decide)⟩
          have HQE := Lib.hid hqe
          have hrB : r < B64 := by rw [← HR.out]; exact Nat.lt_of_le_of_lt (redV_le T S p) HT.out
          have HRB := Lib.hid hrB
          clear hqe hrB
          go_wp2_with (rw [HW13.out])
          refine wp_region_mid (fun A A' W' => A' = putsFrom A A' [72, 73, 74, 75, 76, 77, 78, 79, 80, 81, 82, 83, 84, 85, 86, 87, 88, 89] ∧ A'.tmps.getD 89 undef = .bool false ∧ Ext W10 W') ?_ ?_
          · rcases hq0 with ⟨rfl, hVr⟩ | ⟨z0, z00⟩
            · have HDEC := Lib.hid (show decide (lim (V / U36) = lim r) = true by rw [hVr]; exact decide_eq_true rfl)
              clear hVr
              go_region_held3 (fun w' => w'.cell? ⟨w1.heap.size, 0, none⟩ = some (.slice ab mb cb) ∧ w'.cell? ⟨b, off + i, none⟩ = some (.slice ap mp cp))
                (first | exact HS16.out _ HE13.out | exact HS16.out _ HE13.out.drew | exact HS16.out _ (by assumption))
                (first | (go_at_call 10; refine (dcmp_calls (HSL.out _ (E1.out.trans (HX10.out.trans HE13.out)).drew) (HYT.out.old HE13.out.drew) (by omega) (by omega)).mono ?_; rintro e w14 ⟨rfl, hext14⟩; have E14 : Ext W10 w14 := HE13.out.drew.trans hext14; have X14 : Ext W13 w14 := ((Ext.refl _).drew).trans hext14; rw [HV.out, HYTV.out, HQE.out]) | (go_at_call 18; refine (of_calls r HRB.out _).mono ?_; rintro e w15 ⟨o15, n15, c15, rfl, hown15, hext15, hno15⟩; have E15 := E14.trans hext15; have X15 := X14.trans hext15) | (go_at_call 17; refine (hnat_calls (HQ1.out.old X15) hown15.sl (by omega) (by omega)).mono ?_; rintro e w16 ⟨rfl, m16, rfl⟩; rw [HDEC.out]; have E16 := E15.drewN m16))
              exact Mid.mk ⟨by first | kernel_rfl | rfl, by rfl, E16⟩
            · skip
              refine wp_region_held_drew (S := (fun w' => w'.cell? ⟨w1.heap.size, 0, none⟩ = some (.slice ab mb cb) ∧ w'.cell? ⟨b, off + i, none⟩ = some (.slice ap mp cp))) (by kernel_rfl) (HS16.out _ HE13.out.drew) (fun hHeld => ?_)
              refine takeW (i := 0) (v := ?_) rfl (by kernel_rfl) (by kernel_rfl) (by kernel_rfl) (fun _ _ _ h => h) (Or.inl ⟨by rfl, ?_⟩) (by assumption) ?_
              rotate_left
              · (intro wz hSw; (try dsimp only at hSw); go_simp <;> with_reducible rfl)
              try simp only [Act.put, List.setIfInBounds_toArray, List.set_cons_zero, List.set_cons_succ]
              refine takeW (i := 1) (v := ?_) rfl (by kernel_rfl) (by kernel_rfl) (by kernel_rfl) (fun _ _ _ h => h) (Or.inl ⟨by rfl, ?_⟩) (by assumption) ?_
              rotate_left
              · (intro wz hSw; (try dsimp only at hSw); go_simp <;> with_reducible rfl)
              try simp only [Act.put, List.setIfInBounds_toArray, List.set_cons_zero, List.set_cons_succ]
              refine takeW (i := 2) (v := ?_) rfl (by kernel_rfl) (by kernel_rfl) (by kernel_rfl) (fun _ _ _ h => h) (Or.inl ⟨by rfl, ?_⟩) (by assumption) ?_
              rotate_left
              · (intro wz hSw; (try dsimp only at hSw); go_simp <;> with_reducible rfl)
              try simp only [Act.put, List.setIfInBounds_toArray, List.set_cons_zero, List.set_cons_succ]
              refine takeW (i := 3) (v := ?_) rfl (by kernel_rfl) (by kernel_rfl) (by kernel_rfl) (fun _ _ _ h => h) (Or.inl ⟨by rfl, ?_⟩) (by assumption) ?_
              rotate_left
              · (intro wz hSw; (try dsimp only at hSw); go_simp <;> with_reducible rfl)
              try simp only [Act.put, List.setIfInBounds_toArray, List.set_cons_zero, List.set_cons_succ]
              refine takeW (i := 4) (v := ?_) rfl (by kernel_rfl) (by kernel_rfl) (by kernel_rfl) (fun _ _ _ h => h) (Or.inl ⟨by rfl, ?_⟩) (by assumption) ?_
              rotate_left
              · (intro wz hSw; (try dsimp only at hSw); go_simp <;> with_reducible rfl)
              try simp only [Act.put, List.setIfInBounds_toArray, List.set_cons_zero, List.set_cons_succ]
              refine takeW (i := 5) (v := ?_) rfl (by kernel_rfl) (by kernel_rfl) (by kernel_rfl) (fun _ _ _ h => h) (Or.inl ⟨by rfl, ?_⟩) (by assumption) ?_
              rotate_left
              · (intro wz hSw; (try dsimp only at hSw); go_simp <;> with_reducible rfl)
              try simp only [Act.put, List.setIfInBounds_toArray, List.set_cons_zero, List.set_cons_succ]
              refine takeW (i := 6) (v := ?_) rfl (by kernel_rfl) (by kernel_rfl) (by kernel_rfl) (fun _ _ _ h => h) (Or.inl ⟨by rfl, ?_⟩) (by assumption) ?_
              rotate_left
              · (intro wz hSw; (try dsimp only at hSw); go_simp <;> with_reducible rfl)
              try simp only [Act.put, List.setIfInBounds_toArray, List.set_cons_zero, List.set_cons_succ]
              refine takeW (i := 7) (v := ?_) rfl (by kernel_rfl) (by kernel_rfl) (by kernel_rfl) (fun _ _ _ h => h) (Or.inl ⟨by rfl, ?_⟩) (by assumption) ?_
              rotate_left
              · (intro wz hSw; (try dsimp only at hSw); go_simp <;> with_reducible rfl)
              try simp only [Act.put, List.setIfInBounds_toArray, List.set_cons_zero, List.set_cons_succ]
              refine wpAnyH_ready (rs := [8]) (by kernel_rfl) (by simp) ?_
              refine consW rfl (fun K hK => ?_) AllReadyH.nil
              go_simp
              go_at_call 10
              refine (dcmp_calls (HSL.out _ (E1.out.trans (HX10.out.trans HE13.out)).drew) (HYT.out.old HE13.out.drew) (by omega) (by omega)).mono ?_
              rintro e w14 ⟨rfl, hext14⟩
              have E14 : Ext W10 w14 := HE13.out.drew.trans hext14
              rw [HV.out, HYTV.out, HQE.out]
              try go_wp2_with fail
              refine hK.out _ _ ?_ (fun hHeld => ?_)
              · (try dsimp only); exact HS16.out _ E14
              clear hK K
              try simp only [Act.put, List.setIfInBounds_toArray, List.set_cons_zero, List.set_cons_succ]
              refine takeW (i := 9) (v := ?_) rfl (by kernel_rfl) (by kernel_rfl) (by kernel_rfl) (fun _ _ _ h => h) (Or.inl ⟨by rfl, ?_⟩) (by assumption) ?_
              rotate_left
              · (intro wz hSw; (try dsimp only at hSw); go_simp <;> with_reducible rfl)
              try simp only [Act.put, List.setIfInBounds_toArray, List.set_cons_zero, List.set_cons_succ]
              refine takeW (i := 10) (v := ?_) rfl (by kernel_rfl) (by kernel_rfl) (by kernel_rfl) (fun _ _ _ h => h) (Or.inl ⟨by rfl, ?_⟩) (by assumption) ?_
              rotate_left
              · (intro wz hSw; (try dsimp only at hSw); go_simp <;> with_reducible rfl)
              try simp only [Act.put, List.setIfInBounds_toArray, List.set_cons_zero, List.set_cons_succ]
              refine skipW (i := 11) rfl (by kernel_rfl) (by kernel_rfl) (by kernel_rfl) (fun _ _ _ h => h) (by rfl) (by assumption) ?_
              try simp only [Act.put, List.setIfInBounds_toArray, List.set_cons_zero, List.set_cons_succ]
              refine skipW (i := 12) rfl (by kernel_rfl) (by kernel_rfl) (by kernel_rfl) (fun _ _ _ h => h) (by rfl) (by assumption) ?_
              try simp only [Act.put, List.setIfInBounds_toArray, List.set_cons_zero, List.set_cons_succ]
              refine skipW (i := 13) rfl (by kernel_rfl) (by kernel_rfl) (by kernel_rfl) (fun _ _ _ h => h) (by rfl) (by assumption) ?_
              try simp only [Act.put, List.setIfInBounds_toArray, List.set_cons_zero, List.set_cons_succ]
              refine skipW (i := 14) rfl (by kernel_rfl) (by kernel_rfl) (by kernel_rfl) (fun _ _ _ h => h) (by rfl) (by assumption) ?_
              try simp only [Act.put, List.setIfInBounds_toArray, List.set_cons_zero, List.set_cons_succ]
              refine skipW (i := 15) rfl (by kernel_rfl) (by kernel_rfl) (by kernel_rfl) (fun _ _ _ h => h) (by rfl) (by assumption) ?_
              try simp only [Act.put, List.setIfInBounds_toArray, List.set_cons_zero, List.set_cons_succ]
              refine takeW (i := 16) (v := ?_) rfl (by kernel_rfl) (by kernel_rfl) (by kernel_rfl) (fun _ _ _ h => h) (Or.inl ⟨by rfl, ?_⟩) (by assumption) ?_
              rotate_left
              · (intro wz hSw; (try dsimp only at hSw); go_simp <;> with_reducible rfl)
              try simp only [Act.put, List.setIfInBounds_toArray, List.set_cons_zero, List.set_cons_succ]
              refine takeW (i := 17) (v := ?_) rfl (by kernel_rfl) (by kernel_rfl) (by kernel_rfl) (fun _ _ _ h => h) (Or.inl ⟨by rfl, ?_⟩) (by assumption) ?_
              rotate_left
              · (intro wz hSw; (try dsimp only at hSw); go_simp <;> with_reducible rfl)
              try simp only [Act.put, List.setIfInBounds_toArray, List.set_cons_zero, List.set_cons_succ]
              refine wpAnyH_done (by kernel_rfl) ?_ _
              exact Mid.mk ⟨by first | kernel_rfl | rfl, by rfl, E14⟩
          rintro A' wI ⟨hA', hp89, hEI⟩
          have HE18 := Lib.hid hEI
          simp only [putsFrom, List.foldl_cons, List.foldl_nil, hp89] at hA'
          clear hp89 hEI
          generalize A'.tmps.getD 72 undef = v72 at hA'
          generalize A'.tmps.getD 73 undef = v73 at hA'
          generalize A'.tmps.getD 74 undef = v74 at hA'
          generalize A'.tmps.getD 75 undef = v75 at hA'
          generalize A'.tmps.getD 76 undef = v76 at hA'
          generalize A'.tmps.getD 77 undef = v77 at hA'
          generalize A'.tmps.getD 78 undef = v78 at hA'
          generalize A'.tmps.getD 79 undef = v79 at hA'
          generalize A'.tmps.getD 80 undef = v80 at hA'
          generalize A'.tmps.getD 81 undef = v81 at hA'
          generalize A'.tmps.getD 82 undef = v82 at hA'
          generalize A'.tmps.getD 83 undef = v83 at hA'
          generalize A'.tmps.getD 84 undef = v84 at hA'
          generalize A'.tmps.getD 85 undef = v85 at hA'
          generalize A'.tmps.getD 86 undef = v86 at hA'
          generalize A'.tmps.getD 87 undef = v87 at hA'
          generalize A'.tmps.getD 88 undef = v88 at hA'
          subst hA'
          simp only [Act.put, List.setIfInBounds_toArray, List.set_cons_zero, List.set_cons_succ]
          have HEi : Hid (∀ w', Ext W10 w' → Ext w w') := Lib.hid (fun w' h => E1.out.trans (HX10.out.trans h))
          go_wp2_with fail
          go_loopw [14] (fun kv w' => SpRel3 W10 i kv w') (fun kv _ => i - (intOf kv).toNat)
          case atStart => exact ⟨0, by omega, rfl, HE18.out⟩
          case round =>
            obtain ⟨j, hj, rfl, hx3⟩ := hrel
            have HX3 := Lib.hid hx3
            clear hx3
            by_cases hji : j = i
            · subst hji
              go_wp2_with fail
              go_roundw
              case rel => exact ⟨j + 1, oA, nA, cA, by omega, by go_num, HD5.out.old HX3.out, by rw [wSum_succ T S (by rw [HLEN.out]; omega), HPE.out, HVE.out]; exact HD7.out.old HX3.out, by omega, HX10.out.trans HX3.out⟩
              case measure => simp only [intOf]; omega
            · have hltj : (j : Int) < (i : Int) := by omega
              obtain ⟨aj, mj, cj, xj, hcj, hslj, hvj, hm12j⟩ := HP.out j (by omega)
              have HSLJ := Lib.hid hslj; have HCJ := Lib.hid hcj
              obtain ⟨pj, hpj⟩ : ∃ p, ps.getD j 0 = p := ⟨_, rfl⟩
              rw [hpj] at hvj
              have HVJ := Lib.hid hvj
              have hpjS : pj ≤ S := by rw [← hpj, ← HS.out]; exact le_sum (by rw [HLEN.out]; omega)
              obtain ⟨o, hoe⟩ : ∃ o, redV T S pj = o := ⟨_, rfl⟩
              have HO := Lib.hid hoe
              have HOE := Lib.hid (show redE S pj = 0 by unfold redE; rw [if_neg (by omega)])
              have x2 := HIX.out j (by omega)
              have hmono : (pj ≤ p → o ≤ r) ∧ (p ≤ pj → r ≤ o) := by
                rw [← hoe, ← HR.out]
                exact ⟨fun h => redV_mono T S h HPS.out, fun h => redV_mono T S h hpjS⟩
              have HS23 := Lib.hid (fun w' (h : Ext W10 w') => (⟨(HS16.out w' h).1, (HS16.out w' h).2, HCJ.out _ (HEi.out _ h)⟩ : w'.cell? ⟨w1.heap.size, 0, none⟩ = some (.slice ab mb cb) ∧ w'.cell? ⟨b, off + i, none⟩ = some (.slice ap mp cp) ∧ w'.cell? ⟨b, off + j, none⟩ = some (.slice aj mj cj)))
              clear hcj hslj hvj hpj hoe hpjS
              go_wp2_with fail
              go_region_held3 (fun w' => w'.cell? ⟨w1.heap.size, 0, none⟩ = some (.slice ab mb cb) ∧ w'.cell? ⟨b, off + i, none⟩ = some (.slice ap mp cp) ∧ w'.cell? ⟨b, off + j, none⟩ = some (.slice aj mj cj))
                (first | exact HS23.out _ HX3.out | exact HS23.out _ HX3.out.drew | exact HS23.out _ (by assumption))
                (first | (go_at_call 11; refine (redeem_at T S pj o 0 (HYT.out.old HX3.out.drew) (HSLJ.out _ (HEi.out _ HX3.out.drew)) (by omega) (by omega) HYTV.out HVJ.out HO.out HOE.out HT.out).mono ?_; rintro e w20 ⟨rfl, hext20⟩; have E20 : Ext W10 w20 := HX3.out.drew.trans hext20))
              have HE20 := Lib.hid E20
              clear E20 hext20
              rcases Nat.lt_trichotomy pj p with h | h | h
              · obtain ⟨q2, hq2e, z1, z2, z3, z4⟩ : ∃ q2 : Int, cmpN pj p = q2 ∧ decide (q2 ≤ (0 : Int)) = true ∧ q2 ≤ (0 : Int) ∧ decide ((0 : Int) ≤ q2) = false ∧ ¬ ((0 : Int) ≤ q2) := ⟨_, cmpN_lt h, by decide, by decide, by decide, by decide⟩
                have HQ2 := Lib.hid hq2e
                have g2 : decide (r < o) = false := decide_eq_false (by have := hmono.1 (by omega); omega)
                clear h hmono hq2e
                go_wp2_with fail
                refine wp_region_held_drew (S := (fun w' => w'.cell? ⟨w1.heap.size, 0, none⟩ = some (.slice ab mb cb) ∧ w'.cell? ⟨b, off + i, none⟩ = some (.slice ap mp cp) ∧ w'.cell? ⟨b, off + j, none⟩ = some (.slice aj mj cj))) (by kernel_rfl) (HS23.out _ HE20.out.drew) (fun hHeld => ?_)
                refine takeW (i := 0) (v := ?_) rfl (by kernel_rfl) (by kernel_rfl) (by kernel_rfl) (fun _ _ _ h => h) (Or.inl ⟨by rfl, ?_⟩) (by assumption) ?_
                rotate_left
                · (intro wz hSw; (try dsimp only at hSw); go_simp <;> with_reducible rfl)
                try simp only [Act.put, List.setIfInBounds_toArray, List.set_cons_zero, List.set_cons_succ]
                refine takeW (i := 1) (v := ?_) rfl (by kernel_rfl) (by kernel_rfl) (by kernel_rfl) (fun _ _ _ h => h) (Or.inl ⟨by rfl, ?_⟩) (by assumption) ?_
                rotate_left
                · (intro wz hSw; (try dsimp only at hSw); go_simp <;> with_reducible rfl)
                try simp only [Act.put, List.setIfInBounds_toArray, List.set_cons_zero, List.set_cons_succ]
                refine takeW (i := 2) (v := ?_) rfl (by kernel_rfl) (by kernel_rfl) (by kernel_rfl) (fun _ _ _ h => h) (Or.inl ⟨by rfl, ?_⟩) (by assumption) ?_
                rotate_left
                · (intro wz hSw; (try dsimp only at hSw); go_simp <;> with_reducible rfl)
                try simp only [Act.put, List.setIfInBounds_toArray, List.set_cons_zero, List.set_cons_succ]
                refine takeW (i := 3) (v := ?_) rfl (by kernel_rfl) (by kernel_rfl) (by kernel_rfl) (fun _ _ _ h => h) (Or.inl ⟨by rfl, ?_⟩) (by assumption) ?_
                rotate_left
                · (intro wz hSw; (try dsimp only at hSw); go_simp <;> with_reducible rfl)
                try simp only [Act.put, List.setIfInBounds_toArray, List.set_cons_zero, List.set_cons_succ]
                refine takeW (i := 4) (v := ?_) rfl (by kernel_rfl) (by kernel_rfl) (by kernel_rfl) (fun _ _ _ h => h) (Or.inl ⟨by rfl, ?_⟩) (by assumption) ?_
                rotate_left
                · (intro wz hSw; (try dsimp only at hSw); go_simp <;> with_reducible rfl)
                try simp only [Act.put, List.setIfInBounds_toArray, List.set_cons_zero, List.set_cons_succ]
                refine takeW (i := 5) (v := ?_) rfl (by kernel_rfl) (by kernel_rfl) (by kernel_rfl) (fun _ _ _ h => h) (Or.inl ⟨by rfl, ?_⟩) (by assumption) ?_
                rotate_left
                · (intro wz hSw; (try dsimp only at hSw); go_simp <;> with_reducible rfl)
                try simp only [Act.put, List.setIfInBounds_toArray, List.set_cons_zero, List.set_cons_succ]
                refine takeW (i := 6) (v := ?_) rfl (by kernel_rfl) (by kernel_rfl) (by kernel_rfl) (fun _ _ _ h => h) (Or.inl ⟨by rfl, ?_⟩) (by assumption) ?_
                rotate_left
                · (intro wz hSw; (try dsimp only at hSw); go_simp <;> with_reducible rfl)
                try simp only [Act.put, List.setIfInBounds_toArray, List.set_cons_zero, List.set_cons_succ]
                refine takeW (i := 7) (v := ?_) rfl (by kernel_rfl) (by kernel_rfl) (by kernel_rfl) (fun _ _ _ h => h) (Or.inl ⟨by rfl, ?_⟩) (by assumption) ?_
                rotate_left
                · (intro wz hSw; (try dsimp only at hSw); go_simp <;> with_reducible rfl)
                try simp only [Act.put, List.setIfInBounds_toArray, List.set_cons_zero, List.set_cons_succ]
                refine takeW (i := 8) (v := ?_) rfl (by kernel_rfl) (by kernel_rfl) (by kernel_rfl) (fun _ _ _ h => h) (Or.inl ⟨by rfl, ?_⟩) (by assumption) ?_
                rotate_left
                · (intro wz hSw; (try dsimp only at hSw); go_simp <;> with_reducible rfl)
                try simp only [Act.put, List.setIfInBounds_toArray, List.set_cons_zero, List.set_cons_succ]
                refine takeW (i := 9) (v := ?_) rfl (by kernel_rfl) (by kernel_rfl) (by kernel_rfl) (fun _ _ _ h => h) (Or.inl ⟨by rfl, ?_⟩) (by assumption) ?_
                rotate_left
                · (intro wz hSw; (try dsimp only at hSw); go_simp <;> with_reducible rfl)
                try simp only [Act.put, List.setIfInBounds_toArray, List.set_cons_zero, List.set_cons_succ]
                refine takeW (i := 10) (v := ?_) rfl (by kernel_rfl) (by kernel_rfl) (by kernel_rfl) (fun _ _ _ h => h) (Or.inl ⟨by rfl, ?_⟩) (by assumption) ?_
                rotate_left
                · (intro wz hSw; (try dsimp only at hSw); go_simp <;> with_reducible rfl)
                try simp only [Act.put, List.setIfInBounds_toArray, List.set_cons_zero, List.set_cons_succ]
                refine wpAnyH_ready (rs := [11]) (by kernel_rfl) (by simp) ?_
                refine consW rfl (fun K hK => ?_) AllReadyH.nil
                go_simp
                go_at_call 10
                refine (dcmp_calls (HSLJ.out _ (HEi.out _ HE20.out.drew)) (HSL.out _ (HEi.out _ HE20.out.drew)) (by omega) (by omega)).mono ?_
                rintro e w21 ⟨rfl, hext21⟩
                have E21 : Ext W10 w21 := HE20.out.drew.trans hext21
                rw [HVJ.out, HV.out, HQ2.out]
                try go_wp2_with fail
                refine hK.out _ _ ?_ (fun hHeld => ?_)
                · (try dsimp only); exact HS23.out _ E21
                clear hK K
                try simp only [Act.put, List.setIfInBounds_toArray, List.set_cons_zero, List.set_cons_succ]
                refine takeW (i := 12) (v := ?_) rfl (by kernel_rfl) (by kernel_rfl) (by kernel_rfl) (fun _ _ _ h => h) (Or.inl ⟨by rfl, ?_⟩) (by assumption) ?_
                rotate_left
                · (intro wz hSw; (try dsimp only at hSw); go_simp <;> with_reducible rfl)
                try simp only [Act.put, List.setIfInBounds_toArray, List.set_cons_zero, List.set_cons_succ]
                refine takeW (i := 13) (v := ?_) rfl (by kernel_rfl) (by kernel_rfl) (by kernel_rfl) (fun _ _ _ h => h) (Or.inl ⟨by rfl, ?_⟩) (by assumption) ?_
                rotate_left
                · (intro wz hSw; (try dsimp only at hSw); go_simp <;> with_reducible rfl)
                try simp only [Act.put, List.setIfInBounds_toArray, List.set_cons_zero, List.set_cons_succ]
                refine takeW (i := 14) (v := ?_) rfl (by kernel_rfl) (by kernel_rfl) (by kernel_rfl) (fun _ _ _ h => h) (Or.inl ⟨by rfl, ?_⟩) (by assumption) ?_
                rotate_left
                · (intro wz hSw; (try dsimp only at hSw); go_simp <;> with_reducible rfl)
                try simp only [Act.put, List.setIfInBounds_toArray, List.set_cons_zero, List.set_cons_succ]
                refine takeW (i := 15) (v := ?_) rfl (by kernel_rfl) (by kernel_rfl) (by kernel_rfl) (fun _ _ _ h => h) (Or.inl ⟨by rfl, ?_⟩) (by assumption) ?_
                rotate_left
                · (intro wz hSw; (try dsimp only at hSw); go_simp <;> with_reducible rfl)
                try simp only [Act.put, List.setIfInBounds_toArray, List.set_cons_zero, List.set_cons_succ]
                refine takeW (i := 16) (v := ?_) rfl (by kernel_rfl) (by kernel_rfl) (by kernel_rfl) (fun _ _ _ h => h) (Or.inl ⟨by rfl, ?_⟩) (by assumption) ?_
                rotate_left
                · (intro wz hSw; (try dsimp only at hSw); go_simp <;> with_reducible rfl)
                try simp only [Act.put, List.setIfInBounds_toArray, List.set_cons_zero, List.set_cons_succ]
                refine takeW (i := 17) (v := ?_) rfl (by kernel_rfl) (by kernel_rfl) (by kernel_rfl) (fun _ _ _ h => h) (Or.inl ⟨by rfl, ?_⟩) (by assumption) ?_
                rotate_left
                · (intro wz hSw; (try dsimp only at hSw); go_simp <;> with_reducible rfl)
                try simp only [Act.put, List.setIfInBounds_toArray, List.set_cons_zero, List.set_cons_succ]
                refine takeW (i := 18) (v := ?_) rfl (by kernel_rfl) (by kernel_rfl) (by kernel_rfl) (fun _ _ _ h => h) (Or.inl ⟨by rfl, ?_⟩) (by assumption) ?_
                rotate_left
                · (intro wz hSw; (try dsimp only at hSw); go_simp <;> with_reducible rfl)
                try simp only [Act.put, List.setIfInBounds_toArray, List.set_cons_zero, List.set_cons_succ]
                refine takeW (i := 19) (v := ?_) rfl (by kernel_rfl) (by kernel_rfl) (by kernel_rfl) (fun _ _ _ h => h) (Or.inl ⟨by rfl, ?_⟩) (by assumption) ?_
                rotate_left
                · (intro wz hSw; (try dsimp only at hSw); go_simp <;> with_reducible rfl)
                try simp only [Act.put, List.setIfInBounds_toArray, List.set_cons_zero, List.set_cons_succ]
                refine takeW (i := 20) (v := ?_) rfl (by kernel_rfl) (by kernel_rfl) (by kernel_rfl) (fun _ _ _ h => h) (Or.inl ⟨by rfl, ?_⟩) (by assumption) ?_
                rotate_left
                · (intro wz hSw; (try dsimp only at hSw); go_simp <;> with_reducible rfl)
                try simp only [Act.put, List.setIfInBounds_toArray, List.set_cons_zero, List.set_cons_succ]
                refine takeW (i := 21) (v := ?_) rfl (by kernel_rfl) (by kernel_rfl) (by kernel_rfl) (fun _ _ _ h => h) (Or.inl ⟨by rfl, ?_⟩) (by assumption) ?_
                rotate_left
                · (intro wz hSw; (try dsimp only at hSw); go_simp <;> with_reducible rfl)
                try simp only [Act.put, List.setIfInBounds_toArray, List.set_cons_zero, List.set_cons_succ]
                refine takeW (i := 22) (v := ?_) rfl (by kernel_rfl) (by kernel_rfl) (by kernel_rfl) (fun _ _ _ h => h) (Or.inl ⟨by rfl, ?_⟩) (by assumption) ?_
                rotate_left
                · (intro wz hSw; (try dsimp only at hSw); go_simp <;> with_reducible rfl)
                try simp only [Act.put, List.setIfInBounds_toArray, List.set_cons_zero, List.set_cons_succ]
                refine takeW (i := 23) (v := ?_) rfl (by kernel_rfl) (by kernel_rfl) (by kernel_rfl) (fun _ _ _ h => h) (Or.inl ⟨by rfl, ?_⟩) (by assumption) ?_
                rotate_left
                · (intro wz hSw; (try dsimp only at hSw); go_simp <;> with_reducible rfl)
                try simp only [Act.put, List.setIfInBounds_toArray, List.set_cons_zero, List.set_cons_succ]
                refine takeW (i := 24) (v := ?_) rfl (by kernel_rfl) (by kernel_rfl) (by kernel_rfl) (fun _ _ _ h => h) (Or.inl ⟨by rfl, ?_⟩) (by assumption) ?_
                rotate_left
                · (intro wz hSw; (try dsimp only at hSw); go_simp <;> with_reducible rfl)
                try simp only [Act.put, List.setIfInBounds_toArray, List.set_cons_zero, List.set_cons_succ]
                refine takeW (i := 25) (v := ?_) rfl (by kernel_rfl) (by kernel_rfl) (by kernel_rfl) (fun _ _ _ h => h) (Or.inl ⟨by rfl, ?_⟩) (by assumption) ?_
                rotate_left
                · (intro wz hSw; (try dsimp only at hSw); go_simp <;> with_reducible rfl)
                try simp only [Act.put, List.setIfInBounds_toArray, List.set_cons_zero, List.set_cons_succ]
                refine takeW (i := 26) (v := ?_) rfl (by kernel_rfl) (by kernel_rfl) (by kernel_rfl) (fun _ _ _ h => h) (Or.inl ⟨by rfl, ?_⟩) (by assumption) ?_
                rotate_left
                · (intro wz hSw; (try dsimp only at hSw); go_simp <;> with_reducible rfl)
                try simp only [Act.put, List.setIfInBounds_toArray, List.set_cons_zero, List.set_cons_succ]
                refine takeW (i := 27) (v := ?_) rfl (by kernel_rfl) (by kernel_rfl) (by kernel_rfl) (fun _ _ _ h => h) (Or.inl ⟨by rfl, ?_⟩) (by assumption) ?_
                rotate_left
                · (intro wz hSw; (try dsimp only at hSw); go_simp <;> with_reducible rfl)
                try simp only [Act.put, List.setIfInBounds_toArray, List.set_cons_zero, List.set_cons_succ]
                refine wpAnyH_ready (rs := [28]) (by kernel_rfl) (by simp) ?_
                refine consW rfl (fun K hK => ?_) AllReadyH.nil
                go_simp
                go_at_call 10
                refine (dcmp_calls (HSLJ.out _ (HEi.out _ E21)) (HSL.out _ (HEi.out _ E21)) (by omega) (by omega)).mono ?_
                rintro e w22 ⟨rfl, hext22⟩
                have E22 : Ext W10 w22 := E21.trans hext22
                rw [HVJ.out, HV.out, HQ2.out]
                try go_wp2_with fail
                refine hK.out _ _ ?_ (fun hHeld => ?_)
                · (try dsimp only); exact HS23.out _ E22
                clear hK K
                try simp only [Act.put, List.setIfInBounds_toArray, List.set_cons_zero, List.set_cons_succ]
                refine takeW (i := 29) (v := ?_) rfl (by kernel_rfl) (by kernel_rfl) (by kernel_rfl) (fun _ _ _ h => h) (Or.inl ⟨by rfl, ?_⟩) (by assumption) ?_
                rotate_left
                · (intro wz hSw; (try dsimp only at hSw); go_simp <;> with_reducible rfl)
                try simp only [Act.put, List.setIfInBounds_toArray, List.set_cons_zero, List.set_cons_succ]
                refine takeW (i := 30) (v := ?_) rfl (by kernel_rfl) (by kernel_rfl) (by kernel_rfl) (fun _ _ _ h => h) (Or.inl ⟨by rfl, ?_⟩) (by assumption) ?_
                rotate_left
                · (intro wz hSw; (try dsimp only at hSw); go_simp <;> with_reducible rfl)
                try simp only [Act.put, List.setIfInBounds_toArray, List.set_cons_zero, List.set_cons_succ]
                refine skipW (i := 31) rfl (by kernel_rfl) (by kernel_rfl) (by kernel_rfl) (fun _ _ _ h => h) (by rfl) (by assumption) ?_
                try simp only [Act.put, List.setIfInBounds_toArray, List.set_cons_zero, List.set_cons_succ]
                refine skipW (i := 32) rfl (by kernel_rfl) (by kernel_rfl) (by kernel_rfl) (fun _ _ _ h => h) (by rfl) (by assumption) ?_
                try simp only [Act.put, List.setIfInBounds_toArray, List.set_cons_zero, List.set_cons_succ]
                refine skipW (i := 33) rfl (by kernel_rfl) (by kernel_rfl) (by kernel_rfl) (fun _ _ _ h => h) (by rfl) (by assumption) ?_
                try simp only [Act.put, List.setIfInBounds_toArray, List.set_cons_zero, List.set_cons_succ]
                refine takeW (i := 34) (v := ?_) rfl (by kernel_rfl) (by kernel_rfl) (by kernel_rfl) (fun _ _ _ h => h) (Or.inl ⟨by rfl, ?_⟩) (by assumption) ?_
                rotate_left
                · (intro wz hSw; (try dsimp only at hSw); go_simp <;> with_reducible rfl)
                try simp only [Act.put, List.setIfInBounds_toArray, List.set_cons_zero, List.set_cons_succ]
                refine takeW (i := 35) (v := ?_) rfl (by kernel_rfl) (by kernel_rfl) (by kernel_rfl) (fun _ _ _ h => h) (Or.inl ⟨by rfl, ?_⟩) (by assumption) ?_
                rotate_left
                · (intro wz hSw; (try dsimp only at hSw); go_simp <;> with_reducible rfl)
                try simp only [Act.put, List.setIfInBounds_toArray, List.set_cons_zero, List.set_cons_succ]
                refine wpAnyH_done (by kernel_rfl) ?_ _
                go_wp2_with fail
                go_roundw
                case rel => exact ⟨j + 1, by omega, by go_num, E22⟩
                case measure => simp only [intOf]; omega
              · obtain ⟨q2, hq2e, z1, z2, z3, z4⟩ : ∃ q2 : Int, cmpN pj p = q2 ∧ decide (q2 ≤ (0 : Int)) = true ∧ q2 ≤ (0 : Int) ∧ decide ((0 : Int) ≤ q2) = true ∧ (0 : Int) ≤ q2 := ⟨_, cmpN_eq h, by decide, by decide, by decide, by decide⟩
                have HQ2 := Lib.hid hq2e
                have g2 : decide (r < o) = false := decide_eq_false (by have := hmono.1 (by omega); omega)
                have g3 : decide (o < r) = false := decide_eq_false (by have := hmono.2 (by omega); omega)
                clear h hmono hq2e
                go_wp2_with fail
                go_region_held3 (fun w' => w'.cell? ⟨w1.heap.size, 0, none⟩ = some (.slice ab mb cb) ∧ w'.cell? ⟨b, off + i, none⟩ = some (.slice ap mp cp) ∧ w'.cell? ⟨b, off + j, none⟩ = some (.slice aj mj cj))
                  (first | exact HS23.out _ HE20.out | exact HS23.out _ HE20.out.drew | exact HS23.out _ (by assumption))
                  (first | (go_at_call 10; refine (dcmp_calls (HSLJ.out _ (HEi.out _ HE20.out.drew)) (HSL.out _ (HEi.out _ HE20.out.drew)) (by omega) (by omega)).mono ?_; rintro e w21 ⟨rfl, hext21⟩; have E21 : Ext W10 w21 := HE20.out.drew.trans hext21; rw [HVJ.out, HV.out, HQ2.out]) | (go_at_call 10; refine (dcmp_calls (HSLJ.out _ (HEi.out _ E21)) (HSL.out _ (HEi.out _ E21)) (by omega) (by omega)).mono ?_; rintro e w22 ⟨rfl, hext22⟩; have E22 : Ext W10 w22 := E21.trans hext22; rw [HVJ.out, HV.out, HQ2.out]))
                go_wp2_with fail
                go_roundw
                case rel => exact ⟨j + 1, by omega, by go_num, E22⟩
                case measure => simp only [intOf]; omega
              · obtain ⟨q2, hq2e, z1, z2, z3, z4⟩ : ∃ q2 : Int, cmpN pj p = q2 ∧ decide (q2 ≤ (0 : Int)) = false ∧ ¬ (q2 ≤ (0 : Int)) ∧ decide ((0 : Int) ≤ q2) = true ∧ (0 : Int) ≤ q2 := ⟨_, cmpN_gt h, by decide, by decide, by decide, by decide⟩
                have HQ2 := Lib.hid hq2e
                have g3 : decide (o < r) = false := decide_eq_false (by have := hmono.2 (by omega); omega)
                clear h hmono hq2e
                go_wp2_with fail
                refine wp_region_held_drew (S := (fun w' => w'.cell? ⟨w1.heap.size, 0, none⟩ = some (.slice ab mb cb) ∧ w'.cell? ⟨b, off + i, none⟩ = some (.slice ap mp cp) ∧ w'.cell? ⟨b, off + j, none⟩ = some (.slice aj mj cj))) (by kernel_rfl) (HS23.out _ HE20.out.drew) (fun hHeld => ?_)
                refine takeW (i := 0) (v := ?_) rfl (by kernel_rfl) (by kernel_rfl) (by kernel_rfl) (fun _ _ _ h => h) (Or.inl ⟨by rfl, ?_⟩) (by assumption) ?_
                rotate_left
                · (intro wz hSw; (try dsimp only at hSw); go_simp <;> with_reducible rfl)
                try simp only [Act.put, List.setIfInBounds_toArray, List.set_cons_zero, List.set_cons_succ]
                refine takeW (i := 1) (v := ?_) rfl (by kernel_rfl) (by kernel_rfl) (by kernel_rfl) (fun _ _ _ h => h) (Or.inl ⟨by rfl, ?_⟩) (by assumption) ?_
                rotate_left
                · (intro wz hSw; (try dsimp only at hSw); go_simp <;> with_reducible rfl)
                try simp only [Act.put, List.setIfInBounds_toArray, List.set_cons_zero, List.set_cons_succ]
                refine takeW (i := 2) (v := ?_) rfl (by kernel_rfl) (by kernel_rfl) (by kernel_rfl) (fun _ _ _ h => h) (Or.inl ⟨by rfl, ?_⟩) (by assumption) ?_
                rotate_left
                · (intro wz hSw; (try dsimp only at hSw); go_simp <;> with_reducible rfl)
                try simp only [Act.put, List.setIfInBounds_toArray, List.set_cons_zero, List.set_cons_succ]
                refine takeW (i := 3) (v := ?_) rfl (by kernel_rfl) (by kernel_rfl) (by kernel_rfl) (fun _ _ _ h => h) (Or.inl ⟨by rfl, ?_⟩) (by assumption) ?_
                rotate_left
                · (intro wz hSw; (try dsimp only at hSw); go_simp <;> with_reducible rfl)
                try simp only [Act.put, List.setIfInBounds_toArray, List.set_cons_zero, List.set_cons_succ]
                refine takeW (i := 4) (v := ?_) rfl (by kernel_rfl) (by kernel_rfl) (by kernel_rfl) (fun _ _ _ h => h) (Or.inl ⟨by rfl, ?_⟩) (by assumption) ?_
                rotate_left
                · (intro wz hSw; (try dsimp only at hSw); go_simp <;> with_reducible rfl)
                try simp only [Act.put, List.setIfInBounds_toArray, List.set_cons_zero, List.set_cons_succ]
                refine takeW (i := 5) (v := ?_) rfl (by kernel_rfl) (by kernel_rfl) (by kernel_rfl) (fun _ _ _ h => h) (Or.inl ⟨by rfl, ?_⟩) (by assumption) ?_
                rotate_left
                · (intro wz hSw; (try dsimp only at hSw); go_simp <;> with_reducible rfl)
                try simp only [Act.put, List.setIfInBounds_toArray, List.set_cons_zero, List.set_cons_succ]
                refine takeW (i := 6) (v := ?_) rfl (by kernel_rfl) (by kernel_rfl) (by kernel_rfl) (fun _ _ _ h => h) (Or.inl ⟨by rfl, ?_⟩) (by assumption) ?_
                rotate_left
                · (intro wz hSw; (try dsimp only at hSw); go_simp <;> with_reducible rfl)
                try simp only [Act.put, List.setIfInBounds_toArray, List.set_cons_zero, List.set_cons_succ]
                refine takeW (i := 7) (v := ?_) rfl (by kernel_rfl) (by kernel_rfl) (by kernel_rfl) (fun _ _ _ h => h) (Or.inl ⟨by rfl, ?_⟩) (by assumption) ?_
                rotate_left
                · (intro wz hSw; (try dsimp only at hSw); go_simp <;> with_reducible rfl)
                try simp only [Act.put, List.setIfInBounds_toArray, List.set_cons_zero, List.set_cons_succ]
                refine takeW (i := 8) (v := ?_) rfl (by kernel_rfl) (by kernel_rfl) (by kernel_rfl) (fun _ _ _ h => h) (Or.inl ⟨by rfl, ?_⟩) (by assumption) ?_
                rotate_left
                · (intro wz hSw; (try dsimp only at hSw); go_simp <;> with_reducible rfl)
                try simp only [Act.put, List.setIfInBounds_toArray, List.set_cons_zero, List.set_cons_succ]
                refine takeW (i := 9) (v := ?_) rfl (by kernel_rfl) (by kernel_rfl) (by kernel_rfl) (fun _ _ _ h => h) (Or.inl ⟨by rfl, ?_⟩) (by assumption) ?_
                rotate_left
                · (intro wz hSw; (try dsimp only at hSw); go_simp <;> with_reducible rfl)
                try simp only [Act.put, List.setIfInBounds_toArray, List.set_cons_zero, List.set_cons_succ]
                refine takeW (i := 10) (v := ?_) rfl (by kernel_rfl) (by kernel_rfl) (by kernel_rfl) (fun _ _ _ h => h) (Or.inl ⟨by rfl, ?_⟩) (by assumption) ?_
                rotate_left
                · (intro wz hSw; (try dsimp only at hSw); go_simp <;> with_reducible rfl)
                try simp only [Act.put, List.setIfInBounds_toArray, List.set_cons_zero, List.set_cons_succ]
                refine wpAnyH_ready (rs := [11]) (by kernel_rfl) (by simp) ?_
                refine consW rfl (fun K hK => ?_) AllReadyH.nil
                go_simp
                go_at_call 10
                refine (dcmp_calls (HSLJ.out _ (HEi.out _ HE20.out.drew)) (HSL.out _ (HEi.out _ HE20.out.drew)) (by omega) (by omega)).mono ?_
                rintro e w21 ⟨rfl, hext21⟩
                have E21 : Ext W10 w21 := HE20.out.drew.trans hext21
                rw [HVJ.out, HV.out, HQ2.out]
                try go_wp2_with fail
                refine hK.out _ _ ?_ (fun hHeld => ?_)
                · (try dsimp only); exact HS23.out _ E21
                clear hK K
                try simp only [Act.put, List.setIfInBounds_toArray, List.set_cons_zero, List.set_cons_succ]
                refine takeW (i := 12) (v := ?_) rfl (by kernel_rfl) (by kernel_rfl) (by kernel_rfl) (fun _ _ _ h => h) (Or.inl ⟨by rfl, ?_⟩) (by assumption) ?_
                rotate_left
                · (intro wz hSw; (try dsimp only at hSw); go_simp <;> with_reducible rfl)
                try simp only [Act.put, List.setIfInBounds_toArray, List.set_cons_zero, List.set_cons_succ]
                refine takeW (i := 13) (v := ?_) rfl (by kernel_rfl) (by kernel_rfl) (by kernel_rfl) (fun _ _ _ h => h) (Or.inl ⟨by rfl, ?_⟩) (by assumption) ?_
                rotate_left
                · (intro wz hSw; (try dsimp only at hSw); go_simp <;> with_reducible rfl)
                try simp only [Act.put, List.setIfInBounds_toArray, List.set_cons_zero, List.set_cons_succ]
                refine skipW (i := 14) rfl (by kernel_rfl) (by kernel_rfl) (by kernel_rfl) (fun _ _ _ h => h) (by rfl) (by assumption) ?_
                try simp only [Act.put, List.setIfInBounds_toArray, List.set_cons_zero, List.set_cons_succ]
                refine skipW (i := 15) rfl (by kernel_rfl) (by kernel_rfl) (by kernel_rfl) (fun _ _ _ h => h) (by rfl) (by assumption) ?_
                try simp only [Act.put, List.setIfInBounds_toArray, List.set_cons_zero, List.set_cons_succ]
                refine skipW (i := 16) rfl (by kernel_rfl) (by kernel_rfl) (by kernel_rfl) (fun _ _ _ h => h) (by rfl) (by assumption) ?_
                try simp only [Act.put, List.setIfInBounds_toArray, List.set_cons_zero, List.set_cons_succ]
                refine takeW (i := 17) (v := ?_) rfl (by kernel_rfl) (by kernel_rfl) (by kernel_rfl) (fun _ _ _ h => h) (Or.inl ⟨by rfl, ?_⟩) (by assumption) ?_
                rotate_left
                · (intro wz hSw; (try dsimp only at hSw); go_simp <;> with_reducible rfl)
                try simp only [Act.put, List.setIfInBounds_toArray, List.set_cons_zero, List.set_cons_succ]
                refine takeW (i := 18) (v := ?_) rfl (by kernel_rfl) (by kernel_rfl) (by kernel_rfl) (fun _ _ _ h => h) (Or.inl ⟨by rfl, ?_⟩) (by assumption) ?_
                rotate_left
                · (intro wz hSw; (try dsimp only at hSw); go_simp <;> with_reducible rfl)
                try simp only [Act.put, List.setIfInBounds_toArray, List.set_cons_zero, List.set_cons_succ]
                refine takeW (i := 19) (v := ?_) rfl (by kernel_rfl) (by kernel_rfl) (by kernel_rfl) (fun _ _ _ h => h) (Or.inl ⟨by rfl, ?_⟩) (by assumption) ?_
                rotate_left
                · (intro wz hSw; (try dsimp only at hSw); go_simp <;> with_reducible rfl)
                try simp only [Act.put, List.setIfInBounds_toArray, List.set_cons_zero, List.set_cons_succ]
                refine takeW (i := 20) (v := ?_) rfl (by kernel_rfl) (by kernel_rfl) (by kernel_rfl) (fun _ _ _ h => h) (Or.inl ⟨by rfl, ?_⟩) (by assumption) ?_
                rotate_left
                · (intro wz hSw; (try dsimp only at hSw); go_simp <;> with_reducible rfl)
                try simp only [Act.put, List.setIfInBounds_toArray, List.set_cons_zero, List.set_cons_succ]
                refine takeW (i := 21) (v := ?_) rfl (by kernel_rfl) (by kernel_rfl) (by kernel_rfl) (fun _ _ _ h => h) (Or.inl ⟨by rfl, ?_⟩) (by assumption) ?_
                rotate_left
                · (intro wz hSw; (try dsimp only at hSw); go_simp <;> with_reducible rfl)
                try simp only [Act.put, List.setIfInBounds_toArray, List.set_cons_zero, List.set_cons_succ]
                refine takeW (i := 22) (v := ?_) rfl (by kernel_rfl) (by kernel_rfl) (by kernel_rfl) (fun _ _ _ h => h) (Or.inl ⟨by rfl, ?_⟩) (by assumption) ?_
                rotate_left
                · (intro wz hSw; (try dsimp only at hSw); go_simp <;> with_reducible rfl)
                try simp only [Act.put, List.setIfInBounds_toArray, List.set_cons_zero, List.set_cons_succ]
                refine takeW (i := 23) (v := ?_) rfl (by kernel_rfl) (by kernel_rfl) (by kernel_rfl) (fun _ _ _ h => h) (Or.inl ⟨by rfl, ?_⟩) (by assumption) ?_
                rotate_left
                · (intro wz hSw; (try dsimp only at hSw); go_simp <;> with_reducible rfl)
                try simp only [Act.put, List.setIfInBounds_toArray, List.set_cons_zero, List.set_cons_succ]
                refine takeW (i := 24) (v := ?_) rfl (by kernel_rfl) (by kernel_rfl) (by kernel_rfl) (fun _ _ _ h => h) (Or.inl ⟨by rfl, ?_⟩) (by assumption) ?_
                rotate_left
                · (intro wz hSw; (try dsimp only at hSw); go_simp <;> with_reducible rfl)
                try simp only [Act.put, List.setIfInBounds_toArray, List.set_cons_zero, List.set_cons_succ]
                refine takeW (i := 25) (v := ?_) rfl (by kernel_rfl) (by kernel_rfl) (by kernel_rfl) (fun _ _ _ h => h) (Or.inl ⟨by rfl, ?_⟩) (by assumption) ?_
                rotate_left
                · (intro wz hSw; (try dsimp only at hSw); go_simp <;> with_reducible rfl)
                try simp only [Act.put, List.setIfInBounds_toArray, List.set_cons_zero, List.set_cons_succ]
                refine takeW (i := 26) (v := ?_) rfl (by kernel_rfl) (by kernel_rfl) (by kernel_rfl) (fun _ _ _ h => h) (Or.inl ⟨by rfl, ?_⟩) (by assumption) ?_
                rotate_left
                · (intro wz hSw; (try dsimp only at hSw); go_simp <;> with_reducible rfl)
                try simp only [Act.put, List.setIfInBounds_toArray, List.set_cons_zero, List.set_cons_succ]
                refine takeW (i := 27) (v := ?_) rfl (by kernel_rfl) (by kernel_rfl) (by kernel_rfl) (fun _ _ _ h => h) (Or.inl ⟨by rfl, ?_⟩) (by assumption) ?_
                rotate_left
                · (intro wz hSw; (try dsimp only at hSw); go_simp <;> with_reducible rfl)
                try simp only [Act.put, List.setIfInBounds_toArray, List.set_cons_zero, List.set_cons_succ]
                refine wpAnyH_ready (rs := [28]) (by kernel_rfl) (by simp) ?_
                refine consW rfl (fun K hK => ?_) AllReadyH.nil
                go_simp
                go_at_call 10
                refine (dcmp_calls (HSLJ.out _ (HEi.out _ E21)) (HSL.out _ (HEi.out _ E21)) (by omega) (by omega)).mono ?_
                rintro e w22 ⟨rfl, hext22⟩
                have E22 : Ext W10 w22 := E21.trans hext22
                rw [HVJ.out, HV.out, HQ2.out]
                try go_wp2_with fail
                refine hK.out _ _ ?_ (fun hHeld => ?_)
                · (try dsimp only); exact HS23.out _ E22
                clear hK K
                try simp only [Act.put, List.setIfInBounds_toArray, List.set_cons_zero, List.set_cons_succ]
                refine takeW (i := 29) (v := ?_) rfl (by kernel_rfl) (by kernel_rfl) (by kernel_rfl) (fun _ _ _ h => h) (Or.inl ⟨by rfl, ?_⟩) (by assumption) ?_
                rotate_left
                · (intro wz hSw; (try dsimp only at hSw); go_simp <;> with_reducible rfl)
                try simp only [Act.put, List.setIfInBounds_toArray, List.set_cons_zero, List.set_cons_succ]
                refine takeW (i := 30) (v := ?_) rfl (by kernel_rfl) (by kernel_rfl) (by kernel_rfl) (fun _ _ _ h => h) (Or.inl ⟨by rfl, ?_⟩) (by assumption) ?_
                rotate_left
                · (intro wz hSw; (try dsimp only at hSw); go_simp <;> with_reducible rfl)
                try simp only [Act.put, List.setIfInBounds_toArray, List.set_cons_zero, List.set_cons_succ]
                refine takeW (i := 31) (v := ?_) rfl (by kernel_rfl) (by kernel_rfl) (by kernel_rfl) (fun _ _ _ h => h) (Or.inl ⟨by rfl, ?_⟩) (by assumption) ?_
                rotate_left
                · (intro wz hSw; (try dsimp only at hSw); go_simp <;> with_reducible rfl)
                try simp only [Act.put, List.setIfInBounds_toArray, List.set_cons_zero, List.set_cons_succ]
                refine takeW (i := 32) (v := ?_) rfl (by kernel_rfl) (by kernel_rfl) (by kernel_rfl) (fun _ _ _ h => h) (Or.inl ⟨by rfl, ?_⟩) (by assumption) ?_
                rotate_left
                · (intro wz hSw; (try dsimp only at hSw); go_simp <;> with_reducible rfl)
                try simp only [Act.put, List.setIfInBounds_toArray, List.set_cons_zero, List.set_cons_succ]
                refine takeW (i := 33) (v := ?_) rfl (by kernel_rfl) (by kernel_rfl) (by kernel_rfl) (fun _ _ _ h => h) (Or.inl ⟨by rfl, ?_⟩) (by assumption) ?_
                rotate_left
                · (intro wz hSw; (try dsimp only at hSw); go_simp <;> with_reducible rfl)
                try simp only [Act.put, List.setIfInBounds_toArray, List.set_cons_zero, List.set_cons_succ]
                refine takeW (i := 34) (v := ?_) rfl (by kernel_rfl) (by kernel_rfl) (by kernel_rfl) (fun _ _ _ h => h) (Or.inl ⟨by rfl, ?_⟩) (by assumption) ?_
                rotate_left
                · (intro wz hSw; (try dsimp only at hSw); go_simp <;> with_reducible rfl)
                try simp only [Act.put, List.setIfInBounds_toArray, List.set_cons_zero, List.set_cons_succ]
                refine takeW (i := 35) (v := ?_) rfl (by kernel_rfl) (by kernel_rfl) (by kernel_rfl) (fun _ _ _ h => h) (Or.inl ⟨by rfl, ?_⟩) (by assumption) ?_
                rotate_left
                · (intro wz hSw; (try dsimp only at hSw); go_simp <;> with_reducible rfl)
                try simp only [Act.put, List.setIfInBounds_toArray, List.set_cons_zero, List.set_cons_succ]
                refine wpAnyH_done (by kernel_rfl) ?_ _
                go_wp2_with fail
                go_roundw
                case rel => exact ⟨j + 1, by omega, by go_num, E22⟩
                case measure => simp only [intOf]; omega
    · have hlt : (k : Int) < (n : Int) := by omega
      obtain ⟨ap, mp, cp, xs, hc, hsl, hv, hm12⟩ := HP.out k (by omega)
      have c1 := row_cell HBX.out.1
      have c2 := hc _ (E1.out.trans HEX.out)
      have c3 := row_free HBX.out.1
      have x1 := HIX.out k (by omega)
      have HSL := Lib.hid hsl; have HV := Lib.hid hv
      clear hc hsl hv
      obtain ⟨ys, hys, hyv⟩ := HBX.out.2
      have HYS := Lib.hid hys; have HYV := Lib.hid hyv
      clear hys hyv
      go_wp2_with fail
      go_region_with (first | (go_at_call 14; refine (dadd_calls (HYS.out.old (Ext.refl _).drew) (HSL.out _ ((E1.out.trans HEX.out).drew)) (by omega) (by omega)).mono ?_; rintro e w3 ⟨o3, n3, c4, rfl, hown3, hext3, hno3⟩; have E3 := ((Ext.refl wr).drew).trans hext3; have k1 := row_cell (row_ext E3 HBX.out.1); have k2 := row_free (row_ext E3 HBX.out.1)))
      all_goals (
        rw [HYV.out, HV.out] at hown3
        go_wp2_with fail
        go_roundw
        case rel => exact ⟨k + 1, o3, n3, c4, by omega, by go_num, ⟨heap_setCell_same w3 _ 0 _ _ (.slice o3 n3 c4) (row_ext E3 HBX.out.1), _, (hown3.box _ (row_lt HBX.out.1)).sl, by rw [val_lim, sum_take_succ (by rw [HLEN.out]; omega)]⟩, by omega, box_store _ (HEX.out.trans E3) (Nat.le_refl _)⟩
        case measure => simp only [intOf]; omega)

end Go.Proofs.YtpfhifjkecoahaaDoor
