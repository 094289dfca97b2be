/- dec.Text. -/
import Derived.Test.YtifoflicflodcaaGreatDoorPlaces
import Derived.Test.YtifoflicflodcaaGreatDoorShelf
namespace Go.Proofs.YtifoflicflodcaaGreatDoor
open Go.RowKit Go.Lib

/-- The decimal digits. -/
def decText (X : Nat) : List UInt8 := if X % U36 = 0 then decDigits (X / U36) else decDigits (X / U36) ++ [46] ++ trimRightB (padk 36 (X % U36)) 48

theorem trimRightB_len (l : List UInt8) (c : UInt8) : (trimRightB l c).length ≤ l.length := by
  unfold trimRightB
  rw [List.length_reverse]
  refine Nat.le_trans (List.IsSuffix.length_le (List.dropWhile_suffix _)) ?_
  rw [List.length_reverse]
  exact Nat.le_refl _
theorem bytes_add (a b : List UInt8) : (⟨a.toArray⟩ : ByteArray) ++ ⟨b.toArray⟩ = ⟨(a ++ b).toArray⟩ := by
  apply ByteArray.ext
  simp

set_option maxHeartbeats 2000000 in
set_option maxRecDepth 100000 in
theorem dtext_calls {a : Option Addr} {m c : Nat} {xs : List Nat} {w : World} (ha : Sl w a m c xs) (hm : m ≤ 1000) (ht : Tab w) :
    Calls Tryz.prog 40 #[DecV a m c] w (StrE (decText (val xs)) w) := by
  have E1 : Ext w (w.alloc (.cells #[.slice a m c] 25)) := (Ext.refl _).alloc _
  have HT := Lib.hid (dtrunc_calls (ha.old E1) (by omega))
  have HE1 := Lib.hid E1
  have HTAB := Lib.hid ht
  have hwl : (decDigits (val xs / U36)).length ≤ 20 * m + 1 := by
    rw [decDigits_length]
    refine nDigits_limbs (Nat.le_trans (digs_len_mono B64_two (Nat.div_le_self _ _)) ?_)
    exact ha.trimmed_len
  have hlt : val xs % U36 < 10 ^ 36 := Nat.mod_lt _ (Nat.pos_of_ne_zero U36_ne)
  unfold decText
  generalize val xs / U36 = N at *
  generalize val xs % U36 = R at *
  obtain ⟨out, hout⟩ : ∃ out, out = if R = 0 then decDigits N else decDigits N ++ [46] ++ trimRightB (padk 36 R) 48 := ⟨_, rfl⟩
  rw [← hout]
  have HOUT := Lib.hid hout
  have HLT := Lib.hid hlt
  clear hout hlt E1 ht ha
  go_enter Tryz.func40, Tryz.ntmps40
  go_wp2_with fail
  refine HT.out.mono ?_
  rintro e w2 ⟨a1, c1, L1, a2, c2, L2, rfl, hown1, hown2, hext2, hl1, hl2⟩
  have E3 : Ext w2 (w2.alloc (.cells #[.slice a2 L2 c2] 25)) := (Ext.refl _).alloc _
  have HC3 := Lib.hid (text_calls (hown1.sl.old E3) (by omega) (HTAB.out.old ((HE1.out.trans hext2).trans E3)))
  rw [val_lim] at HC3
  have HO2 := Lib.hid (hown2.sl.old E3)
  have HE3 := Lib.hid ((HE1.out.trans hext2).trans E3)
  have HB3 := Lib.hid (fun w' (h : Ext (w2.alloc (.cells #[.slice a2 L2 c2] 25)) w') => box_cell h)
  clear hown1 hown2 hext2 E3
  go_wp2_with fail
  refine HC3.out.mono ?_
  rintro e w4 ⟨rfl, hext4⟩
  have HE4 := Lib.hid hext4
  have hc4 := HB3.out _ hext4
  have HZ := Lib.hid (dzero_calls (HO2.out.old hext4) (by omega))
  rw [val_lim] at HZ
  clear hext4
  by_cases hR : R = 0
  · have hout := HOUT.out
    rw [if_pos hR] at hout
    subst hout
    rw [decide_eq_true hR] at HZ
    go_wp2_with fail
    refine HZ.out.mono ?_
    rintro e w5 ⟨rfl, hext5⟩
    go_wp2_with fail
    go_ret
    exact ⟨rfl, (HE3.out.trans HE4.out).trans hext5⟩
  · have hout := HOUT.out
    rw [if_neg hR] at hout
    have HOUT2 := Lib.hid hout
    clear hout
    rw [decide_eq_false hR] at HZ
    go_wp2_with fail
    refine HZ.out.mono ?_
    rintro e w5 ⟨rfl, hext5⟩
    have hc5 := HB3.out _ (HE4.out.trans hext5)
    have HE5 := Lib.hid ((HE3.out.trans HE4.out).trans hext5)
    have HP := Lib.hid (places_calls ((HO2.out.old HE4.out).old hext5) (by omega) (HTAB.out.old HE5.out) (by rw [val_lim]; exact HLT.out))
    rw [val_lim] at HP
    clear hc4 hext5
    go_wp2_with fail
    refine HP.out.mono ?_
    rintro e w6 ⟨rfl, hext6⟩
    have hll := padk_length 36 R
    generalize padk 36 R = l at *
    have HSZ := Lib.hid (show (bCells l).size = 36 by rw [bCells_size, hll])
    have HALL := Lib.hid (bCells_all l)
    have HCELL := Lib.hid (show ∀ j (hj : j < l.length), (bCells l)[j]? = some (.int .u8 (l[j].toNat : Int)) from fun j hj => by
      simp [bCells, hj])
    generalize bCells l = RR at *
    have HI := Lib.hid (show (Tryz.prog.info? 78).map (·.size) = some RR.size by rw [HSZ.out]; exact info36)
    obtain ⟨W7, hW7⟩ : ∃ W7, W7 = (w6.alloc (.cells (bCells (List.replicate 36 0)) 78)).setRow w6.heap.size RR := ⟨_, rfl⟩
    have HE7 := Lib.hid (show Ext w6 W7 by rw [hW7]; exact row_store RR ((Ext.refl _).alloc _) (Nat.le_refl _))
    have HR7 := Lib.hid (show W7.heap[w6.heap.size]? = some (.cells RR 78 (0, 0)) by rw [hW7]; exact setRow_heap _ _ _ _ _ _ (heap_alloc_new _ _))
    rw [bCells_zero] at hW7
    have HW7 := Lib.hid hW7
    have hcv : (convert 80 9 (.slice (some ⟨w6.heap.size, 0, none⟩) 36 36)).run Tryz.prog W7 = .ok (.string ⟨l.toArray⟩) W7 := by
      have h := run_convert_bytes_back (P := Tryz.prog) W7 80 9 5 ⟨w6.heap.size, 0, none⟩ 36 l (by kernel_rfl) (by kernel_rfl) (by kernel_rfl) (fun j hj => by
        rw [Lib.add_plain, cell_of_row _ _ _ _ _ _ HR7.out, Nat.zero_add]
        exact HCELL.out j hj)
      rw [hll] at h
      exact h
    have HTR := Lib.hid (Tryz.strings_TrimRight_one ⟨l.toArray⟩ 48 (by decide) W7 (by show l.toArray.size ≤ _; rw [List.size_toArray]; omega))
    have htl : (trimRightB l 48).length ≤ 36 := by rw [← hll]; exact trimRightB_len l 48
    have HE6 := Lib.hid (HE5.out.trans hext6)
    clear hW7 hext6 hc5 hll
    rw [show (⟨l.toArray⟩ : ByteArray).data.toList = l from rfl] at HTR
    generalize trimRightB l 48 = tl at *
    generalize decDigits N = wl at *
    have hadd : (⟨wl.toArray⟩ ++ ⟨#[46]⟩ : ByteArray).size ≤ 9223372036854775000 := by
      rw [show (⟨#[46]⟩ : ByteArray) = ⟨[46].toArray⟩ from rfl, bytes_add]
      show (wl ++ [46]).toArray.size ≤ _
      simp; omega
    go_wp2_with (refine wpList_store_row rfl 78 _ _ rfl w6.heap.size RR rfl rfl _ _ (heap_alloc_new _ _) HI.out (by rw [HSZ.out]; rfl) HALL.out ?_; rw [← HW7.out])
    refine HTR.out.mono ?_
    rintro e w8 ⟨rfl, rfl⟩
    go_wp2_with fail
    go_ret
    refine ⟨?_, HE6.out.trans HE7.out⟩
    rw [HOUT2.out, ← bytes_add, ← bytes_add]; rfl

end Go.Proofs.YtifoflicflodcaaGreatDoor
