/- dec.Parse. -/
import Derived.Test.YtifoflicflodcaaGreatDoorDTPar
import Derived.Test.YtifoflicflodcaaGreatDoorParse
namespace Go.Proofs.YtifoflicflodcaaGreatDoor
open Go.RowKit Go.Lib

/-- What strings.Cut asks of the library's variable. -/
def MaxL (w : World) : Prop := ∃ m : Int, w.cell? ⟨2, 0, none⟩ = some (.int .i64 m)
theorem MaxL.old {w w' : World} (h : MaxL w) (E : Ext w w') : MaxL w' := by
  obtain ⟨m, hm⟩ := h
  exact ⟨m, E.cell hm⟩
theorem cut46_calls (l : List UInt8) (hl : l.length ≤ 1000000) {w : World} (hM : MaxL w) :
    Calls Tryz.prog 61 #[.string ⟨l.toArray⟩, .string ⟨#[46]⟩] w fun e w' => e = .returned (.tuple #[.string ⟨(cut l [46]).1.toArray⟩, .string ⟨(cut l [46]).2.1.toArray⟩, .bool (cut l [46]).2.2]) ∧ Ext w w' := by
  obtain ⟨m, hm⟩ := hM
  have := Tryz.strings_Cut ⟨l.toArray⟩ ⟨[46].toArray⟩ m w (by rw [str_size]; omega) hm
  rw [toList_str, toList_str] at this
  exact this.mono fun e w' ⟨h1, n, h2⟩ => ⟨h1, by rw [h2]; exact (Ext.refl w).drewN n⟩
theorem trimL_calls (l : List UInt8) (w : World) :
    Calls Tryz.prog 64 #[.string ⟨l.toArray⟩, .string ⟨#[48]⟩] w fun e w' => e = .returned (.string ⟨(trimLeftB l 48).toArray⟩) ∧ w' = w := by
  have := Tryz.strings_TrimLeft_one ⟨l.toArray⟩ 48 (by decide) w
  rw [toList_str] at this
  exact this
theorem repeatL_one_byte (k : Nat) : repeatL [48] k = List.replicate k (48 : UInt8) := by
  induction k with
  | zero => rfl
  | succ k ih =>
    rw [List.replicate_succ, ← ih]
    rfl
theorem repeat48_calls (k : Nat) (hk : k ≤ 36) (w : World) :
    Calls Tryz.prog 65 #[.string ⟨#[48]⟩, .int .i64 (k : Int)] w fun e w' => e = .returned (.string ⟨(List.replicate k (48 : UInt8)).toArray⟩) ∧ Ext w w' := by
  have := Tryz.strings_Repeat ⟨[48].toArray⟩ k w (by omega) (by rw [str_size, List.length_singleton]; omega)
  rw [toList_str, repeatL_one_byte] at this
  exact this.mono fun e w' ⟨h1, h2⟩ => ⟨h1, h2⟩

set_option maxHeartbeats 4000000 in
set_option maxRecDepth 100000 in
theorem dparse_a (l : List UInt8) (hl : l.length ≤ 1000) {w : World} (hM : MaxL w) (h1 : decForm (cut l [46]).1 = false) :
    Calls Tryz.prog 39 #[.string ⟨l.toArray⟩] w (NewDE w (l.length + 40) [] 22) := by
  have E0 := (Ext.refl w).alloc (.cells #[.slice none 0 0] 25)
  have CC := Lib.hid (cut46_calls l (by omega) (hM.old E0))
  have hlen := cut_len l [46]
  generalize cut l [46] = cc at *
  obtain ⟨a, b, f⟩ := cc
  simp only at *
  have HL := Lib.hid hlen; have HL0 := Lib.hid hl
  have CP := Lib.hid (fun w => parse_bad a (by omega) h1 w)
  clear h1 hlen hl E0 hM
  go_enter Tryz.func39, Tryz.ntmps39
  go_wp2_with fail
  refine CC.out.mono ?_
  rintro e w1 ⟨rfl, hext1⟩
  go_wp2_with fail
  refine (CP.out _).mono ?_
  rintro e w2 ⟨o2, n2, c2, rfl, hown2, hext2, hno2⟩
  obtain ⟨k1, k2⟩ := box_at (X := w) rfl (hext1.trans hext2)
  obtain ⟨f1, f2, f3⟩ := box_fin (Ext.refl w) rfl (hext1.trans hext2) (.slice none 0 0)
  go_wp2_with fail
  try simp only [Exit.inBlock, Exit.then]
  refine bodyPost_ret (results_box2 rfl _ _ _ _ rfl (load_dec f2)) rfl ?_
  exact ⟨none, 0, 0, rfl, Own.nil _ _, f1, by omega⟩

set_option maxHeartbeats 4000000 in
set_option maxRecDepth 100000 in
theorem dparse_b (l : List UInt8) (hl : l.length ≤ 1000) {w : World} (hM : MaxL w) (h1 : decForm (cut l [46]).1 = true) (h2 : (cut l [46]).2.2 = false) :
    Calls Tryz.prog 39 #[.string ⟨l.toArray⟩] w (NewDE w (l.length + 40) (lim (dnum (cut l [46]).1 * U36)) 0) := by
  have E0 := (Ext.refl w).alloc (.cells #[.slice none 0 0] 25)
  have CC := Lib.hid (cut46_calls l (by omega) (hM.old E0))
  have hlen := cut_len l [46]
  generalize cut l [46] = cc at *
  obtain ⟨a, b, f⟩ := cc
  simp only at *
  have HL := Lib.hid hlen; have HL0 := Lib.hid hl
  have CP := Lib.hid (fun w => parse_form a (by omega) h1 w)
  subst h2
  clear h1 hlen hl E0 hM
  go_enter Tryz.func39, Tryz.ntmps39
  go_wp2_with fail
  refine CC.out.mono ?_
  rintro e w1 ⟨rfl, hext1⟩
  go_wp2_with fail
  refine (CP.out _).mono ?_
  rintro e w2 ⟨o2, n2, c2, rfl, hown2, hext2, hno2⟩
  have CD := dofnat_calls hown2.sl (by have := HL.out.1; have := HL0.out; omega)
  rw [val_lim] at CD
  have HCD := Lib.hid CD; have HE2 := Lib.hid (hext1.trans hext2)
  clear CD hown2 hext1 hext2
  go_wp2_with fail
  refine HCD.out.mono ?_
  rintro e w3 ⟨o3, n3, c3, rfl, hown3, hext3, hno3⟩
  obtain ⟨k1, k2⟩ := box_at (X := w) rfl (HE2.out.trans hext3)
  obtain ⟨f1, f2, f3⟩ := box_fin (Ext.refl w) rfl (HE2.out.trans hext3) (.slice o3 n3 c3)
  have hs := HE2.out.size
  have z1 := HL.out.1
  go_wp2_with fail
  try simp only [Exit.inBlock, Exit.then]
  refine bodyPost_ret (results_box2 rfl _ _ _ _ rfl (load_dec f2)) rfl ?_
  exact ⟨o3, n3, c3, rfl, f3 (hown3.mono hs), f1, by omega⟩

set_option maxHeartbeats 4000000 in
set_option maxRecDepth 100000 in
theorem dparse_c1 (l : List UInt8) (hl : l.length ≤ 1000) {w : World} (hM : MaxL w) (h1 : decForm (cut l [46]).1 = true) (h2 : (cut l [46]).2.2 = true) (h3 : (cut l [46]).2.1 = []) :
    Calls Tryz.prog 39 #[.string ⟨l.toArray⟩] w (NewDE w (l.length + 40) [] 22) := by
  have E0 := (Ext.refl w).alloc (.cells #[.slice none 0 0] 25)
  have CC := Lib.hid (cut46_calls l (by omega) (hM.old E0))
  have hlen := cut_len l [46]
  generalize cut l [46] = cc at *
  obtain ⟨a, b, f⟩ := cc
  simp only at *
  have HL := Lib.hid hlen; have HL0 := Lib.hid hl
  have CP := Lib.hid (fun w => parse_form a (by omega) h1 w)
  subst h2 h3
  clear h1 hlen hl E0 hM
  go_enter Tryz.func39, Tryz.ntmps39
  go_wp2_with fail
  refine CC.out.mono ?_
  rintro e w1 ⟨rfl, hext1⟩
  go_wp2_with fail
  refine (CP.out _).mono ?_
  rintro e w2 ⟨o2, n2, c2, rfl, hown2, hext2, hno2⟩
  obtain ⟨k1, k2⟩ := box_at (X := w) rfl (hext1.trans hext2)
  obtain ⟨f1, f2, f3⟩ := box_fin (Ext.refl w) rfl (hext1.trans hext2) (.slice none 0 0)
  go_wp2_with fail
  try simp only [Exit.inBlock, Exit.then]
  refine bodyPost_ret (results_box2 rfl _ _ _ _ rfl (load_dec f2)) rfl ?_
  exact ⟨none, 0, 0, rfl, Own.nil _ _, f1, by omega⟩

set_option maxHeartbeats 4000000 in
set_option maxRecDepth 100000 in
theorem dparse_c2 (l : List UInt8) (hl : l.length ≤ 1000) {w : World} (hM : MaxL w) (h1 : decForm (cut l [46]).1 = true) (h2 : (cut l [46]).2.2 = true) (h4 : 36 < (cut l [46]).2.1.length) :
    Calls Tryz.prog 39 #[.string ⟨l.toArray⟩] w (NewDE w (l.length + 40) [] 22) := by
  have E0 := (Ext.refl w).alloc (.cells #[.slice none 0 0] 25)
  have CC := Lib.hid (cut46_calls l (by omega) (hM.old E0))
  have hlen := cut_len l [46]
  generalize cut l [46] = cc at *
  obtain ⟨a, b, f⟩ := cc
  simp only at *
  have HL := Lib.hid hlen; have HL0 := Lib.hid hl
  have CP := Lib.hid (fun w => parse_form a (by omega) h1 w)
  subst h2
  have hsz := str_size b
  have hemp : (⟨b.toArray⟩ : ByteArray).toList.isEmpty = decide (b = []) := by rw [Lib.toList_data]; cases b <;> simp
  have CT := Lib.hid (fun w => trim10_calls b (by omega) w)
  have hne : b ≠ [] := by rintro rfl; simp at h4
  rw [decide_eq_false hne] at hemp
  generalize (⟨b.toArray⟩ : ByteArray) = s at *
  have hi : (36 : Int) < (b.length : Int) := by omega
  clear h1 hlen hl E0 hM hne h4
  go_enter Tryz.func39, Tryz.ntmps39
  go_wp2_with fail
  refine CC.out.mono ?_
  rintro e w1 ⟨rfl, hext1⟩
  go_wp2_with fail
  refine (CP.out _).mono ?_
  rintro e w2 ⟨o2, n2, c2, rfl, hown2, hext2, hno2⟩
  obtain ⟨k1, k2⟩ := box_at (X := w) rfl (hext1.trans hext2)
  obtain ⟨f1, f2, f3⟩ := box_fin (Ext.refl w) rfl (hext1.trans hext2) (.slice none 0 0)
  go_wp2_with fail
  try simp only [Exit.inBlock, Exit.then]
  refine bodyPost_ret (results_box2 rfl _ _ _ _ rfl (load_dec f2)) rfl ?_
  exact ⟨none, 0, 0, rfl, Own.nil _ _, f1, by omega⟩

set_option maxHeartbeats 4000000 in
set_option maxRecDepth 100000 in
theorem dparse_c3 (l : List UInt8) (hl : l.length ≤ 1000) {w : World} (hM : MaxL w) (h1 : decForm (cut l [46]).1 = true) (h2 : (cut l [46]).2.2 = true) (h3 : (cut l [46]).2.1 ≠ []) (h4 : (cut l [46]).2.1.length ≤ 36) (h5 : (cut l [46]).2.1.getLast? = some 48) :
    Calls Tryz.prog 39 #[.string ⟨l.toArray⟩] w (NewDE w (l.length + 40) [] 22) := by
  have E0 := (Ext.refl w).alloc (.cells #[.slice none 0 0] 25)
  have CC := Lib.hid (cut46_calls l (by omega) (hM.old E0))
  have hlen := cut_len l [46]
  generalize cut l [46] = cc at *
  obtain ⟨a, b, f⟩ := cc
  simp only at *
  have HL := Lib.hid hlen; have HL0 := Lib.hid hl
  have CP := Lib.hid (fun w => parse_form a (by omega) h1 w)
  subst h2
  have hsz := str_size b
  have hemp : (⟨b.toArray⟩ : ByteArray).toList.isEmpty = decide (b = []) := by rw [Lib.toList_data]; cases b <;> simp
  have CT := Lib.hid (fun w => trim10_calls b (by omega) w)
  rw [decide_eq_false h3] at hemp
  obtain ⟨L, hL⟩ : ∃ L, b.length = L + 1 := ⟨b.length - 1, by have := List.length_pos_iff.2 h3; omega⟩
  have hget : ∀ h : L < (⟨b.toArray⟩ : ByteArray).size, (⟨b.toArray⟩ : ByteArray)[L]'h = b.getLast h3 := fun h => by
    rw [List.getLast_eq_getElem]
    simp only [hL, Nat.add_sub_cancel]
    rfl
  rw [List.getLast?_eq_some_getLast h3] at h5
  injection h5 with h5
  rw [h5] at hget
  generalize hs : (⟨b.toArray⟩ : ByteArray) = s at *
  rw [hL] at hsz h4
  have f0 : ¬ ((36 : Int) < (L : Int) + 1) := by omega
  have f1 : IntKind.i64.wrap ((L : Int) + 1 - 1) = (L : Int) := by rw [show (L : Int) + 1 - 1 = (L : Int) by omega]; exact IntWalk.i64_in _ (by omega)
  have f2 : IntKind.i64.wrap (L : Int) = (L : Int) := IntWalk.i64_in _ (by omega)
  have f4 : decide ((36 : Int) < (L : Int) + 1) = false := by rw [decide_eq_false_iff_not]; omega
  clear h1 hlen hl E0 hM h3 h5 hL hs
  go_enter Tryz.func39, Tryz.ntmps39
  go_wp2_with fail
  refine CC.out.mono ?_
  rintro e w1 ⟨rfl, hext1⟩
  go_wp2_with fail
  refine (CP.out _).mono ?_
  rintro e w2 ⟨o2, n2, c2, rfl, hown2, hext2, hno2⟩
  obtain ⟨k1, k2⟩ := box_at (X := w) rfl (hext1.trans hext2)
  obtain ⟨f1, f2, f3⟩ := box_fin (Ext.refl w) rfl (hext1.trans hext2) (.slice none 0 0)
  go_wp2_with fail
  try simp only [Exit.inBlock, Exit.then]
  refine bodyPost_ret (results_box2 rfl _ _ _ _ rfl (load_dec f2)) rfl ?_
  exact ⟨none, 0, 0, rfl, Own.nil _ _, f1, by omega⟩

set_option maxHeartbeats 4000000 in
set_option maxRecDepth 100000 in
theorem dparse_c4 (l : List UInt8) (hl : l.length ≤ 1000) {w : World} (hM : MaxL w) (h1 : decForm (cut l [46]).1 = true) (h2 : (cut l [46]).2.2 = true) (h3 : (cut l [46]).2.1 ≠ []) (h4 : (cut l [46]).2.1.length ≤ 36) (h5 : (cut l [46]).2.1.getLast? ≠ some 48) (h6 : (cut l [46]).2.1.all isDig = false) :
    Calls Tryz.prog 39 #[.string ⟨l.toArray⟩] w (NewDE w (l.length + 40) [] 22) := by
  have E0 := (Ext.refl w).alloc (.cells #[.slice none 0 0] 25)
  have CC := Lib.hid (cut46_calls l (by omega) (hM.old E0))
  have hlen := cut_len l [46]
  generalize cut l [46] = cc at *
  obtain ⟨a, b, f⟩ := cc
  simp only at *
  have HL := Lib.hid hlen; have HL0 := Lib.hid hl
  have CP := Lib.hid (fun w => parse_form a (by omega) h1 w)
  subst h2
  have hsz := str_size b
  have hemp : (⟨b.toArray⟩ : ByteArray).toList.isEmpty = decide (b = []) := by rw [Lib.toList_data]; cases b <;> simp
  have CT := Lib.hid (fun w => trim10_calls b (by omega) w)
  rw [decide_eq_false h3] at hemp
  obtain ⟨L, hL⟩ : ∃ L, b.length = L + 1 := ⟨b.length - 1, by have := List.length_pos_iff.2 h3; omega⟩
  have hget : ∀ h : L < (⟨b.toArray⟩ : ByteArray).size, (⟨b.toArray⟩ : ByteArray)[L]'h = b.getLast h3 := fun h => by
    rw [List.getLast_eq_getElem]
    simp only [hL, Nat.add_sub_cancel]
    rfl
  rw [List.getLast?_eq_some_getLast h3] at h5
  have h5' : ¬ ((b.getLast h3).toNat : Int) = 48 := fun e => h5 (by rw [UInt8.toNat_inj.1 (show (b.getLast h3).toNat = (48 : UInt8).toNat by have : (48 : UInt8).toNat = 48 := rfl; omega)])
  obtain ⟨s2, hs2⟩ : ∃ s : ByteArray, (⟨(trimS b digsSet).toArray⟩ : ByteArray) = s := ⟨_, rfl⟩
  have HS2 : s2.toList.isEmpty = false := by
    rw [← hs2, Lib.toList_data, Bool.eq_false_iff, ne_eq, List.isEmpty_iff, trimS_nil, h6]; decide
  rw [hs2] at CT
  generalize b.getLast h3 = y at *
  have hy8 : y.toNat < 256 := y.toNat_lt
  generalize hs : (⟨b.toArray⟩ : ByteArray) = s at *
  rw [hL] at hsz h4
  have f0 : ¬ ((36 : Int) < (L : Int) + 1) := by omega
  have f1 : IntKind.i64.wrap ((L : Int) + 1 - 1) = (L : Int) := by rw [show (L : Int) + 1 - 1 = (L : Int) by omega]; exact IntWalk.i64_in _ (by omega)
  have f2 : IntKind.i64.wrap (L : Int) = (L : Int) := IntWalk.i64_in _ (by omega)
  have f4 : decide ((36 : Int) < (L : Int) + 1) = false := by rw [decide_eq_false_iff_not]; omega
  have f5 : ((y.toNat : Int) == 48) = false := by rw [beq_eq_false_iff_ne]; exact h5'
  clear h1 hlen hl E0 hM h3 h5 h6 hL hs hs2
  go_enter Tryz.func39, Tryz.ntmps39
  go_wp2_with fail
  refine CC.out.mono ?_
  rintro e w1 ⟨rfl, hext1⟩
  go_wp2_with fail
  refine (CP.out _).mono ?_
  rintro e w2 ⟨o2, n2, c2, rfl, hown2, hext2, hno2⟩
  have HX := Lib.hid (hext1.trans hext2)
  clear hext1 hext2
  go_wp2_with fail
  refine (CT.out _).mono ?_
  rintro e w3 ⟨rfl, hext3⟩
  obtain ⟨k1, k2⟩ := box_at (X := w) rfl (HX.out.trans hext3)
  obtain ⟨f1, f2, f3⟩ := box_fin (Ext.refl w) rfl (HX.out.trans hext3) (.slice none 0 0)
  go_wp2_with fail
  try simp only [Exit.inBlock, Exit.then]
  refine bodyPost_ret (results_box2 rfl _ _ _ _ rfl (load_dec f2)) rfl ?_
  exact ⟨none, 0, 0, rfl, Own.nil _ _, f1, by omega⟩

set_option maxHeartbeats 4000000 in
set_option maxRecDepth 100000 in
theorem dparse_d (l : List UInt8) (hl : l.length ≤ 1000) {w : World} (hM : MaxL w) (h1 : decForm (cut l [46]).1 = true) (h2 : (cut l [46]).2.2 = true) (h3 : (cut l [46]).2.1 ≠ []) (h4 : (cut l [46]).2.1.length ≤ 36) (h5 : (cut l [46]).2.1.getLast? ≠ some 48) (h6 : (cut l [46]).2.1.all isDig = true) :
    Calls Tryz.prog 39 #[.string ⟨l.toArray⟩] w (NewDE w (l.length + 40) (lim (dnum (cut l [46]).1 * U36 + dnum (cut l [46]).2.1 * 10 ^ (36 - (cut l [46]).2.1.length))) 0) := by
  have E0 := (Ext.refl w).alloc (.cells #[.slice none 0 0] 25)
  have CC := Lib.hid (cut46_calls l (by omega) (hM.old E0))
  have hlen := cut_len l [46]
  generalize cut l [46] = cc at *
  obtain ⟨a, b, f⟩ := cc
  simp only at *
  have HL := Lib.hid hlen; have HL0 := Lib.hid hl
  have CP := Lib.hid (fun w => parse_form a (by omega) h1 w)
  subst h2
  have hsz := str_size b
  have hemp : (⟨b.toArray⟩ : ByteArray).toList.isEmpty = decide (b = []) := by rw [Lib.toList_data]; cases b <;> simp
  have CT := Lib.hid (fun w => trim10_calls b (by omega) w)
  rw [decide_eq_false h3] at hemp
  obtain ⟨L, hL⟩ : ∃ L, b.length = L + 1 := ⟨b.length - 1, by have := List.length_pos_iff.2 h3; omega⟩
  have hget : ∀ h : L < (⟨b.toArray⟩ : ByteArray).size, (⟨b.toArray⟩ : ByteArray)[L]'h = b.getLast h3 := fun h => by
    rw [List.getLast_eq_getElem]
    simp only [hL, Nat.add_sub_cancel]
    rfl
  have ht : decTail b = true := decTail_iff.2 ⟨h3, h4, h5, h6⟩
  rw [List.getLast?_eq_some_getLast h3] at h5
  have h5' : ¬ ((b.getLast h3).toNat : Int) = 48 := fun e => h5 (by rw [UInt8.toNat_inj.1 (show (b.getLast h3).toNat = (48 : UInt8).toNat by have : (48 : UInt8).toNat = 48 := rfl; omega)])
  obtain ⟨s2, hs2⟩ : ∃ s : ByteArray, (⟨(trimS b digsSet).toArray⟩ : ByteArray) = s := ⟨_, rfl⟩
  have HS2 : s2.toList.isEmpty = true := by
    rw [← hs2, Lib.toList_data, List.isEmpty_iff, trimS_nil]; exact h6
  rw [hs2] at CT
  have CL := Lib.hid (fun w => trimL_calls b w)
  have CR := Lib.hid (fun w => repeat48_calls (36 - b.length) (by omega) w)
  have hpad := decPad_len b h4
  have CQ := Lib.hid (fun w => parse_form (decPad b) (by omega) (decPad_form ht) w)
  rw [dnum_decPad] at CQ
  have hcat : (⟨(trimLeftB b 48).toArray⟩ : ByteArray) ++ ⟨(List.replicate (36 - b.length) (48 : UInt8)).toArray⟩ = ⟨(decPad b).toArray⟩ := bytes_add _ _
  have hk : 36 - b.length = 35 - L := by omega
  rw [hk] at CR hcat CQ ⊢
  generalize hv : dnum b * 10 ^ (35 - L) = v at *
  obtain ⟨s4, hs4⟩ : ∃ s : ByteArray, (⟨(trimLeftB b 48).toArray⟩ : ByteArray) = s := ⟨_, rfl⟩
  obtain ⟨s5, hs5⟩ : ∃ s : ByteArray, (⟨(List.replicate (35 - L) (48 : UInt8)).toArray⟩ : ByteArray) = s := ⟨_, rfl⟩
  obtain ⟨s6, hs6⟩ : ∃ s : ByteArray, (⟨(decPad b).toArray⟩ : ByteArray) = s := ⟨_, rfl⟩
  have hq6 : s6.size ≤ 36 := by rw [← hs6, str_size]; exact hpad
  rw [hs4] at CL hcat; rw [hs5] at CR hcat; rw [hs6] at CQ hcat
  obtain ⟨M, hM'⟩ : ∃ M, (decPad b).length = M := ⟨_, rfl⟩
  rw [hM'] at CQ hpad
  have hkk : ((35 - L : Nat) : Int) = 36 - ((L : Int) + 1) := by omega
  rw [hkk] at CR
  have f3 : IntKind.i64.wrap (36 - ((L : Int) + 1)) = 36 - ((L : Int) + 1) := IntWalk.i64_in _ (by omega)
  have hadd : (s4 ++ s5).size ≤ 9223372036854775000 := by rw [hcat]; omega
  have hadd2 : s4.size + s5.size ≤ 9223372036854775000 := by rw [← ByteArray.size_append]; exact hadd
  have HCAT := Lib.hid hcat
  clear hcat
  generalize b.getLast h3 = y at *
  have hy8 : y.toNat < 256 := y.toNat_lt
  generalize hs : (⟨b.toArray⟩ : ByteArray) = s at *
  rw [hL] at hsz h4
  have f0 : ¬ ((36 : Int) < (L : Int) + 1) := by omega
  have f1 : IntKind.i64.wrap ((L : Int) + 1 - 1) = (L : Int) := by rw [show (L : Int) + 1 - 1 = (L : Int) by omega]; exact IntWalk.i64_in _ (by omega)
  have f2 : IntKind.i64.wrap (L : Int) = (L : Int) := IntWalk.i64_in _ (by omega)
  have f4 : decide ((36 : Int) < (L : Int) + 1) = false := by rw [decide_eq_false_iff_not]; omega
  have f5 : ((y.toNat : Int) == 48) = false := by rw [beq_eq_false_iff_ne]; exact h5'
  clear h1 hlen hl E0 hM h3 h5 h6 hL hs hs2 ht hv hs4 hs5 hs6 hM' hk
  go_enter Tryz.func39, Tryz.ntmps39
  go_wp2_with fail
  refine CC.out.mono ?_
  rintro e w1 ⟨rfl, hext1⟩
  go_wp2_with fail
  refine (CP.out _).mono ?_
  rintro e w2 ⟨o2, n2, c2, rfl, hown2, hext2, hno2⟩
  have HX := Lib.hid (hext1.trans hext2); have HO := Lib.hid hown2
  clear hext1 hext2 hown2
  go_wp2_with fail
  refine (CT.out _).mono ?_
  rintro e w3 ⟨rfl, hext3⟩
  have HX3 := Lib.hid (HX.out.trans hext3); have HO3 := Lib.hid (HO.out.old hext3)
  clear hext3
  go_wp2_with fail
  refine (CL.out _).mono ?_
  rintro e w4 ⟨rfl, rfl⟩
  go_wp2_with fail
  refine (CR.out _).mono ?_
  rintro e w5 ⟨rfl, hext5⟩
  have HX5 := Lib.hid (HX3.out.trans hext5); have HO5 := Lib.hid (HO3.out.old hext5)
  clear hext5
  go_wp2_with (rw [HCAT.out])
  refine (CQ.out _).mono ?_
  rintro e w6 ⟨o6, n6, c6, rfl, hown6, hext6, hno6⟩
  have CD := dofnat_calls (HO5.out.sl.old hext6) (by have := HL.out.1; have := HL0.out; omega)
  rw [val_lim] at CD
  have HCD := Lib.hid CD; have HX6 := Lib.hid (HX5.out.trans hext6); have HS6 := Lib.hid hown6.sl
  clear CD hown6 hext6
  go_wp2_with fail
  refine HCD.out.mono ?_
  rintro e w7 ⟨o7, n7, c7, rfl, hown7, hext7, hno7⟩
  have CA := dadd_calls hown7.sl (HS6.out.old hext7) (by have := HL.out.1; have := HL0.out; omega) (by omega)
  rw [val_lim, val_lim] at CA
  have HCA := Lib.hid CA; have HX7 := Lib.hid (HX6.out.trans hext7)
  clear CA hown7 hext7
  go_wp2_with fail
  refine HCA.out.mono ?_
  rintro e w8 ⟨o8, n8, c8, rfl, hown8, hext8, hno8⟩
  obtain ⟨k1, k2⟩ := box_at (X := w) rfl (HX7.out.trans hext8)
  obtain ⟨f1, f2, f3⟩ := box_fin (Ext.refl w) rfl (HX7.out.trans hext8) (.slice o8 n8 c8)
  have hs := HX7.out.size
  have z1 := HL.out.1
  go_wp2_with fail
  try simp only [Exit.inBlock, Exit.then]
  refine bodyPost_ret (results_box2 rfl _ _ _ _ rfl (load_dec f2)) rfl ?_
  exact ⟨o8, n8, c8, rfl, f3 (hown8.mono hs), f1, by omega⟩

/-- What Parse hands back. -/
def drL (l : List UInt8) : List Nat := match decRead l with
  | none => []
  | some v => lim v
def drE (l : List UInt8) : Int := match decRead l with
  | none => 22
  | some _ => 0
theorem dparse_calls (l : List UInt8) (hl : l.length ≤ 1000) {w : World} (hM : MaxL w) :
    Calls Tryz.prog 39 #[.string ⟨l.toArray⟩] w (NewDE w (l.length + 40) (drL l) (drE l)) := by
  unfold drL drE decRead
  by_cases h1 : decForm (cut l [46]).1 = false
  · rw [if_pos h1]; exact dparse_a l hl hM h1
  · rw [if_neg h1]
    have h1' : decForm (cut l [46]).1 = true := by simpa using h1
    by_cases h2 : (cut l [46]).2.2 = false
    · rw [if_pos h2]; exact dparse_b l hl hM h1' h2
    · rw [if_neg h2]
      have h2' : (cut l [46]).2.2 = true := by simpa using h2
      by_cases h3 : (cut l [46]).2.1 = []
      · rw [if_pos (by rw [h3]; rfl)]; exact dparse_c1 l hl hM h1' h2' h3
      · by_cases h4 : (cut l [46]).2.1.length ≤ 36
        · by_cases h5 : (cut l [46]).2.1.getLast? = some 48
          · rw [if_pos (by rw [Bool.eq_false_iff, ne_eq, decTail_iff]; exact fun h => h.2.2.1 h5)]; exact dparse_c3 l hl hM h1' h2' h3 h4 h5
          · by_cases h6 : (cut l [46]).2.1.all isDig = true
            · rw [if_neg (by rw [decTail_iff.2 ⟨h3, h4, h5, h6⟩]; decide)]; exact dparse_d l hl hM h1' h2' h3 h4 h5 h6
            · rw [if_pos (by rw [Bool.eq_false_iff, ne_eq, decTail_iff]; exact fun h => h6 h.2.2.2)]; exact dparse_c4 l hl hM h1' h2' h3 h4 h5 (by simpa using h6)
        · rw [if_pos (by rw [Bool.eq_false_iff, ne_eq, decTail_iff]; exact fun h => h4 h.2.1)]; exact dparse_c2 l hl hM h1' h2' (by omega)

end Go.Proofs.YtifoflicflodcaaGreatDoor
