/- nat.digits, nat.Parse. -/
import Derived.Test.YtifoflicflodcaaGreatDoorParM
import Derived.Test.YtifoflicflodcaaGreatDoorText
import Derived.Shelf.Strings.SlTrimAscii
namespace Go.Proofs.YtifoflicflodcaaGreatDoor
open Go.RowKit Go.Lib

theorem str_size (l : List UInt8) : (⟨l.toArray⟩ : ByteArray).size = l.length := by
  show l.toArray.size = _
  simp
theorem toList_str (l : List UInt8) : (⟨l.toArray⟩ : ByteArray).data.toList = l := by simp
theorem ascii10 : ∀ (j : Nat) (b : UInt8), digsSet[j]? = some b → b.toNat < 128 := by
  intro j b h
  have hm : b ∈ digsSet := List.mem_of_getElem? h
  simp only [digsSet, List.mem_cons, List.not_mem_nil, or_false] at hm
  rcases hm with rfl | rfl | rfl | rfl | rfl | rfl | rfl | rfl | rfl | rfl <;> decide
theorem trim10_calls (l : List UInt8) (hl : l.length ≤ 1000000) (w : World) :
    Calls Tryz.prog 63 #[.string ⟨l.toArray⟩, .string ⟨#[48, 49, 50, 51, 52, 53, 54, 55, 56, 57]⟩] w fun e w' => e = .returned (.string ⟨(trimS l digsSet).toArray⟩) ∧ Ext w w' := by
  have := Any.strings_Trim_ascii Tryz.lays160 (fun w => by kernel_rfl) (by kernel_rfl) ⟨l.toArray⟩ ⟨digsSet.toArray⟩ w (by rw [str_size]; omega) (by rw [str_size]; decide) (by rw [toList_str]; exact ascii10)
  rw [toList_str, toList_str] at this
  exact this

set_option maxHeartbeats 2000000 in
set_option maxRecDepth 100000 in
theorem ndigits_calls (l : List UInt8) (hl : l.length ≤ 1000000) (w : World) :
    Calls Tryz.prog 90 #[.string ⟨l.toArray⟩] w (RetE (.bool (decForm l)) w) := by
  cases l with
  | nil =>
    go_enter Tryz.func90, Tryz.ntmps90
    go_wp2_with fail
    go_ret
    exact ⟨rfl, Ext.refl _⟩
  | cons c r =>
    have CT := Lib.hid (trim10_calls (c :: r) hl w)
    have hsz := str_size (c :: r)
    rw [List.length_cons] at hsz
    have hl' : r.length + 1 ≤ 1000000 := hl
    have hemp : (⟨(c :: r).toArray⟩ : ByteArray).toList.isEmpty = false := by rw [Lib.toList_data]; simp
    have hget : ∀ h : 0 < (⟨(c :: r).toArray⟩ : ByteArray).size, (⟨(c :: r).toArray⟩ : ByteArray)[0]'h = c := fun _ => rfl
    obtain ⟨s2, hs2⟩ : ∃ s : ByteArray, (⟨(trimS (c :: r) digsSet).toArray⟩ : ByteArray) = s := ⟨_, rfl⟩
    have HS2 := Lib.hid (show s2.toList.isEmpty = (c :: r).all isDig by
      rw [← hs2, Lib.toList_data, Bool.eq_iff_iff, List.isEmpty_iff, ← trimS_nil])
    rw [hs2] at CT
    clear hs2
    generalize hs : (⟨(c :: r).toArray⟩ : ByteArray) = s at CT hsz hemp hget ⊢
    have HF := Lib.hid (show decForm (c :: r) = (!(decide (c = 48) && decide (1 < r.length + 1)) && (c :: r).all isDig) by
      unfold decForm; simp)
    clear hs hl
    have hc8 : c.toNat < 256 := c.toNat_lt
    have hr : (r.length : Int) ≤ 1000000 := by omega
    by_cases h48 : c.toNat = 48
    · have h48' : c = 48 := UInt8.toNat_inj.1 h48
      have hI : (c.toNat : Int) = 48 := by omega
      by_cases h1 : r = []
      · subst h1
        have hd : decForm [c] = s2.toList.isEmpty := by rw [HF.out, HS2.out]; simp
        have HD := Lib.hid hd
        have hz : ¬ ((1 : Int) < (([] : List UInt8).length : Int) + 1) := by simp
        clear hd h48'
        go_enter Tryz.func90, Tryz.ntmps90
        go_wp2_with fail
        refine CT.out.mono ?_
        rintro e w2 ⟨rfl, hx⟩
        go_wp2_with fail
        go_ret
        exact ⟨by rw [HD.out]; rfl, hx⟩
      · have hlen : 0 < r.length := List.length_pos_iff.2 h1
        have hd : decForm (c :: r) = false := by rw [HF.out, h48', decide_eq_true rfl, decide_eq_true (by omega)]; rfl
        have HD := Lib.hid hd
        have hz : ((1 : Int) < (r.length : Int) + 1) := by omega
        clear hd h48' h1
        go_enter Tryz.func90, Tryz.ntmps90
        go_wp2_with fail
        go_ret
        exact ⟨by rw [HD.out]; rfl, Ext.refl _⟩
    · have hd : decForm (c :: r) = s2.toList.isEmpty := by
        have : c ≠ 48 := fun h => h48 (by rw [h]; rfl)
        rw [HF.out, HS2.out, decide_eq_false this]; simp
      have HD := Lib.hid hd
      have hI : ¬ (c.toNat : Int) = 48 := by omega
      clear hd
      go_enter Tryz.func90, Tryz.ntmps90
      go_wp2_with fail
      refine CT.out.mono ?_
      rintro e w2 ⟨rfl, hx⟩
      go_wp2_with fail
      go_ret
      exact ⟨by rw [HD.out]; rfl, hx⟩

theorem bytesWorld_ext (w : World) (e : TypeId) (s : ByteArray) : Ext w (Lib.bytesWorld w e s) :=
  ⟨rfl, rfl, rfl, by rw [Lib.bytesWorld_size]; omega, fun k hk => Lib.bytesWorld_at_old w e s k hk⟩
theorem lit1_at (w : World) (x : Nat) (h0 : 0 < x) (hx : x < B64) : Sl (w.alloc (.cells #[.int .u64 (x : Int)] 26)) (some ⟨w.heap.size, 0, none⟩) 1 1 (lim x) := by
  rw [lim_small h0 hx]; exact (own_lit w.heap.size w x hx (Nat.le_refl _)).sl
theorem puint_calls (l : List UInt8) (h : l.all isDig = true) (h0 : l ≠ []) (hl : l.length ≤ 19) (w : World) :
    Calls Tryz.prog 91 #[.string ⟨l.toArray⟩, .int .i64 10, .int .i64 64] w (RetE (.tuple #[.int .u64 (dnum l : Nat), .nilIface]) w) := by
  have := Tryz.strconv_ParseUint_10_at64_ok ⟨l.toArray⟩ (by rw [str_size]; omega) (dnum l) (by rw [toList_str]; exact parseB_ok h h0 hl) w
  refine this.mono ?_
  rintro e w' ⟨rfl, h | h⟩
  · exact ⟨rfl, by rw [h]; exact Ext.refl _⟩
  · exact ⟨rfl, by rw [h]; exact bytesWorld_ext _ _ _⟩

def ParRel (w : World) (l : List UInt8) (sv ov : Value) (wr : World) : Prop :=
  ∃ (q v : Nat) (o : Option Addr) (n c : Nat), ParInv l q v ∧ sv = .string ⟨(l.drop q).toArray⟩ ∧ ov = .slice o n c ∧ Own w.heap.size wr o n c (lim v) ∧ Ext w wr

def lenS : Value → Nat
  | .string s => s.size
  | _ => 0

set_option maxHeartbeats 4000000 in
set_option maxRecDepth 100000 in
theorem parse_form (l : List UInt8) (hl : l.length ≤ 1000000) (hf : decForm l = true) (w : World) :
    Calls Tryz.prog 62 #[.string ⟨l.toArray⟩] w (New2 w l.length (lim (dnum l)) 0) := by
  have hall : l.all isDig = true := by
    unfold decForm at hf
    simp only [Bool.and_eq_true] at hf
    exact hf.2
  have CD := Lib.hid (ndigits_calls l hl w)
  rw [hf] at CD
  have HALL := Lib.hid hall
  clear hf hall
  have e0 : (⟨l.toArray⟩ : ByteArray) = ⟨(l.drop 0).toArray⟩ := rfl
  go_enter Tryz.func62, Tryz.ntmps62
  go_wp2_with fail
  refine CD.out.mono ?_
  rintro e w1 ⟨rfl, hext1⟩
  go_wp2_with fail
  go_loopw [0, 4] (fun sv ov wr => ParRel w l sv ov wr) (fun sv _ _ => lenS sv)
  case atStart => exact ⟨0, 0, none, 0, 0, ⟨by omega, by rw [List.take_zero, dnum_nil], .inl rfl⟩, rfl, rfl, by rw [lim_zero]; exact Own.nil _ _, hext1⟩
  case round =>
    obtain ⟨q, v, o, n, c, hinv, rfl, rfl, hown, hex⟩ := hrel
    have HINV := Lib.hid hinv; have HOWN := Lib.hid hown; have HEX := Lib.hid hex
    have hqle := hinv.le
    have hsize := str_size (l.drop q)
    rw [List.length_drop] at hsize
    obtain ⟨s, hs⟩ : ∃ s : ByteArray, (⟨(l.drop q).toArray⟩ : ByteArray) = s := ⟨_, rfl⟩
    rw [hs] at hsize ⊢
    have HS := Lib.hid hs
    have HF0 := Lib.hid (fun (h : q = l.length) => show v = dnum l by have := hinv; subst h; exact this.fin)
    clear hinv hown hex
    have hlen : (lim v).length ≤ l.length := by
      refine lim_len_le ?_
      have h1 := dnum_lt (l := l.take q) (by
        have := HALL.out
        rw [← List.take_append_drop q l, List.all_append, Bool.and_eq_true] at this
        exact this.1)
      rw [← HINV.out.eq, List.length_take, Nat.min_eq_left hqle] at h1
      have h2 : 10 ^ q ≤ B64 ^ l.length := Nat.le_trans (Nat.pow_le_pow_left (by decide) q) (Nat.pow_le_pow_right B64_pos hqle)
      omega
    have hnl := HOWN.out.sl.len
    by_cases hq : q = l.length
    · have HF := Lib.hid (HF0.out hq)
      have hn : n ≤ l.length := by omega
      have g0 : s.size = 0 := by omega
      clear hlen hnl hq hqle hsize
      go_wp2_with fail
      go_ret2
      have ho := HOWN.out
      rw [HF.out] at ho
      exact ⟨o, n, c, rfl, ho, HEX.out, hn⟩
    · obtain ⟨hg1, hg2, hg3, hinv2⟩ := HINV.out.step (by omega)
      have hall2 : ((l.drop q).take (grp l q)).all isDig = true := by
        have := HALL.out
        rw [← List.take_append_drop q l, List.all_append, Bool.and_eq_true] at this
        have h2 := this.2
        rw [← List.take_append_drop (grp l q) (l.drop q), List.all_append, Bool.and_eq_true] at h2
        exact h2.1
      have hlen2 : ((l.drop q).take (grp l q)).length = grp l q := by rw [List.length_take, List.length_drop]; omega
      have hxB : dnum ((l.drop q).take (grp l q)) < B64 := by
        have h1 := dnum_lt hall2
        rw [hlen2] at h1
        have h2 : 10 ^ grp l q ≤ 10 ^ 19 := Nat.pow_le_pow_right (by decide) hg1
        have h3 : 10 ^ 19 < B64 := by decide
        omega
      have CP := fun w => puint_calls ((l.drop q).take (grp l q)) hall2 (by intro h; rw [h] at hlen2; simp at hlen2; omega) (by omega) w
      obtain ⟨D, hD⟩ : ∃ D, l.length - q = D := ⟨_, rfl⟩
      rw [hD] at hsize
      have hgd : grp l q = (D - 1) % 19 + 1 := by unfold grp; rw [hD]
      have hx1 : s.extract 0 (grp l q) = ⟨((l.drop q).take (grp l q)).toArray⟩ := by rw [← HS.out]; exact str_upto _ _
      have hx3 : s.extract (grp l q) D = ⟨(l.drop (q + grp l q)).toArray⟩ := by
        have := str_from (l.drop q) (grp l q)
        rw [List.length_drop, hD, List.drop_drop, HS.out] at this
        exact this
      obtain ⟨s1, hs1⟩ : ∃ s1 : ByteArray, (⟨((l.drop q).take (grp l q)).toArray⟩ : ByteArray) = s1 := ⟨_, rfl⟩
      obtain ⟨s3, hs3⟩ : ∃ s3 : ByteArray, (⟨(l.drop (q + grp l q)).toArray⟩ : ByteArray) = s3 := ⟨_, rfl⟩
      have HSZ3 := Lib.hid (show s3.size < D by rw [← hs3, str_size, List.length_drop]; omega)
      simp only [hs1] at CP hx1
      rw [hs3] at hx3
      obtain ⟨x, hx⟩ : ∃ x, dnum ((l.drop q).take (grp l q)) = x := ⟨_, rfl⟩
      simp only [hx] at CP hinv2 hxB
      obtain ⟨g, hg⟩ : ∃ g, grp l q = g := ⟨_, rfl⟩
      simp only [hg] at hg1 hg2 hg3 hinv2 hgd hx1 hx3 hs3
      have HINV2 := Lib.hid hinv2; have HS3 := Lib.hid hs3
      have hDpos : 0 < D := by omega
      have hDle : D ≤ 1000000 := by omega
      have f1 : ((D : Int) - 1).tmod 19 = (g : Int) - 1 := by rw [Int.tmod_eq_emod_of_nonneg (by omega)]; omega
      have f2 : IntKind.i64.wrap ((D : Int) - 1) = (D : Int) - 1 := IntWalk.i64_in _ (by omega)
      have f3 : (g : Int) - 1 + 1 = (g : Int) := by omega
      have f4 : IntKind.i64.wrap ((g : Int) - 1) = (g : Int) - 1 := IntWalk.i64_in _ (by omega)
      have f5 : IntKind.i64.wrap (g : Int) = (g : Int) := IntWalk.i64_in _ (by omega)
      have f6 : (g : Int) ≤ (D : Int) := by omega
      have f7 : (0 : Int) < (D : Int) := by omega
      have HCP := Lib.hid CP
      have HN := Lib.hid (show n ≤ 1000000 by omega)
      have HXB := Lib.hid hxB
      clear CP hinv2 hs1 hs3 hx hg hall2 hlen2 hxB hgd hD hq hqle hlen hnl hg3
      go_wp2_with fail
      refine (HCP.out _).mono ?_
      rintro e w2 ⟨rfl, hext2⟩
      obtain ⟨Z, hZ⟩ : ∃ Z, w2.alloc (.cells #[.int .u64 10000000000000000000] 26) = Z := ⟨_, rfl⟩
      have EZ : Ext w2 Z := by rw [← hZ]; exact (Ext.refl _).alloc _
      have hlit : Sl Z (some ⟨w2.heap.size, 0, none⟩) 1 1 (lim 10000000000000000000) := by rw [← hZ]; exact lit1_at w2 10000000000000000000 (by decide) (by decide)
      have CM := mul_calls (HOWN.out.sl.old (hext2.trans EZ)) hlit (by have := HN.out; omega) (by omega)
      rw [val_lim, val_lim] at CM
      have HCM := Lib.hid CM; have HZ := Lib.hid hZ; have HE2 := Lib.hid (HEX.out.trans (hext2.trans EZ))
      clear CM hZ hext2 EZ hlit
      go_wp2_with (rw [HZ.out])
      refine HCM.out.mono ?_
      rintro e w3 ⟨a3, n3, c3, rfl, hown3, hext3, hn3⟩
      have HO3 := Lib.hid hown3.sl; have HE3 := Lib.hid (HE2.out.trans hext3)
      clear hown3 hext3
      go_wp2_with fail
      refine (of_calls x HXB.out _).mono ?_
      rintro e w4 ⟨a4, n4, c4, rfl, hown4, hext4, hn4⟩
      have CA := add_calls (HO3.out.old hext4) hown4.sl (by have := HN.out; omega) (by omega)
      rw [val_lim, val_lim] at CA
      have HCA := Lib.hid CA; have HE4 := Lib.hid (HE3.out.trans hext4)
      clear CA hown4 hext4
      go_wp2_with fail
      refine HCA.out.mono ?_
      rintro e w5 ⟨a5, n5, c5, rfl, hown5, hext5, hn5⟩
      have HO5 := Lib.hid (hown5.mono HE4.out.size); have HE5 := Lib.hid (HE4.out.trans hext5)
      clear hown5 hext5
      go_wp2_with fail
      go_roundw
      case rel => exact ⟨q + g, _, a5, n5, c5, HINV2.out, by rw [HS3.out], rfl, HO5.out, HE5.out⟩
      case measure => simp only [lenS]; have := HSZ3.out; omega

set_option maxHeartbeats 1000000 in
set_option maxRecDepth 100000 in
theorem parse_bad (l : List UInt8) (hl : l.length ≤ 1000000) (hf : decForm l = false) (w : World) :
    Calls Tryz.prog 62 #[.string ⟨l.toArray⟩] w (New2 w 0 [] 13) := by
  have CD := Lib.hid (ndigits_calls l hl w)
  rw [hf] at CD
  clear hf
  go_enter Tryz.func62, Tryz.ntmps62
  go_wp2_with fail
  refine CD.out.mono ?_
  rintro e w1 ⟨rfl, hext1⟩
  go_wp2_with fail
  go_ret2
  exact ⟨none, 0, 0, rfl, Own.nil _ _, hext1, Nat.le_refl _⟩

end Go.Proofs.YtifoflicflodcaaGreatDoor
