
/- Decimals read and written. -/
import Derived.Test.YtimcnhlcepemjaaGreatDoorMD
import Derived.Lib.ParseIntB
import Derived.Lib.SlTrimSet
import Derived.Lib.CutLaws
import Derived.Laws.Tables
import Derived.Test.YtimcnhlcepemjaaGreatDoorShelf
import Derived.Shelf.Strings.SlTrimAscii
import Derived.Test.YtimcnhlcepemjaaGreatDoorMA

/- Decimal digits read: plain. -/
namespace Go.Proofs.YtimcnhlcepemjaaGreatDoor
open Go.RowKit Go.Lib

def isDig (c : UInt8) : Bool := decide (48 ≤ c.toNat) && decide (c.toNat ≤ 57)
theorem isDig_iff {c : UInt8} : isDig c = true ↔ 48 ≤ c.toNat ∧ c.toNat ≤ 57 := by simp [isDig]
/-- The number that digits spell. -/
def dnumA (acc : Nat) (l : List UInt8) : Nat := l.foldl (fun v c => v * 10 + (c.toNat - 48)) acc
theorem dnumA_cons (acc : Nat) (c : UInt8) (r : List UInt8) : dnumA acc (c :: r) = dnumA (acc * 10 + (c.toNat - 48)) r := by
  unfold dnumA; rw [List.foldl_cons]
theorem dnumA_nil (acc : Nat) : dnumA acc [] = acc := by unfold dnumA; rw [List.foldl_nil]
def dnum (l : List UInt8) : Nat := dnumA 0 l
theorem dnumA_eq (l : List UInt8) : ∀ acc, dnumA acc l = acc * 10 ^ l.length + dnum l := by
  induction l with
  | nil => intro acc; unfold dnum; rw [dnumA_nil, dnumA_nil]; simp
  | cons c r ih =>
    intro acc
    unfold dnum
    rw [dnumA_cons, dnumA_cons, ih, ih (0 * 10 + (c.toNat - 48)), List.length_cons, Nat.pow_succ, Nat.add_mul, Nat.zero_mul, Nat.zero_add, Nat.mul_assoc, Nat.mul_comm 10, Nat.add_assoc]
theorem dnum_append (a b : List UInt8) : dnum (a ++ b) = dnum a * 10 ^ b.length + dnum b := by
  rw [← dnumA_eq]
  unfold dnum
  generalize 0 = z
  induction a generalizing z with
  | nil => rw [List.nil_append, dnumA_nil]
  | cons c r ih => rw [List.cons_append, dnumA_cons, dnumA_cons]; exact ih _
theorem dnum_one (c : UInt8) : dnum [c] = c.toNat - 48 := by unfold dnum; rw [dnumA_cons, dnumA_nil, Nat.zero_mul, Nat.zero_add]
theorem dnum_nil : dnum [] = 0 := dnumA_nil 0
theorem dnum_lt {l : List UInt8} (h : l.all isDig = true) : dnum l < 10 ^ l.length := by
  induction l with
  | nil => rw [dnum_nil]; decide
  | cons c r ih =>
    rw [List.all_cons, Bool.and_eq_true] at h
    have h1 := ih h.2
    have h2 := isDig_iff.1 h.1
    have e : dnum (c :: r) = dnum [c] * 10 ^ r.length + dnum r := dnum_append [c] r
    rw [e, dnum_one, List.length_cons, Nat.pow_succ]
    have h3 : (c.toNat - 48) * 10 ^ r.length ≤ 9 * 10 ^ r.length := Nat.mul_le_mul_right _ (by omega)
    omega
theorem parse_ok {M : Nat} (hM : M ≤ 18446744073709551615) : ∀ (l : List UInt8) (acc : Nat), l.all isDig = true → dnumA acc l ≤ M → parseUintM M acc l = .ok (dnumA acc l)
  | [], acc, _, _ => by rw [dnumA_nil]; rfl
  | c :: r, acc, h, hle => by
    rw [List.all_cons, Bool.and_eq_true] at h
    have h2 := isDig_iff.1 h.1
    have hge : acc * 10 + (c.toNat - 48) ≤ dnumA acc (c :: r) := by
      rw [dnumA_cons, dnumA_eq]
      have : 0 < 10 ^ r.length := Nat.pow_pos (by decide)
      have := Nat.le_mul_of_pos_right (acc * 10 + (c.toNat - 48)) this
      omega
    rw [dnumA_cons] at hle hge ⊢
    rw [parseUintM, if_pos h2, if_neg (by omega), if_neg (by omega)]
    exact parse_ok hM r _ h.2 hle
theorem parseB_ok {l : List UInt8} (h : l.all isDig = true) (h0 : l ≠ []) (hl : l.length ≤ 19) : parseUintB 64 l = .ok (dnum l) := by
  unfold parseUintB
  rw [if_neg h0]
  refine parse_ok (by decide) l 0 h ?_
  have h1 := dnum_lt h
  have h2 : 10 ^ l.length ≤ 10 ^ 19 := Nat.pow_le_pow_right (by decide) hl
  have h3 : (10 ^ 19 : Nat) ≤ 2 ^ 64 - 1 := by decide
  unfold dnum at h1
  omega

/-- Is it a row of digits as Text writes them? -/
def decForm (l : List UInt8) : Bool := decide (l ≠ []) && !(decide (l.head? = some 48) && decide (1 < l.length)) && l.all isDig
def digsSet : List UInt8 := [48, 49, 50, 51, 52, 53, 54, 55, 56, 57]
theorem digsSet_fin : ∀ n : Fin 256, digsSet.contains (UInt8.ofNat n.val) = isDig (UInt8.ofNat n.val) := by decide +kernel
theorem digsSet_has (c : UInt8) : digsSet.contains c = isDig c := by
  have := digsSet_fin ⟨c.toNat, c.toNat_lt⟩
  simpa using this
theorem dropWhile_nil_all {α : Type} (p : α → Bool) (l : List α) : l.dropWhile p = [] ↔ l.all p = true := by
  induction l with
  | nil => simp
  | cons x xs ih =>
    rw [List.dropWhile_cons, List.all_cons]
    cases h : p x
    · simp
    · simp [ih]
theorem dropWhile_cons_not {α : Type} (p : α → Bool) : ∀ (l : List α) (y : α) (t : List α), l.dropWhile p = y :: t → p y = false
  | [], y, t, h => by simp at h
  | x :: xs, y, t, h => by
    rw [List.dropWhile_cons] at h
    cases hx : p x
    · rw [hx] at h; simp at h; rw [← h.1]; exact hx
    · rw [hx] at h; exact dropWhile_cons_not p xs y t (by simpa using h)
theorem trimS_nil (l : List UInt8) : trimS l digsSet = [] ↔ l.all isDig = true := by
  have hp : (fun c => digsSet.contains c) = isDig := funext digsSet_has
  unfold trimS trimLeftS trimRightS
  rw [hp, dropWhile_nil_all, List.all_reverse]
  constructor
  · intro h
    cases hd : l.reverse.dropWhile isDig with
    | nil =>
      have := (dropWhile_nil_all _ _).1 hd
      rwa [List.all_reverse] at this
    | cons y t =>
      rw [hd, List.all_cons, Bool.and_eq_true] at h
      rw [dropWhile_cons_not _ _ _ _ hd] at h
      exact absurd h.1 (by decide)
  · intro h
    have := (dropWhile_nil_all isDig l.reverse).2 (by rw [List.all_reverse]; exact h)
    rw [this]; rfl

/-- What Parse's loop keeps: q bytes are read. -/
structure ParInv (l : List UInt8) (q v : Nat) : Prop where
  le : q ≤ l.length
  eq : v = dnum (l.take q)
  mul : q = 0 ∨ (l.length - q) % 19 = 0
def grp (l : List UInt8) (q : Nat) : Nat := (l.length - q - 1) % 19 + 1
theorem ParInv.step {l : List UInt8} {q v : Nat} (h : ParInv l q v) (hq : q < l.length) :
    grp l q ≤ 19 ∧ 0 < grp l q ∧ q + grp l q ≤ l.length ∧ ParInv l (q + grp l q) (v * 10000000000000000000 + dnum ((l.drop q).take (grp l q))) := by
  have h1 : q + grp l q ≤ l.length := by unfold grp; omega
  refine ⟨by unfold grp; omega, by unfold grp; omega, h1, h1, ?_, .inr (by unfold grp; omega)⟩
  rw [List.take_add, dnum_append, ← h.eq, List.length_take, List.length_drop, Nat.min_eq_left (by omega)]
  rcases h.mul with h0 | h0
  · have : v = 0 := by rw [h.eq, h0, List.take_zero, dnum_nil]
    rw [this, Nat.zero_mul, Nat.zero_mul]
  · rw [show grp l q = 19 by unfold grp; omega]
theorem ParInv.fin {l : List UInt8} {v : Nat} (h : ParInv l l.length v) : v = dnum l := by rw [h.eq, List.take_length]
theorem str_from (l : List UInt8) (k : Nat) : (⟨l.toArray⟩ : ByteArray).extract k l.length = ⟨(l.drop k).toArray⟩ := by
  have h : ((⟨l.toArray⟩ : ByteArray).extract k l.length).data = (l.drop k).toArray := by
    apply Array.ext'
    simp [List.take_of_length_le]
  exact ByteArray.ext h
theorem str_upto (l : List UInt8) (k : Nat) : (⟨l.toArray⟩ : ByteArray).extract 0 k = ⟨(l.take k).toArray⟩ := by
  have h : ((⟨l.toArray⟩ : ByteArray).extract 0 k).data = (l.take k).toArray := by
    apply Array.ext'
    simp
  exact ByteArray.ext h

end Go.Proofs.YtimcnhlcepemjaaGreatDoor

/- Decimals read: plain. -/
namespace Go.Proofs.YtimcnhlcepemjaaGreatDoor
open Go.RowKit Go.Lib

/-- What may stand behind the point. -/
def decTail (b : List UInt8) : Bool := decide (b ≠ []) && decide (b.length ≤ 36) && !decide (b.getLast? = some 48) && b.all isDig
theorem decTail_iff {b : List UInt8} : decTail b = true ↔ b ≠ [] ∧ b.length ≤ 36 ∧ b.getLast? ≠ some 48 ∧ b.all isDig = true := by
  unfold decTail
  simp only [Bool.and_eq_true, decide_eq_true_iff, Bool.not_eq_true', decide_eq_false_iff_not, and_assoc]
/-- What Parse hands to nat.Parse. -/
def decPad (b : List UInt8) : List UInt8 := trimLeftB b 48 ++ List.replicate (36 - b.length) 48
theorem dnum_cons (c : UInt8) (r : List UInt8) : dnum (c :: r) = (c.toNat - 48) * 10 ^ r.length + dnum r := by
  have e : dnum (c :: r) = dnum [c] * 10 ^ r.length + dnum r := dnum_append [c] r
  rw [e, dnum_one]
theorem dnum_zeros (k : Nat) : dnum (List.replicate k 48) = 0 := by
  induction k with
  | zero => exact dnum_nil
  | succ k ih => rw [List.replicate_succ, dnum_cons, ih, show (48 : UInt8).toNat - 48 = 0 from rfl, Nat.zero_mul]
theorem dnum_trimLeft (l : List UInt8) : dnum (trimLeftB l 48) = dnum l := by
  unfold trimLeftB
  induction l with
  | nil => rfl
  | cons c r ih =>
    rw [List.dropWhile_cons]
    by_cases h : c = 48
    · subst h
      rw [if_pos (by decide), ih, dnum_cons]
      show _ = (48 - 48) * _ + _
      omega
    · rw [if_neg (by simpa using h)]
theorem dnum_decPad (b : List UInt8) : dnum (decPad b) = dnum b * 10 ^ (36 - b.length) := by
  unfold decPad
  rw [dnum_append, dnum_zeros, List.length_replicate, dnum_trimLeft, Nat.add_zero]
theorem trimLeftB_all {b : List UInt8} {c : UInt8} {p : UInt8 → Bool} (h : b.all p = true) : (trimLeftB b c).all p = true := by
  rw [List.all_eq_true] at h ⊢
  intro x hx
  exact h x ((List.dropWhile_sublist _).subset hx)
theorem decPad_form {b : List UInt8} (h : decTail b = true) : decForm (decPad b) = true := by
  obtain ⟨h0, h1, h2, h3⟩ := decTail_iff.1 h
  obtain ⟨t, ht⟩ : ∃ t, trimLeftB b 48 = t := ⟨_, rfl⟩
  have hall : t.all isDig = true := by rw [← ht]; exact trimLeftB_all h3
  have hne : t ≠ [] := by
    intro h4
    rw [h4] at ht
    unfold trimLeftB at ht
    have h5 := (dropWhile_nil_all _ _).1 ht
    rw [List.all_eq_true] at h5
    apply h2
    rw [List.getLast?_eq_some_getLast h0]
    have := h5 _ (List.getLast_mem h0)
    simp at this
    rw [this]
  cases t with
  | nil => exact absurd rfl hne
  | cons y r =>
    unfold trimLeftB at ht
    have hy := dropWhile_cons_not _ _ _ _ ht
    have hy' : y ≠ 48 := by simpa using hy
    unfold decPad
    rw [show trimLeftB b 48 = y :: r from ht]
    unfold decForm
    rw [List.all_append, hall]
    simp [hy']
    exact Or.inr (by decide)
theorem decPad_len (b : List UInt8) (h : b.length ≤ 36) : (decPad b).length ≤ 36 := by
  unfold decPad
  rw [List.length_append, List.length_replicate]
  have : (trimLeftB b 48).length ≤ b.length := by unfold trimLeftB; exact (List.dropWhile_sublist _).length_le
  omega
theorem cut_len (l s : List UInt8) : (cut l s).1.length ≤ l.length ∧ (cut l s).2.1.length ≤ l.length := by
  unfold cut
  split
  · exact ⟨by rw [List.length_take]; omega, by rw [List.length_drop]; omega⟩
  · exact ⟨Nat.le_refl _, Nat.zero_le _⟩

end Go.Proofs.YtimcnhlcepemjaaGreatDoor

/- dec.places: the decimal places of what is below one. -/
namespace Go.Proofs.YtimcnhlcepemjaaGreatDoor
open Go.RowKit Go.Lib

end Go.Proofs.YtimcnhlcepemjaaGreatDoor

/- dec.Text. -/
namespace Go.Proofs.YtimcnhlcepemjaaGreatDoor
open Go.RowKit Go.Lib

theorem bytes_add (a b : List UInt8) : (⟨a.toArray⟩ : ByteArray) ++ ⟨b.toArray⟩ = ⟨(a ++ b).toArray⟩ := by
  apply ByteArray.ext
  simp

end Go.Proofs.YtimcnhlcepemjaaGreatDoor

/- Decimals: what Text writes is read back; plain. -/
namespace Go.Proofs.YtimcnhlcepemjaaGreatDoor
open Go.RowKit Go.Lib

/-- What Parse reads. -/
def decRead (l : List UInt8) : Option Nat :=
  if decForm (cut l [46]).1 = false then none
  else if (cut l [46]).2.2 = false then some (dnum (cut l [46]).1 * U36)
  else if decTail (cut l [46]).2.1 = false then none
  else some (dnum (cut l [46]).1 * U36 + dnum (cut l [46]).2.1 * 10 ^ (36 - (cut l [46]).2.1.length))

end Go.Proofs.YtimcnhlcepemjaaGreatDoor

/- nat.digits, nat.Parse. -/
namespace Go.Proofs.YtimcnhlcepemjaaGreatDoor
open Go.RowKit Go.Lib

theorem str_size (l : List UInt8) : (⟨l.toArray⟩ : ByteArray).size = l.length := by
  show l.toArray.size = _
  simp
theorem toList_str (l : List UInt8) : (⟨l.toArray⟩ : ByteArray).data.toList = l := by simp
theorem ascii10 : ∀ (j : Nat) (b : UInt8), digsSet[j]? = some b → b.toNat < 128 := by
  intro j b h
  have hm : b ∈ digsSet := List.mem_of_getElem? h
  simp only [digsSet, List.mem_cons, List.not_mem_nil, or_false] at hm
  rcases hm with rfl | rfl | rfl | rfl | rfl | rfl | rfl | rfl | rfl | rfl <;> decide
theorem trim10_calls (l : List UInt8) (hl : l.length ≤ 1000000) (w : World) :
    Calls Tryz.prog 87 #[.string ⟨l.toArray⟩, .string ⟨#[48, 49, 50, 51, 52, 53, 54, 55, 56, 57]⟩] w fun e w' => e = .returned (.string ⟨(trimS l digsSet).toArray⟩) ∧ Ext w w' := by
  have := Any.strings_Trim_ascii Tryz.lays160 (fun w => by kernel_rfl) (by kernel_rfl) ⟨l.toArray⟩ ⟨digsSet.toArray⟩ w (by rw [str_size]; omega) (by rw [str_size]; decide) (by rw [toList_str]; exact ascii10)
  rw [toList_str, toList_str] at this
  exact this

set_option maxHeartbeats 2000000 in
set_option maxRecDepth 100000 in
theorem ndigits_calls (l : List UInt8) (hl : l.length ≤ 1000000) (w : World) :
    Calls Tryz.prog 114 #[.string ⟨l.toArray⟩] w (RetE (.bool (decForm l)) w) := by
  cases l with
  | nil =>
    go_enter Tryz.func114, Tryz.ntmps114
    go_wp2_with fail
    go_ret
    exact ⟨rfl, Ext.refl _⟩
  | cons c r =>
    have CT := Lib.hid (trim10_calls (c :: r) hl w)
    have hsz := str_size (c :: r)
    rw [List.length_cons] at hsz
    have hl' : r.length + 1 ≤ 1000000 := hl
    have hemp : (⟨(c :: r).toArray⟩ : ByteArray).toList.isEmpty = false := by rw [Lib.toList_data]; simp
    have hget : ∀ h : 0 < (⟨(c :: r).toArray⟩ : ByteArray).size, (⟨(c :: r).toArray⟩ : ByteArray)[0]'h = c := fun _ => rfl
    obtain ⟨s2, hs2⟩ : ∃ s : ByteArray, (⟨(trimS (c :: r) digsSet).toArray⟩ : ByteArray) = s := ⟨_, rfl⟩
    have HS2 := Lib.hid (show s2.toList.isEmpty = (c :: r).all isDig by
      rw [← hs2, Lib.toList_data, Bool.eq_iff_iff, List.isEmpty_iff, ← trimS_nil])
    rw [hs2] at CT
    clear hs2
    generalize hs : (⟨(c :: r).toArray⟩ : ByteArray) = s at CT hsz hemp hget ⊢
    have HF := Lib.hid (show decForm (c :: r) = (!(decide (c = 48) && decide (1 < r.length + 1)) && (c :: r).all isDig) by
      unfold decForm; simp)
    clear hs hl
    have hc8 : c.toNat < 256 := c.toNat_lt
    have hr : (r.length : Int) ≤ 1000000 := by omega
    by_cases h48 : c.toNat = 48
    · have h48' : c = 48 := UInt8.toNat_inj.1 h48
      have hI : (c.toNat : Int) = 48 := by omega
      by_cases h1 : r = []
      · subst h1
        have hd : decForm [c] = s2.toList.isEmpty := by rw [HF.out, HS2.out]; simp
        have HD := Lib.hid hd
        have hz : ¬ ((1 : Int) < (([] : List UInt8).length : Int) + 1) := by simp
        clear hd h48'
        go_enter Tryz.func114, Tryz.ntmps114
        go_wp2_with fail
        refine CT.out.mono ?_
        rintro e w2 ⟨rfl, hx⟩
        go_wp2_with fail
        go_ret
        exact ⟨by rw [HD.out]; rfl, hx⟩
      · have hlen : 0 < r.length := List.length_pos_iff.2 h1
        have hd : decForm (c :: r) = false := by rw [HF.out, h48', decide_eq_true rfl, decide_eq_true (by omega)]; rfl
        have HD := Lib.hid hd
        have hz : ((1 : Int) < (r.length : Int) + 1) := by omega
        clear hd h48' h1
        go_enter Tryz.func114, Tryz.ntmps114
        go_wp2_with fail
        go_ret
        exact ⟨by rw [HD.out]; rfl, Ext.refl _⟩
    · have hd : decForm (c :: r) = s2.toList.isEmpty := by
        have : c ≠ 48 := fun h => h48 (by rw [h]; rfl)
        rw [HF.out, HS2.out, decide_eq_false this]; simp
      have HD := Lib.hid hd
      have hI : ¬ (c.toNat : Int) = 48 := by omega
      clear hd
      go_enter Tryz.func114, Tryz.ntmps114
      go_wp2_with fail
      refine CT.out.mono ?_
      rintro e w2 ⟨rfl, hx⟩
      go_wp2_with fail
      go_ret
      exact ⟨by rw [HD.out]; rfl, hx⟩

theorem bytesWorld_ext (w : World) (e : TypeId) (s : ByteArray) : Ext w (Lib.bytesWorld w e s) :=
  ⟨rfl, rfl, rfl, by rw [Lib.bytesWorld_size]; omega, fun k hk => Lib.bytesWorld_at_old w e s k hk⟩
theorem lit1_at (w : World) (x : Nat) (h0 : 0 < x) (hx : x < B64) : Sl (w.alloc (.cells #[.int .u64 (x : Int)] 31)) (some ⟨w.heap.size, 0, none⟩) 1 1 (lim x) := by
  rw [lim_small h0 hx]; exact (own_lit w.heap.size w x hx (Nat.le_refl _)).sl
theorem puint_calls (l : List UInt8) (h : l.all isDig = true) (h0 : l ≠ []) (hl : l.length ≤ 19) (w : World) :
    Calls Tryz.prog 115 #[.string ⟨l.toArray⟩, .int .i64 10, .int .i64 64] w (RetE (.tuple #[.int .u64 (dnum l : Nat), .nilIface]) w) := by
  have := Tryz.strconv_ParseUint_10_at64_ok ⟨l.toArray⟩ (by rw [str_size]; omega) (dnum l) (by rw [toList_str]; exact parseB_ok h h0 hl) w
  refine this.mono ?_
  rintro e w' ⟨rfl, h | h⟩
  · exact ⟨rfl, by rw [h]; exact Ext.refl _⟩
  · exact ⟨rfl, by rw [h]; exact bytesWorld_ext _ _ _⟩

def ParRel (w : World) (l : List UInt8) (sv ov : Value) (wr : World) : Prop :=
  ∃ (q v : Nat) (o : Option Addr) (n c : Nat), ParInv l q v ∧ sv = .string ⟨(l.drop q).toArray⟩ ∧ ov = .slice o n c ∧ Own w.heap.size wr o n c (lim v) ∧ Ext w wr

def lenS : Value → Nat
  | .string s => s.size
  | _ => 0

set_option maxHeartbeats 4000000 in
set_option maxRecDepth 100000 in
theorem parse_form (l : List UInt8) (hl : l.length ≤ 1000000) (hf : decForm l = true) (w : World) :
    Calls Tryz.prog 86 #[.string ⟨l.toArray⟩] w (New2 w l.length (lim (dnum l)) 0) := by
  have hall : l.all isDig = true := by
    unfold decForm at hf
    simp only [Bool.and_eq_true] at hf
    exact hf.2
  have CD := Lib.hid (ndigits_calls l hl w)
  rw [hf] at CD
  have HALL := Lib.hid hall
  clear hf hall
  have e0 : (⟨l.toArray⟩ : ByteArray) = ⟨(l.drop 0).toArray⟩ := rfl
  go_enter Tryz.func86, Tryz.ntmps86
  go_wp2_with fail
  refine CD.out.mono ?_
  rintro e w1 ⟨rfl, hext1⟩
  go_wp2_with fail
  go_loopw [0, 4] (fun sv ov wr => ParRel w l sv ov wr) (fun sv _ _ => lenS sv)
  case atStart => exact ⟨0, 0, none, 0, 0, ⟨by omega, by rw [List.take_zero, dnum_nil], .inl rfl⟩, rfl, rfl, by rw [lim_zero]; exact Own.nil _ _, hext1⟩
  case round =>
    obtain ⟨q, v, o, n, c, hinv, rfl, rfl, hown, hex⟩ := hrel
    have HINV := Lib.hid hinv; have HOWN := Lib.hid hown; have HEX := Lib.hid hex
    have hqle := hinv.le
    have hsize := str_size (l.drop q)
    rw [List.length_drop] at hsize
    obtain ⟨s, hs⟩ : ∃ s : ByteArray, (⟨(l.drop q).toArray⟩ : ByteArray) = s := ⟨_, rfl⟩
    rw [hs] at hsize ⊢
    have HS := Lib.hid hs
    have HF0 := Lib.hid (fun (h : q = l.length) => show v = dnum l by have := hinv; subst h; exact this.fin)
    clear hinv hown hex
    have hlen : (lim v).length ≤ l.length := by
      refine lim_len_le ?_
      have h1 := dnum_lt (l := l.take q) (by
        have := HALL.out
        rw [← List.take_append_drop q l, List.all_append, Bool.and_eq_true] at this
        exact this.1)
      rw [← HINV.out.eq, List.length_take, Nat.min_eq_left hqle] at h1
      have h2 : 10 ^ q ≤ B64 ^ l.length := Nat.le_trans (Nat.pow_le_pow_left (by decide) q) (Nat.pow_le_pow_right B64_pos hqle)
      omega
    have hnl := HOWN.out.sl.len
    by_cases hq : q = l.length
    · have HF := Lib.hid (HF0.out hq)
      have hn : n ≤ l.length := by omega
      have g0 : s.size = 0 := by omega
      clear hlen hnl hq hqle hsize
      go_wp2_with fail
      go_ret2
      have ho := HOWN.out
      rw [HF.out] at ho
      exact ⟨o, n, c, rfl, ho, HEX.out, hn⟩
    · obtain ⟨hg1, hg2, hg3, hinv2⟩ := HINV.out.step (by omega)
      have hall2 : ((l.drop q).take (grp l q)).all isDig = true := by
        have := HALL.out
        rw [← List.take_append_drop q l, List.all_append, Bool.and_eq_true] at this
        have h2 := this.2
        rw [← List.take_append_drop (grp l q) (l.drop q), List.all_append, Bool.and_eq_true] at h2
        exact h2.1
      have hlen2 : ((l.drop q).take (grp l q)).length = grp l q := by rw [List.length_take, List.length_drop]; omega
      have hxB : dnum ((l.drop q).take (grp l q)) < B64 := by
        have h1 := dnum_lt hall2
        rw [hlen2] at h1
        have h2 : 10 ^ grp l q ≤ 10 ^ 19 := Nat.pow_le_pow_right (by decide) hg1
        have h3 : 10 ^ 19 < B64 := by decide
        omega
      have CP := fun w => puint_calls ((l.drop q).take (grp l q)) hall2 (by intro h; rw [h] at hlen2; simp at hlen2; omega) (by omega) w
      obtain ⟨D, hD⟩ : ∃ D, l.length - q = D := ⟨_, rfl⟩
      rw [hD] at hsize
      have hgd : grp l q = (D - 1) % 19 + 1 := by unfold grp; rw [hD]
      have hx1 : s.extract 0 (grp l q) = ⟨((l.drop q).take (grp l q)).toArray⟩ := by rw [← HS.out]; exact str_upto _ _
      have hx3 : s.extract (grp l q) D = ⟨(l.drop (q + grp l q)).toArray⟩ := by
        have := str_from (l.drop q) (grp l q)
        rw [List.length_drop, hD, List.drop_drop, HS.out] at this
        exact this
      obtain ⟨s1, hs1⟩ : ∃ s1 : ByteArray, (⟨((l.drop q).take (grp l q)).toArray⟩ : ByteArray) = s1 := ⟨_, rfl⟩
      obtain ⟨s3, hs3⟩ : ∃ s3 : ByteArray, (⟨(l.drop (q + grp l q)).toArray⟩ : ByteArray) = s3 := ⟨_, rfl⟩
      have HSZ3 := Lib.hid (show s3.size < D by rw [← hs3, str_size, List.length_drop]; omega)
      simp only [hs1] at CP hx1
      rw [hs3] at hx3
      obtain ⟨x, hx⟩ : ∃ x, dnum ((l.drop q).take (grp l q)) = x := ⟨_, rfl⟩
      simp only [hx] at CP hinv2 hxB
      obtain ⟨g, hg⟩ : ∃ g, grp l q = g := ⟨_, rfl⟩
      simp only [hg] at hg1 hg2 hg3 hinv2 hgd hx1 hx3 hs3
      have HINV2 := Lib.hid hinv2; have HS3 := Lib.hid hs3
      have hDpos : 0 < D := by omega
      have hDle : D ≤ 1000000 := by omega
      have f1 : ((D : Int) - 1).tmod 19 = (g : Int) - 1 := by rw [Int.tmod_eq_emod_of_nonneg (by omega)]; omega
      have f2 : IntKind.i64.wrap ((D : Int) - 1) = (D : Int) - 1 := IntWalk.i64_in _ (by omega)
      have f3 : (g : Int) - 1 + 1 = (g : Int) := by omega
      have f4 : IntKind.i64.wrap ((g : Int) - 1) = (g : Int) - 1 := IntWalk.i64_in _ (by omega)
      have f5 : IntKind.i64.wrap (g : Int) = (g : Int) := IntWalk.i64_in _ (by omega)
      have f6 : (g : Int) ≤ (D : Int) := by omega
      have f7 : (0 : Int) < (D : Int) := by omega
      have HCP := Lib.hid CP
      have HN := Lib.hid (show n ≤ 1000000 by omega)
      have HXB := Lib.hid hxB
      clear CP hinv2 hs1 hs3 hx hg hall2 hlen2 hxB hgd hD hq hqle hlen hnl hg3
      go_wp2_with fail
      refine (HCP.out _).mono ?_
      rintro e w2 ⟨rfl, hext2⟩
      obtain ⟨Z, hZ⟩ : ∃ Z, w2.alloc (.cells #[.int .u64 10000000000000000000] 31) = Z := ⟨_, rfl⟩
      have EZ : Ext w2 Z := by rw [← hZ]; exact (Ext.refl _).alloc _
      have hlit : Sl Z (some ⟨w2.heap.size, 0, none⟩) 1 1 (lim 10000000000000000000) := by rw [← hZ]; exact lit1_at w2 10000000000000000000 (by decide) (by decide)
      have CM := mul_calls (HOWN.out.sl.old (hext2.trans EZ)) hlit (by have := HN.out; omega) (by omega)
      rw [val_lim, val_lim] at CM
      have HCM := Lib.hid CM; have HZ := Lib.hid hZ; have HE2 := Lib.hid (HEX.out.trans (hext2.trans EZ))
      clear CM hZ hext2 EZ hlit
      go_wp2_with (rw [HZ.out])
      refine HCM.out.mono ?_
      rintro e w3 ⟨a3, n3, c3, rfl, hown3, hext3, hn3⟩
      have HO3 := Lib.hid hown3.sl; have HE3 := Lib.hid (HE2.out.trans hext3)
      clear hown3 hext3
      go_wp2_with fail
      refine (of_calls x HXB.out _).mono ?_
      rintro e w4 ⟨a4, n4, c4, rfl, hown4, hext4, hn4⟩
      have CA := add_calls (HO3.out.old hext4) hown4.sl (by have := HN.out; omega) (by omega)
      rw [val_lim, val_lim] at CA
      have HCA := Lib.hid CA; have HE4 := Lib.hid (HE3.out.trans hext4)
      clear CA hown4 hext4
      go_wp2_with fail
      refine HCA.out.mono ?_
      rintro e w5 ⟨a5, n5, c5, rfl, hown5, hext5, hn5⟩
      have HO5 := Lib.hid (hown5.mono HE4.out.size); have HE5 := Lib.hid (HE4.out.trans hext5)
      clear hown5 hext5
      go_wp2_with fail
      go_roundw
      case rel => exact ⟨q + g, _, a5, n5, c5, HINV2.out, by rw [HS3.out], rfl, HO5.out, HE5.out⟩
      case measure => simp only [lenS]; have := HSZ3.out; omega

set_option maxHeartbeats 1000000 in
set_option maxRecDepth 100000 in
theorem parse_bad (l : List UInt8) (hl : l.length ≤ 1000000) (hf : decForm l = false) (w : World) :
    Calls Tryz.prog 86 #[.string ⟨l.toArray⟩] w (New2 w 0 [] 13) := by
  have CD := Lib.hid (ndigits_calls l hl w)
  rw [hf] at CD
  clear hf
  go_enter Tryz.func86, Tryz.ntmps86
  go_wp2_with fail
  refine CD.out.mono ?_
  rintro e w1 ⟨rfl, hext1⟩
  go_wp2_with fail
  go_ret2
  exact ⟨none, 0, 0, rfl, Own.nil _ _, hext1, Nat.le_refl _⟩

end Go.Proofs.YtimcnhlcepemjaaGreatDoor

/- dec.Parse. -/
namespace Go.Proofs.YtimcnhlcepemjaaGreatDoor
open Go.RowKit Go.Lib

/-- What strings.Cut asks of the library's variable. -/
def MaxL (w : World) : Prop := ∃ m : Int, w.cell? ⟨3, 0, none⟩ = some (.int .i64 m)
theorem MaxL.old {w w' : World} (h : MaxL w) (E : Ext w w') : MaxL w' := by
  obtain ⟨m, hm⟩ := h
  exact ⟨m, E.cell hm⟩
theorem cut46_calls (l : List UInt8) (hl : l.length ≤ 1000000) {w : World} (hM : MaxL w) :
    Calls Tryz.prog 85 #[.string ⟨l.toArray⟩, .string ⟨#[46]⟩] w fun e w' => e = .returned (.tuple #[.string ⟨(cut l [46]).1.toArray⟩, .string ⟨(cut l [46]).2.1.toArray⟩, .bool (cut l [46]).2.2]) ∧ Ext w w' := by
  obtain ⟨m, hm⟩ := hM
  have := Tryz.strings_Cut ⟨l.toArray⟩ ⟨[46].toArray⟩ m w (by rw [str_size]; omega) hm
  rw [toList_str, toList_str] at this
  exact this.mono fun e w' ⟨h1, n, h2⟩ => ⟨h1, by rw [h2]; exact (Ext.refl w).drewN n⟩
theorem trimL_calls (l : List UInt8) (w : World) :
    Calls Tryz.prog 88 #[.string ⟨l.toArray⟩, .string ⟨#[48]⟩] w fun e w' => e = .returned (.string ⟨(trimLeftB l 48).toArray⟩) ∧ w' = w := by
  have := Tryz.strings_TrimLeft_one ⟨l.toArray⟩ 48 (by decide) w
  rw [toList_str] at this
  exact this
theorem repeatL_one_byte (k : Nat) : repeatL [48] k = List.replicate k (48 : UInt8) := by
  induction k with
  | zero => rfl
  | succ k ih =>
    rw [List.replicate_succ, ← ih]
    rfl
theorem repeat48_calls (k : Nat) (hk : k ≤ 36) (w : World) :
    Calls Tryz.prog 89 #[.string ⟨#[48]⟩, .int .i64 (k : Int)] w fun e w' => e = .returned (.string ⟨(List.replicate k (48 : UInt8)).toArray⟩) ∧ Ext w w' := by
  have := Tryz.strings_Repeat ⟨[48].toArray⟩ k w (by omega) (by rw [str_size, List.length_singleton]; omega)
  rw [toList_str, repeatL_one_byte] at this
  exact this.mono fun e w' ⟨h1, h2⟩ => ⟨h1, h2⟩

set_option maxHeartbeats 4000000 in
set_option maxRecDepth 100000 in
theorem dparse_a (l : List UInt8) (hl : l.length ≤ 1000) {w : World} (hM : MaxL w) (h1 : decForm (cut l [46]).1 = false) :
    Calls Tryz.prog 48 #[.string ⟨l.toArray⟩] w (NewDE w (l.length + 40) [] 22) := by
  have E0 := (Ext.refl w).alloc (.cells #[.slice none 0 0] 35)
  have CC := Lib.hid (cut46_calls l (by omega) (hM.old E0))
  have hlen := cut_len l [46]
  generalize cut l [46] = cc at *
  obtain ⟨a, b, f⟩ := cc
  simp only at *
  have HL := Lib.hid hlen; have HL0 := Lib.hid hl
  have CP := Lib.hid (fun w => parse_bad a (by omega) h1 w)
  clear h1 hlen hl E0 hM
  go_enter Tryz.func48, Tryz.ntmps48
  go_wp2_with fail
  refine CC.out.mono ?_
  rintro e w1 ⟨rfl, hext1⟩
  go_wp2_with fail
  refine (CP.out _).mono ?_
  rintro e w2 ⟨o2, n2, c2, rfl, hown2, hext2, hno2⟩
  obtain ⟨k1, k2⟩ := box_at (X := w) rfl (hext1.trans hext2)
  obtain ⟨f1, f2, f3⟩ := box_fin (Ext.refl w) rfl (hext1.trans hext2) (.slice none 0 0)
  go_wp2_with fail
  try simp only [Exit.inBlock, Exit.then]
  refine bodyPost_ret (results_box2 rfl _ _ _ _ rfl (load_dec f2)) rfl ?_
  exact ⟨none, 0, 0, rfl, Own.nil _ _, f1, by omega⟩

set_option maxHeartbeats 4000000 in
set_option maxRecDepth 100000 in
theorem dparse_b (l : List UInt8) (hl : l.length ≤ 1000) {w : World} (hM : MaxL w) (h1 : decForm (cut l [46]).1 = true) (h2 : (cut l [46]).2.2 = false) :
    Calls Tryz.prog 48 #[.string ⟨l.toArray⟩] w (NewDE w (l.length + 40) (lim (dnum (cut l [46]).1 * U36)) 0) := by
  have E0 := (Ext.refl w).alloc (.cells #[.slice none 0 0] 35)
  have CC := Lib.hid (cut46_calls l (by omega) (hM.old E0))
  have hlen := cut_len l [46]
  generalize cut l [46] = cc at *
  obtain ⟨a, b, f⟩ := cc
  simp only at *
  have HL := Lib.hid hlen; have HL0 := Lib.hid hl
  have CP := Lib.hid (fun w => parse_form a (by omega) h1 w)
  subst h2
  clear h1 hlen hl E0 hM
  go_enter Tryz.func48, Tryz.ntmps48
  go_wp2_with fail
  refine CC.out.mono ?_
  rintro e w1 ⟨rfl, hext1⟩
  go_wp2_with fail
  refine (CP.out _).mono ?_
  rintro e w2 ⟨o2, n2, c2, rfl, hown2, hext2, hno2⟩
  have CD := dofnat_calls hown2.sl (by have := HL.out.1; have := HL0.out; omega)
  rw [val_lim] at CD
  have HCD := Lib.hid CD; have HE2 := Lib.hid (hext1.trans hext2)
  clear CD hown2 hext1 hext2
  go_wp2_with fail
  refine HCD.out.mono ?_
  rintro e w3 ⟨o3, n3, c3, rfl, hown3, hext3, hno3⟩
  obtain ⟨k1, k2⟩ := box_at (X := w) rfl (HE2.out.trans hext3)
  obtain ⟨f1, f2, f3⟩ := box_fin (Ext.refl w) rfl (HE2.out.trans hext3) (.slice o3 n3 c3)
  have hs := HE2.out.size
  have z1 := HL.out.1
  go_wp2_with fail
  try simp only [Exit.inBlock, Exit.then]
  refine bodyPost_ret (results_box2 rfl _ _ _ _ rfl (load_dec f2)) rfl ?_
  exact ⟨o3, n3, c3, rfl, f3 (hown3.mono hs), f1, by omega⟩

set_option maxHeartbeats 4000000 in
set_option maxRecDepth 100000 in
theorem dparse_c1 (l : List UInt8) (hl : l.length ≤ 1000) {w : World} (hM : MaxL w) (h1 : decForm (cut l [46]).1 = true) (h2 : (cut l [46]).2.2 = true) (h3 : (cut l [46]).2.1 = []) :
    Calls Tryz.prog 48 #[.string ⟨l.toArray⟩] w (NewDE w (l.length + 40) [] 22) := by
  have E0 := (Ext.refl w).alloc (.cells #[.slice none 0 0] 35)
  have CC := Lib.hid (cut46_calls l (by omega) (hM.old E0))
  have hlen := cut_len l [46]
  generalize cut l [46] = cc at *
  obtain ⟨a, b, f⟩ := cc
  simp only at *
  have HL := Lib.hid hlen; have HL0 := Lib.hid hl
  have CP := Lib.hid (fun w => parse_form a (by omega) h1 w)
  subst h2 h3
  clear h1 hlen hl E0 hM
  go_enter Tryz.func48, Tryz.ntmps48
  go_wp2_with fail
  refine CC.out.mono ?_
  rintro e w1 ⟨rfl, hext1⟩
  go_wp2_with fail
  refine (CP.out _).mono ?_
  rintro e w2 ⟨o2, n2, c2, rfl, hown2, hext2, hno2⟩
  obtain ⟨k1, k2⟩ := box_at (X := w) rfl (hext1.trans hext2)
  obtain ⟨f1, f2, f3⟩ := box_fin (Ext.refl w) rfl (hext1.trans hext2) (.slice none 0 0)
  go_wp2_with fail
  try simp only [Exit.inBlock, Exit.then]
  refine bodyPost_ret (results_box2 rfl _ _ _ _ rfl (load_dec f2)) rfl ?_
  exact ⟨none, 0, 0, rfl, Own.nil _ _, f1, by omega⟩

set_option maxHeartbeats 4000000 in
set_option maxRecDepth 100000 in
theorem dparse_c2 (l : List UInt8) (hl : l.length ≤ 1000) {w : World} (hM : MaxL w) (h1 : decForm (cut l [46]).1 = true) (h2 : (cut l [46]).2.2 = true) (h4 : 36 < (cut l [46]).2.1.length) :
    Calls Tryz.prog 48 #[.string ⟨l.toArray⟩] w (NewDE w (l.length + 40) [] 22) := by
  have E0 := (Ext.refl w).alloc (.cells #[.slice none 0 0] 35)
  have CC := Lib.hid (cut46_calls l (by omega) (hM.old E0))
  have hlen := cut_len l [46]
  generalize cut l [46] = cc at *
  obtain ⟨a, b, f⟩ := cc
  simp only at *
  have HL := Lib.hid hlen; have HL0 := Lib.hid hl
  have CP := Lib.hid (fun w => parse_form a (by omega) h1 w)
  subst h2
  have hsz := str_size b
  have hemp : (⟨b.toArray⟩ : ByteArray).toList.isEmpty = decide (b = []) := by rw [Lib.toList_data]; cases b <;> simp
  have CT := Lib.hid (fun w => trim10_calls b (by omega) w)
  have hne : b ≠ [] := by rintro rfl; simp at h4
  rw [decide_eq_false hne] at hemp
  generalize (⟨b.toArray⟩ : ByteArray) = s at *
  have hi : (36 : Int) < (b.length : Int) := by omega
  clear h1 hlen hl E0 hM hne h4
  go_enter Tryz.func48, Tryz.ntmps48
  go_wp2_with fail
  refine CC.out.mono ?_
  rintro e w1 ⟨rfl, hext1⟩
  go_wp2_with fail
  refine (CP.out _).mono ?_
  rintro e w2 ⟨o2, n2, c2, rfl, hown2, hext2, hno2⟩
  obtain ⟨k1, k2⟩ := box_at (X := w) rfl (hext1.trans hext2)
  obtain ⟨f1, f2, f3⟩ := box_fin (Ext.refl w) rfl (hext1.trans hext2) (.slice none 0 0)
  go_wp2_with fail
  try simp only [Exit.inBlock, Exit.then]
  refine bodyPost_ret (results_box2 rfl _ _ _ _ rfl (load_dec f2)) rfl ?_
  exact ⟨none, 0, 0, rfl, Own.nil _ _, f1, by omega⟩

set_option maxHeartbeats 4000000 in
set_option maxRecDepth 100000 in
theorem dparse_c3 (l : List UInt8) (hl : l.length ≤ 1000) {w : World} (hM : MaxL w) (h1 : decForm (cut l [46]).1 = true) (h2 : (cut l [46]).2.2 = true) (h3 : (cut l [46]).2.1 ≠ []) (h4 : (cut l [46]).2.1.length ≤ 36) (h5 : (cut l [46]).2.1.getLast? = some 48) :
    Calls Tryz.prog 48 #[.string ⟨l.toArray⟩] w (NewDE w (l.length + 40) [] 22) := by
  have E0 := (Ext.refl w).alloc (.cells #[.slice none 0 0] 35)
  have CC := Lib.hid (cut46_calls l (by omega) (hM.old E0))
  have hlen := cut_len l [46]
  generalize cut l [46] = cc at *
  obtain ⟨a, b, f⟩ := cc
  simp only at *
  have HL := Lib.hid hlen; have HL0 := Lib.hid hl
  have CP := Lib.hid (fun w => parse_form a (by omega) h1 w)
  subst h2
  have hsz := str_size b
  have hemp : (⟨b.toArray⟩ : ByteArray).toList.isEmpty = decide (b = []) := by rw [Lib.toList_data]; cases b <;> simp
  have CT := Lib.hid (fun w => trim10_calls b (by omega) w)
  rw [decide_eq_false h3] at hemp
  obtain ⟨L, hL⟩ : ∃ L, b.length = L + 1 := ⟨b.length - 1, by have := List.length_pos_iff.2 h3; omega⟩
  have hget : ∀ h : L < (⟨b.toArray⟩ : ByteArray).size, (⟨b.toArray⟩ : ByteArray)[L]'h = b.getLast h3 := fun h => by
    rw [List.getLast_eq_getElem]
    simp only [hL, Nat.add_sub_cancel]
    rfl
  rw [List.getLast?_eq_some_getLast h3] at h5
  injection h5 with h5
  rw [h5] at hget
  generalize hs : (⟨b.toArray⟩ : ByteArray) = s at *
  rw [hL] at hsz h4
  have f0 : ¬ ((36 : Int) < (L : Int) + 1) := by omega
  have f1 : IntKind.i64.wrap ((L : Int) + 1 - 1) = (L : Int) := by rw [show (L : Int) + 1 - 1 = (L : Int) by omega]; exact IntWalk.i64_in _ (by omega)
  have f2 : IntKind.i64.wrap (L : Int) = (L : Int) := IntWalk.i64_in _ (by omega)
  have f4 : decide ((36 : Int) < (L : Int) + 1) = false := by rw [decide_eq_false_iff_not]; omega
  clear h1 hlen hl E0 hM h3 h5 hL hs
  go_enter Tryz.func48, Tryz.ntmps48
  go_wp2_with fail
  refine CC.out.mono ?_
  rintro e w1 ⟨rfl, hext1⟩
  go_wp2_with fail
  refine (CP.out _).mono ?_
  rintro e w2 ⟨o2, n2, c2, rfl, hown2, hext2, hno2⟩
  obtain ⟨k1, k2⟩ := box_at (X := w) rfl (hext1.trans hext2)
  obtain ⟨f1, f2, f3⟩ := box_fin (Ext.refl w) rfl (hext1.trans hext2) (.slice none 0 0)
  go_wp2_with fail
  try simp only [Exit.inBlock, Exit.then]
  refine bodyPost_ret (results_box2 rfl _ _ _ _ rfl (load_dec f2)) rfl ?_
  exact ⟨none, 0, 0, rfl, Own.nil _ _, f1, by omega⟩

set_option maxHeartbeats 4000000 in
set_option maxRecDepth 100000 in
theorem dparse_c4 (l : List UInt8) (hl : l.length ≤ 1000) {w : World} (hM : MaxL w) (h1 : decForm (cut l [46]).1 = true) (h2 : (cut l [46]).2.2 = true) (h3 : (cut l [46]).2.1 ≠ []) (h4 : (cut l [46]).2.1.length ≤ 36) (h5 : (cut l [46]).2.1.getLast? ≠ some 48) (h6 : (cut l [46]).2.1.all isDig = false) :
    Calls Tryz.prog 48 #[.string ⟨l.toArray⟩] w (NewDE w (l.length + 40) [] 22) := by
  have E0 := (Ext.refl w).alloc (.cells #[.slice none 0 0] 35)
  have CC := Lib.hid (cut46_calls l (by omega) (hM.old E0))
  have hlen := cut_len l [46]
  generalize cut l [46] = cc at *
  obtain ⟨a, b, f⟩ := cc
  simp only at *
  have HL := Lib.hid hlen; have HL0 := Lib.hid hl
  have CP := Lib.hid (fun w => parse_form a (by omega) h1 w)
  subst h2
  have hsz := str_size b
  have hemp : (⟨b.toArray⟩ : ByteArray).toList.isEmpty = decide (b = []) := by rw [Lib.toList_data]; cases b <;> simp
  have CT := Lib.hid (fun w => trim10_calls b (by omega) w)
  rw [decide_eq_false h3] at hemp
  obtain ⟨L, hL⟩ : ∃ L, b.length = L + 1 := ⟨b.length - 1, by have := List.length_pos_iff.2 h3; omega⟩
  have hget : ∀ h : L < (⟨b.toArray⟩ : ByteArray).size, (⟨b.toArray⟩ : ByteArray)[L]'h = b.getLast h3 := fun h => by
    rw [List.getLast_eq_getElem]
    simp only [hL, Nat.add_sub_cancel]
    rfl
  rw [List.getLast?_eq_some_getLast h3] at h5
  have h5' : ¬ ((b.getLast h3).toNat : Int) = 48 := fun e => h5 (by rw [UInt8.toNat_inj.1 (show (b.getLast h3).toNat = (48 : UInt8).toNat by have : (48 : UInt8).toNat = 48 := rfl; omega)])
  obtain ⟨s2, hs2⟩ : ∃ s : ByteArray, (⟨(trimS b digsSet).toArray⟩ : ByteArray) = s := ⟨_, rfl⟩
  have HS2 : s2.toList.isEmpty = false := by
    rw [← hs2, Lib.toList_data, Bool.eq_false_iff, ne_eq, List.isEmpty_iff, trimS_nil, h6]; decide
  rw [hs2] at CT
  generalize b.getLast h3 = y at *
  have hy8 : y.toNat < 256 := y.toNat_lt
  generalize hs : (⟨b.toArray⟩ : ByteArray) = s at *
  rw [hL] at hsz h4
  have f0 : ¬ ((36 : Int) < (L : Int) + 1) := by omega
  have f1 : IntKind.i64.wrap ((L : Int) + 1 - 1) = (L : Int) := by rw [show (L : Int) + 1 - 1 = (L : Int) by omega]; exact IntWalk.i64_in _ (by omega)
  have f2 : IntKind.i64.wrap (L : Int) = (L : Int) := IntWalk.i64_in _ (by omega)
  have f4 : decide ((36 : Int) < (L : Int) + 1) = false := by rw [decide_eq_false_iff_not]; omega
  have f5 : ((y.toNat : Int) == 48) = false := by rw [beq_eq_false_iff_ne]; exact h5'
  clear h1 hlen hl E0 hM h3 h5 h6 hL hs hs2
  go_enter Tryz.func48, Tryz.ntmps48
  go_wp2_with fail
  refine CC.out.mono ?_
  rintro e w1 ⟨rfl, hext1⟩
  go_wp2_with fail
  refine (CP.out _).mono ?_
  rintro e w2 ⟨o2, n2, c2, rfl, hown2, hext2, hno2⟩
  have HX := Lib.hid (hext1.trans hext2)
  clear hext1 hext2
  go_wp2_with fail
  refine (CT.out _).mono ?_
  rintro e w3 ⟨rfl, hext3⟩
  obtain ⟨k1, k2⟩ := box_at (X := w) rfl (HX.out.trans hext3)
  obtain ⟨f1, f2, f3⟩ := box_fin (Ext.refl w) rfl (HX.out.trans hext3) (.slice none 0 0)
  go_wp2_with fail
  try simp only [Exit.inBlock, Exit.then]
  refine bodyPost_ret (results_box2 rfl _ _ _ _ rfl (load_dec f2)) rfl ?_
  exact ⟨none, 0, 0, rfl, Own.nil _ _, f1, by omega⟩

set_option maxHeartbeats 4000000 in
set_option maxRecDepth 100000 in
theorem dparse_d (l : List UInt8) (hl : l.length ≤ 1000) {w : World} (hM : MaxL w) (h1 : decForm (cut l [46]).1 = true) (h2 : (cut l [46]).2.2 = true) (h3 : (cut l [46]).2.1 ≠ []) (h4 : (cut l [46]).2.1.length ≤ 36) (h5 : (cut l [46]).2.1.getLast? ≠ some 48) (h6 : (cut l [46]).2.1.all isDig = true) :
    Calls Tryz.prog 48 #[.string ⟨l.toArray⟩] w (NewDE w (l.length + 40) (lim (dnum (cut l [46]).1 * U36 + dnum (cut l [46]).2.1 * 10 ^ (36 - (cut l [46]).2.1.length))) 0) := by
  have E0 := (Ext.refl w).alloc (.cells #[.slice none 0 0] 35)
  have CC := Lib.hid (cut46_calls l (by omega) (hM.old E0))
  have hlen := cut_len l [46]
  generalize cut l [46] = cc at *
  obtain ⟨a, b, f⟩ := cc
  simp only at *
  have HL := Lib.hid hlen; have HL0 := Lib.hid hl
  have CP := Lib.hid (fun w => parse_form a (by omega) h1 w)
  subst h2
  have hsz := str_size b
  have hemp : (⟨b.toArray⟩ : ByteArray).toList.isEmpty = decide (b = []) := by rw [Lib.toList_data]; cases b <;> simp
  have CT := Lib.hid (fun w => trim10_calls b (by omega) w)
  rw [decide_eq_false h3] at hemp
  obtain ⟨L, hL⟩ : ∃ L, b.length = L + 1 := ⟨b.length - 1, by have := List.length_pos_iff.2 h3; omega⟩
  have hget : ∀ h : L < (⟨b.toArray⟩ : ByteArray).size, (⟨b.toArray⟩ : ByteArray)[L]'h = b.getLast h3 := fun h => by
    rw [List.getLast_eq_getElem]
    simp only [hL, Nat.add_sub_cancel]
    rfl
  have ht : decTail b = true := decTail_iff.2 ⟨h3, h4, h5, h6⟩
  rw [List.getLast?_eq_some_getLast h3] at h5
  have h5' : ¬ ((b.getLast h3).toNat : Int) = 48 := fun e => h5 (by rw [UInt8.toNat_inj.1 (show (b.getLast h3).toNat = (48 : UInt8).toNat by have : (48 : UInt8).toNat = 48 := rfl; omega)])
  obtain ⟨s2, hs2⟩ : ∃ s : ByteArray, (⟨(trimS b digsSet).toArray⟩ : ByteArray) = s := ⟨_, rfl⟩
  have HS2 : s2.toList.isEmpty = true := by
    rw [← hs2, Lib.toList_data, List.isEmpty_iff, trimS_nil]; exact h6
  rw [hs2] at CT
  have CL := Lib.hid (fun w => trimL_calls b w)
  have CR := Lib.hid (fun w => repeat48_calls (36 - b.length) (by omega) w)
  have hpad := decPad_len b h4
  have CQ := Lib.hid (fun w => parse_form (decPad b) (by omega) (decPad_form ht) w)
  rw [dnum_decPad] at CQ
  have hcat : (⟨(trimLeftB b 48).toArray⟩ : ByteArray) ++ ⟨(List.replicate (36 - b.length) (48 : UInt8)).toArray⟩ = ⟨(decPad b).toArray⟩ := bytes_add _ _
  have hk : 36 - b.length = 35 - L := by omega
  rw [hk] at CR hcat CQ ⊢
  generalize hv : dnum b * 10 ^ (35 - L) = v at *
  obtain ⟨s4, hs4⟩ : ∃ s : ByteArray, (⟨(trimLeftB b 48).toArray⟩ : ByteArray) = s := ⟨_, rfl⟩
  obtain ⟨s5, hs5⟩ : ∃ s : ByteArray, (⟨(List.replicate (35 - L) (48 : UInt8)).toArray⟩ : ByteArray) = s := ⟨_, rfl⟩
  obtain ⟨s6, hs6⟩ : ∃ s : ByteArray, (⟨(decPad b).toArray⟩ : ByteArray) = s := ⟨_, rfl⟩
  have hq6 : s6.size ≤ 36 := by rw [← hs6, str_size]; exact hpad
  rw [hs4] at CL hcat; rw [hs5] at CR hcat; rw [hs6] at CQ hcat
  obtain ⟨M, hM'⟩ : ∃ M, (decPad b).length = M := ⟨_, rfl⟩
  rw [hM'] at CQ hpad
  have hkk : ((35 - L : Nat) : Int) = 36 - ((L : Int) + 1) := by omega
  rw [hkk] at CR
  have f3 : IntKind.i64.wrap (36 - ((L : Int) + 1)) = 36 - ((L : Int) + 1) := IntWalk.i64_in _ (by omega)
  have hadd : (s4 ++ s5).size ≤ 9223372036854775000 := by rw [hcat]; omega
  have hadd2 : s4.size + s5.size ≤ 9223372036854775000 := by rw [← ByteArray.size_append]; exact hadd
  have HCAT := Lib.hid hcat
  clear hcat
  generalize b.getLast h3 = y at *
  have hy8 : y.toNat < 256 := y.toNat_lt
  generalize hs : (⟨b.toArray⟩ : ByteArray) = s at *
  rw [hL] at hsz h4
  have f0 : ¬ ((36 : Int) < (L : Int) + 1) := by omega
  have f1 : IntKind.i64.wrap ((L : Int) + 1 - 1) = (L : Int) := by rw [show (L : Int) + 1 - 1 = (L : Int) by omega]; exact IntWalk.i64_in _ (by omega)
  have f2 : IntKind.i64.wrap (L : Int) = (L : Int) := IntWalk.i64_in _ (by omega)
  have f4 : decide ((36 : Int) < (L : Int) + 1) = false := by rw [decide_eq_false_iff_not]; omega
  have f5 : ((y.toNat : Int) == 48) = false := by rw [beq_eq_false_iff_ne]; exact h5'
  clear h1 hlen hl E0 hM h3 h5 h6 hL hs hs2 ht hv hs4 hs5 hs6 hM' hk
  go_enter Tryz.func48, Tryz.ntmps48
  go_wp2_with fail
  refine CC.out.mono ?_
  rintro e w1 ⟨rfl, hext1⟩
  go_wp2_with fail
  refine (CP.out _).mono ?_
  rintro e w2 ⟨o2, n2, c2, rfl, hown2, hext2, hno2⟩
  have HX := Lib.hid (hext1.trans hext2); have HO := Lib.hid hown2
  clear hext1 hext2 hown2
  go_wp2_with fail
  refine (CT.out _).mono ?_
  rintro e w3 ⟨rfl, hext3⟩
  have HX3 := Lib.hid (HX.out.trans hext3); have HO3 := Lib.hid (HO.out.old hext3)
  clear hext3
  go_wp2_with fail
  refine (CL.out _).mono ?_
  rintro e w4 ⟨rfl, rfl⟩
  go_wp2_with fail
  refine (CR.out _).mono ?_
  rintro e w5 ⟨rfl, hext5⟩
  have HX5 := Lib.hid (HX3.out.trans hext5); have HO5 := Lib.hid (HO3.out.old hext5)
  clear hext5
  go_wp2_with (rw [HCAT.out])
  refine (CQ.out _).mono ?_
  rintro e w6 ⟨o6, n6, c6, rfl, hown6, hext6, hno6⟩
  have CD := dofnat_calls (HO5.out.sl.old hext6) (by have := HL.out.1; have := HL0.out; omega)
  rw [val_lim] at CD
  have HCD := Lib.hid CD; have HX6 := Lib.hid (HX5.out.trans hext6); have HS6 := Lib.hid hown6.sl
  clear CD hown6 hext6
  go_wp2_with fail
  refine HCD.out.mono ?_
  rintro e w7 ⟨o7, n7, c7, rfl, hown7, hext7, hno7⟩
  have CA := dadd_calls hown7.sl (HS6.out.old hext7) (by have := HL.out.1; have := HL0.out; omega) (by omega)
  rw [val_lim, val_lim] at CA
  have HCA := Lib.hid CA; have HX7 := Lib.hid (HX6.out.trans hext7)
  clear CA hown7 hext7
  go_wp2_with fail
  refine HCA.out.mono ?_
  rintro e w8 ⟨o8, n8, c8, rfl, hown8, hext8, hno8⟩
  obtain ⟨k1, k2⟩ := box_at (X := w) rfl (HX7.out.trans hext8)
  obtain ⟨f1, f2, f3⟩ := box_fin (Ext.refl w) rfl (HX7.out.trans hext8) (.slice o8 n8 c8)
  have hs := HX7.out.size
  have z1 := HL.out.1
  go_wp2_with fail
  try simp only [Exit.inBlock, Exit.then]
  refine bodyPost_ret (results_box2 rfl _ _ _ _ rfl (load_dec f2)) rfl ?_
  exact ⟨o8, n8, c8, rfl, f3 (hown8.mono hs), f1, by omega⟩

/-- What Parse hands back. -/
def drL (l : List UInt8) : List Nat := match decRead l with
  | none => []
  | some v => lim v
def drE (l : List UInt8) : Int := match decRead l with
  | none => 22
  | some _ => 0
theorem dparse_calls (l : List UInt8) (hl : l.length ≤ 1000) {w : World} (hM : MaxL w) :
    Calls Tryz.prog 48 #[.string ⟨l.toArray⟩] w (NewDE w (l.length + 40) (drL l) (drE l)) := by
  unfold drL drE decRead
  by_cases h1 : decForm (cut l [46]).1 = false
  · rw [if_pos h1]; exact dparse_a l hl hM h1
  · rw [if_neg h1]
    have h1' : decForm (cut l [46]).1 = true := by simpa using h1
    by_cases h2 : (cut l [46]).2.2 = false
    · rw [if_pos h2]; exact dparse_b l hl hM h1' h2
    · rw [if_neg h2]
      have h2' : (cut l [46]).2.2 = true := by simpa using h2
      by_cases h3 : (cut l [46]).2.1 = []
      · rw [if_pos (by rw [h3]; rfl)]; exact dparse_c1 l hl hM h1' h2' h3
      · by_cases h4 : (cut l [46]).2.1.length ≤ 36
        · by_cases h5 : (cut l [46]).2.1.getLast? = some 48
          · rw [if_pos (by rw [Bool.eq_false_iff, ne_eq, decTail_iff]; exact fun h => h.2.2.1 h5)]; exact dparse_c3 l hl hM h1' h2' h3 h4 h5
          · by_cases h6 : (cut l [46]).2.1.all isDig = true
            · rw [if_neg (by rw [decTail_iff.2 ⟨h3, h4, h5, h6⟩]; decide)]; exact dparse_d l hl hM h1' h2' h3 h4 h5 h6
            · rw [if_pos (by rw [Bool.eq_false_iff, ne_eq, decTail_iff]; exact fun h => h6 h.2.2.2)]; exact dparse_c4 l hl hM h1' h2' h3 h4 h5 (by simpa using h6)
        · rw [if_pos (by rw [Bool.eq_false_iff, ne_eq, decTail_iff]; exact fun h => h4 h.2.1)]; exact dparse_c2 l hl hM h1' h2' (by omega)

end Go.Proofs.YtimcnhlcepemjaaGreatDoor

/- dec.Sub. -/
namespace Go.Proofs.YtimcnhlcepemjaaGreatDoor
open Go.RowKit

end Go.Proofs.YtimcnhlcepemjaaGreatDoor

/- dec.MulDivUp. -/
namespace Go.Proofs.YtimcnhlcepemjaaGreatDoor
open Go.RowKit

end Go.Proofs.YtimcnhlcepemjaaGreatDoor

/- What gleanlaw2.known asks: the numbers. -/
namespace Go.Proofs.YtimcnhlcepemjaaGreatDoor
open Go.RowKit Go.Lib

end Go.Proofs.YtimcnhlcepemjaaGreatDoor

/- Decimals: plain numbers. -/
namespace Go.Proofs.YtimcnhlcepemjaaGreatDoor

end Go.Proofs.YtimcnhlcepemjaaGreatDoor

/- dec.Times, Basis, Mul, Quo, Over. -/
namespace Go.Proofs.YtimcnhlcepemjaaGreatDoor
open Go.RowKit

theorem rowE {w w' : World} {B : Nat} {o : Obj} (h : Ext w w') (r : w.heap[B]? = some o) : w'.heap[B]? = some o := by
  rw [h.block B (Array.getElem?_eq_some_iff.1 r).1]; exact r
end Go.Proofs.YtimcnhlcepemjaaGreatDoor

/- dec's calls with their numbers named. -/
namespace Go.Proofs.YtimcnhlcepemjaaGreatDoor
open Go.RowKit Go.Lib

theorem drow_cell {w : World} {B n c : Nat} {o : Option Addr} {T : TypeId} (h : w.heap[B]? = some (.cells #[.slice o n c] T (0, 0))) : w.cell? ⟨B, 0, none⟩ = some (.slice o n c) := by
  rw [cell_of_row _ _ _ _ _ _ h]; rfl
theorem NewDE.wide {w : World} {L L' : Nat} {xs : List Nat} {er : Int} {e : Ending} {w' : World} (h : NewDE w L xs er e w') (h1 : L ≤ L') : NewDE w L' xs er e w' := by
  obtain ⟨a, n, c, r, x, y, p⟩ := h
  exact ⟨a, n, c, r, x, y, by omega⟩
theorem dof_at (n X : Nat) (hn : n < B64) (hX : n * U36 = X) (w : World) : Calls Tryz.prog 36 #[.int .u64 (n : Int)] w (NewD w 3 (lim X)) := by subst hX; exact dof_calls n hn w
theorem dparse_at (l : List UInt8) (V : Nat) (hl : l.length ≤ 60) (h : decRead l = some V) {w : World} (hM : MaxL w) : Calls Tryz.prog 48 #[.string ⟨l.toArray⟩] w (NewDE w 100 (lim V) 0) := by
  have := dparse_calls l (by omega) hM
  unfold drL drE at this
  rw [h] at this
  exact this.mono fun e w' h => NewDE.wide h (by omega)
end Go.Proofs.YtimcnhlcepemjaaGreatDoor
