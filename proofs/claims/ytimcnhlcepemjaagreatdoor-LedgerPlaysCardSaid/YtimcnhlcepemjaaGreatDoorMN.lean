
/- Arguments: fractions, slices of decimals. -/
import Derived.Test.YtimcnhlcepemjaaGreatDoorMI
import Derived.Test.YtimcnhlcepemjaaGreatDoorMC
import Derived.Test.YtimcnhlcepemjaaGreatDoorMD
import Derived.Test.YtimcnhlcepemjaaGreatDoorCards
import Derived.Test.YtimcnhlcepemjaaGreatDoorTie
import Derived.ProofKit
import Derived.OpenShut
import Derived.Carry
import Derived.Deep.DeepHandedRow
import Derived.Lib.LaidTab
import Derived.Test.YtimcnhlcepemjaaGreatDoorRat0
import Derived.Deep.SlicePairs
import Derived.Test.YtimcnhlcepemjaaGreatDoorHeld
import Derived.Deep.Slices

/- From the walks to the rows: how the arguments are read, the library's tables, the witness's world. -/
namespace Go.Proofs.YtimcnhlcepemjaaGreatDoor
open Go.ChangeShapes Go.WideShapes Go.ChangeAt Go.RowKit

theorem own_knob : ownKnob Tryz.prog.godebug = none := by kernel_rfl
theorem laid_out : laidOutB Tryz.prog = true := by kernel_rfl

/-- Whatever the reading: a slice of limbs. -/
theorem sl_of_trod {H : Type} {enc : TypeId × Value → H} {W : World} {fuel : Nat} {a : Option Addr} {n c : Nat} {y : DataW H × List MemPlace} (hsp : ∀ ad, a = some ad → ad.spot = none)
    (h : DataW.trod enc Tryz.prog W 0 (fun _ => true) true fuel 33 [.slice a n c] = some y) : ∃ xs, Sl W a n c xs := by
  rcases open_ints Tryz.underlying33 Tryz.underlying31 (by kernel_rfl) h with ⟨hcs, -⟩ | ⟨ad, len, cap, zs, hcs, -, hl, hm, hz, -, hcell, hw⟩
  · simp only [List.cons.injEq, Value.slice.injEq, and_true] at hcs
    obtain ⟨rfl, rfl, rfl⟩ := hcs
    exact ⟨[], Sl.nil W⟩
  · simp only [List.cons.injEq, Value.slice.injEq, and_true] at hcs
    obtain ⟨rfl, rfl, rfl⟩ := hcs
    simp only [if_true] at hz
    have hspot := hsp ad rfl
    have hbnd : ∀ i, i < zs.length → 0 ≤ zs.getD i 0 ∧ zs.getD i 0 < 18446744073709551616 := by
      intro i hi
      have hmem : zs.getD i 0 ∈ zs := by
        rw [List.getD_eq_getElem?_getD, List.getElem?_eq_getElem hi]; exact List.getElem_mem hi
      have := hw _ hmem
      simp only [Lit.wf, Bool.and_eq_true, decide_eq_true_eq] at this
      have e1 : IntKind.u64.min = 0 := by decide
      have e2 : IntKind.u64.max = 18446744073709551615 := by decide
      rw [e1, e2] at this
      exact ⟨this.1, by omega⟩
    refine ⟨(zs.take n).map Int.toNat, ⟨?_, hl, ?_, ?_, .inr ⟨ad.block, ad.off, ?_, ?_⟩⟩⟩
    · rw [List.length_map, List.length_take]; omega
    · unfold maxLen at hm; omega
    · intro x hx
      obtain ⟨z, hz', rfl⟩ := List.mem_map.1 hx
      obtain ⟨i, hi, rfl⟩ := List.getElem_of_mem (List.mem_of_mem_take hz')
      have := hbnd i hi
      rw [List.getD_eq_getElem?_getD, List.getElem?_eq_getElem hi] at this
      simp only [Option.getD_some] at this
      rw [B64_eq]; omega
    · obtain ⟨b, o, s⟩ := ad
      simp only at hspot
      rw [hspot]
    · intro i hi
      have h1 := hcell i (by omega)
      have hadd : ad.add i = ⟨ad.block, ad.off + i, none⟩ := by
        obtain ⟨b, o, s⟩ := ad
        simp only at hspot
        subst hspot
        unfold Addr.add
        split
        · rename_i h0; subst h0; rfl
        · rfl
      rw [hadd] at h1
      rw [h1]
      have hb := hbnd i (by omega)
      have e1 : ((zs.take n).map Int.toNat).getD i 0 = (zs.getD i 0).toNat := by
        rw [List.getD_eq_getElem?_getD, List.getD_eq_getElem?_getD, List.getElem?_map, List.getElem?_take, if_pos hi, List.getElem?_eq_getElem (by omega)]
        rfl
      rw [e1, Int.toNat_of_nonneg hb.1]

/-- The arguments read behind the call as before. -/
theorem trodAll_carry {H : Type} {enc : TypeId × Value → H} {W W' : World} (hE : Ext W W') : ∀ (ts : List TypeId) (vs : List Value) (ds : List (DataW H)) (p : List MemPlace),
    (∀ t ∈ ts, Tryz.prog.readableRec t = true ∧ t < Tryz.prog.types.size) → DataW.TrodAll enc Tryz.prog W 0 (fun _ => true) true ts vs ds p → (∀ x ∈ p, x.block < W.heap.size) →
    DataW.TrodAll enc Tryz.prog W' 0 (fun b => decide (b < W.heap.size)) true ts vs ds p
  | [], vs, ds, p, _, h, _ => by
    obtain ⟨rfl, rfl, rfl⟩ := trodAll_nil h
    exact rfl
  | t :: ts, vs, ds, p, ht, h, hp => by
    obtain ⟨v, vs', d, ds', p1, q, rfl, rfl, rfl, h1, h2⟩ := trodAll_cons h
    have ht1 := ht t (by simp)
    exact ⟨p1, q, Below.trod laid_out ht1.1 ht1.2 h1 hE (fun x hx => hp x (by simp [hx])), trodAll_carry hE ts vs' ds' q (fun t' h' => ht t' (by simp [h'])) h2 (fun x hx => hp x (by simp [hx])), rfl⟩

/-- A law that answered true and turned nothing meets its row. -/
theorem post_law {H : Type} {enc : TypeId × Value → H} {f : Func} {s : ChangeSpec} {fresh handsOn : Bool} {W W' : World} {args : Array Value} {ds gs : List (DataW H)} {before : List MemPlace}
    (hr : f.resultTypes = #[4]) (hts : ∀ t ∈ f.params.toList, Tryz.prog.readableRec t = true ∧ t < Tryz.prog.types.size) (hvars : s.vars = [])
    (hW : DataW.Whole enc Tryz.prog f.params.toList s.vars false W args.toList ds gs before) (hfn : (s.fn H (ds ++ gs)).results = [.lit (.bool true)] ∧ (s.fn H (ds ++ gs)).args = ds ∧ (s.fn H (ds ++ gs)).vars = []) (hE : Ext W W') :
    s.post enc Tryz.prog f false fresh handsOn false W args (.bool true) W' := by
  have hW0 := hW
  obtain ⟨p, q, hA, hV, rfl, hfz, hnd⟩ := hW
  refine ⟨ds, gs, p ++ q, [], p, [], hW0, ?_, ?_, ?_, Below.frame hE _, fun h => by cases h⟩
  · rw [hfn.1, hr]
    exact trodAll_cons_mk (shut_bool Tryz.underlying4 _) trodAll_mk0
  · rw [hfn.2.1]
    exact trodAll_carry hE _ _ _ _ hts hA (fun x hx => by simpa using hW0.lt x (by simp [hx]))
  · rw [hfn.2.2, hvars]
    exact rfl

/-! ### The witness's world: the settled one, the listed tables as their text lays them. -/
def u8s (l : List Nat) : Array Value := (l.map fun n : Nat => Value.int .u8 (n : Int)).toArray
def fillRow (c : Array Value) : Obj → Obj
  | .cells _ t fr => .cells c t fr
  | o => o
def tab32 : List Nat := [0, 1, 28, 2, 29, 14, 24, 3, 30, 22, 20, 15, 25, 17, 4, 8, 31, 27, 13, 23, 21, 19, 16, 7, 26, 12, 18, 6, 11, 5, 10, 9]
def tab64 : List Nat := [0, 1, 56, 2, 57, 49, 28, 3, 61, 58, 42, 50, 38, 29, 17, 4, 62, 47, 59, 36, 45, 43, 51, 22, 53, 39, 33, 30, 24, 18, 12, 5, 63, 55, 48, 27, 60, 41, 37, 16, 46, 35, 44, 21, 52, 32, 23, 11, 54, 26, 40, 15, 34, 20, 31, 10, 25, 14, 19, 9, 13, 8, 7, 6]
def tabAcc : List Nat := [128, 191, 160, 191, 128, 159, 144, 191, 128, 143, 0, 0, 0, 0, 0, 0, 0, 0, 0, 0, 0, 0, 0, 0, 0, 0, 0, 0, 0, 0, 0, 0]
abbrev rangeS : ByteArray := { data := #[118, 97, 108, 117, 101, 32, 111, 117, 116, 32, 111, 102, 32, 114, 97, 110, 103, 101] }
abbrev syntaxS : ByteArray := { data := #[105, 110, 118, 97, 108, 105, 100, 32, 115, 121, 110, 116, 97, 120] }
noncomputable def low : Nat := (World.holding Tryz.prog default ⟨#[], #[], []⟩).heap.size
noncomputable def laidWorld (os : Os) : World :=
  { World.holding Tryz.prog os ⟨#[.cells #[.string rangeS] 220, .cells #[.string syntaxS] 220], #[], []⟩ with heap := (((((((World.holding Tryz.prog os ⟨#[.cells #[.string rangeS] 220, .cells #[.string syntaxS] 220], #[], []⟩).heap.modify 5 (fillRow #[.iface 218 (.pointer (some ⟨low, 0, none⟩))])).modify 4 (fillRow #[.iface 218 (.pointer (some ⟨low + 1, 0, none⟩))])).modify 8 (fillRow (Lib.pow10Tab.map fun z => Value.int .u64 z).toArray)).modify 6 (fillRow (u8s Go.Pinned.utf8FirstZ))).modify 7 (fillRow (u8s tabAcc))).modify 9 (fillRow (u8s tab32))).modify 0 (fillRow (u8s tab64)) }

theorem spot_of_cell {W : World} {ad : Addr} {u : Value} (h : W.cell? ad = some u) : ad.spot = none := by
  unfold World.cell? at h
  split at h
  · split at h
    · cases h
    · rename_i hs; simpa using hs
  · cases h

/-- Whatever the reading, and wherever a slice without room points: a slice of limbs. -/
theorem sl_of_trod0 {H : Type} {enc : TypeId × Value → H} {W : World} {fuel : Nat} {a : Option Addr} {n c : Nat} {y : DataW H × List MemPlace}
    (h : DataW.trod enc Tryz.prog W 0 (fun _ => true) true fuel 33 [.slice a n c] = some y) : ∃ xs, Sl W a n c xs := by
  rcases open_ints Tryz.underlying33 Tryz.underlying31 (by kernel_rfl) h with ⟨hcs, -⟩ | ⟨ad, len, cap, zs, hcs, -, hl, hm, hz, -, hcell, -⟩
  · simp only [List.cons.injEq, Value.slice.injEq, and_true] at hcs
    obtain ⟨rfl, rfl, rfl⟩ := hcs
    exact ⟨[], Sl.nil W⟩
  · simp only [List.cons.injEq, Value.slice.injEq, and_true] at hcs
    obtain ⟨rfl, rfl, rfl⟩ := hcs
    simp only [if_true] at hz
    rcases Nat.eq_zero_or_pos c with h0 | h0
    · subst h0
      obtain rfl : n = 0 := by omega
      exact ⟨[], ⟨rfl, Nat.le_refl _, by decide, Bd.nil _, .inl ⟨rfl, rfl⟩⟩⟩
    · refine sl_of_trod (fun ad' e => ?_) h
      obtain rfl : ad = ad' := Option.some.inj e
      exact spot_of_cell (hcell 0 (by omega))
/-- A cell that is read as limbs. -/
theorem cell_sl {H : Type} {enc : TypeId × Value → H} {W : World} {fuel : Nat} {v : Value} {y : DataW H × List MemPlace}
    (h : DataW.trod enc Tryz.prog W 0 (fun _ => true) true fuel 33 [v] = some y) : ∃ a n c xs, v = .slice a n c ∧ Sl W a n c xs := by
  obtain ⟨b, k, q, rfl⟩ : ∃ b k q, v = .slice b k q := by
    rcases open_ints Tryz.underlying33 Tryz.underlying31 (by kernel_rfl) h with ⟨hcs, -⟩ | ⟨ad', len', cap', zs, hcs, -⟩
    · exact ⟨_, _, _, (List.cons.inj hcs).1⟩
    · exact ⟨_, _, _, (List.cons.inj hcs).1⟩
  obtain ⟨xs, hxs⟩ := sl_of_trod0 h
  exact ⟨b, k, q, xs, rfl, hxs⟩

/-- The table that math/bits reads. -/
theorem gTzType : (Tryz.prog.globals[0]?).map (·.type) = some 180 := by kernel_rfl
theorem tz_of_laid {W : World} {laid : List (String × DataW Unit)} (h : laidMetH Tryz.prog laid W)
    (e : laid.filter (fun x => x.1 == "math/bits.deBruijn64tab") = [("math/bits.deBruijn64tab", Lib.tabData .u8 (Lib.deBruijn64tab.map fun x : Nat => (x : Int)))]) : TzTab W := by
  have h1 := laidMetH.filter (fun x => x.1 == "math/bits.deBruijn64tab") h
  rw [e] at h1
  exact Lib.tabIs_of_head (rest := []) gTz gTzType Tryz.underlying180 Tryz.underlying5 (by kernel_rfl) (by kernel_rfl) h1
/-- The library's variable that strings.Cut reads holds some int: the world's shape says so. -/
theorem maxL_of_shape {W : World} (h : W.ShapedOpen Tryz.prog) : MaxL W := Tryz.laysM145.s1_3 W h

end Go.Proofs.YtimcnhlcepemjaaGreatDoor

/- An argument that is a fraction. -/
namespace Go.Proofs.YtimcnhlcepemjaaGreatDoor
open Go.ChangeShapes Go.WideShapes Go.ChangeAt Go.RowKit Go.Deep

end Go.Proofs.YtimcnhlcepemjaaGreatDoor

/- An argument that is a slice of decimals. -/
namespace Go.Proofs.YtimcnhlcepemjaaGreatDoor
open Go.ChangeShapes Go.WideShapes Go.ChangeAt Go.RowKit Go.Deep

end Go.Proofs.YtimcnhlcepemjaaGreatDoor
