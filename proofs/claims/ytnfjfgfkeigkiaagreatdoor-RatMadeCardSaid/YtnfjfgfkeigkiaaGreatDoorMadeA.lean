import Derived.Test.YtnfjfgfkeigkiaaGreatDoorRefT
import Derived.Test.YtnfjfgfkeigkiaaGreatDoorHRat
/- gleanhelp.Spoil, Copy, Dec; gleanref3.Of, OfDec, Floor, Down; gleanlaw3.RatMade: the walk. -/
namespace Go.Proofs.YtnfjfgfkeigkiaaGreatDoor
open Go.RowKit

def SpoilRel (B : Nat) (w : World) (a : Option Addr) (n c : Nat) (iv : Value) (wr : World) : Prop :=
  ∃ (k : Nat) (os : List Nat), k ≤ n ∧ iv = .int .i64 (k : Int) ∧ Own B wr a n c os ∧ w.grownBy wr (blk a)
def Spoiled (B : Nat) (w : World) (a : Option Addr) (n c : Nat) (e : Ending) (w' : World) : Prop :=
  ∃ os, e = .returned (.tuple #[]) ∧ Own B w' a n c os ∧ w.grownBy w' (blk a)

set_option maxHeartbeats 2000000 in
set_option maxRecDepth 100000 in
theorem spoil_calls {B : Nat} {a : Option Addr} {n c : Nat} {xs : List Nat} {w : World} (ha : Own B w a n c xs) (hn : n ≤ 1000000000) :
    Calls Tryz.prog 44 #[.slice a n c] w (Spoiled B w a n c) := by
  obtain ⟨i0, hi, hz0, hs, hby⟩ := info_parts info64
  have H1 := Lib.hid hi; have H3 := Lib.hid hs
  clear hi hz0 hs hby
  have HA := Lib.hid ha
  clear ha
  go_enter Tryz.func44, Tryz.ntmps44
  go_wp2_with fail
  go_loopw [2] (fun iv wr => SpoilRel B w a n c iv wr) (fun iv _ => n - (intOf iv).toNat)
  case atStart => exact ⟨0, xs, by omega, rfl, HA.out, grownBy_refl _ _⟩
  case round =>
    obtain ⟨k, os, hk, rfl, hown, hg⟩ := hrel
    have HOWN := Lib.hid hown; have HG := Lib.hid hg
    clear hown hg
    by_cases hkn : k = n
    · subst hkn
      go_wp2_with fail
      go_end0
      exact ⟨os, rfl, HOWN.out, HG.out⟩
    · have hlt : (k : Int) < (n : Int) := by omega
      obtain ⟨bo, oo, hixo, hco, hao⟩ := HOWN.out.sl.ix (P := Tryz.prog) Tryz.underlying23 H1.out H3.out
      have x3 := hixo k (by omega)
      have x4 := hco k (by omega)
      have x5 := HOWN.out.free (hao (by omega)) (oo + k)
      have HAO := Lib.hid (hao (by omega))
      have hu := HOWN.out.sl.bd.getD B64_pos k
      clear hixo hco hao
      generalize os.getD k 0 = u at *
      rw [B64_eq] at hu
      obtain ⟨v, hv⟩ : ∃ v, u ^^^ 6510615555426900570 = v := ⟨_, rfl⟩
      have hvB : v < B64 := by rw [← hv]; exact Nat.xor_lt_two_pow (n := 64) hu (by decide)
      have hx : bits BinOp.xor IntKind.u64 (u : Int) 6510615555426900570 = (v : Int) := by
        have := bits_xor_u64_nat u 6510615555426900570 hu (by decide)
        rw [hv] at this
        exact this
      have HST := Lib.hid (HOWN.out.store HAO.out k v (by omega) hvB)
      clear hv
      go_wp2_with fail
      try go_region
      try go_wp2_with fail
      go_roundw
      case rel => exact ⟨k + 1, os.set k v, by omega, by go_num, by first | exact HST.out.1 | exact HST.out.1.old (Ext.refl _).drew, by first | exact grownBy_trans HG.out HST.out.2 | exact grownBy_trans (grownBy_trans HG.out HST.out.2) ((Ext.refl _).drew.by_ _)⟩
      case measure => simp only [intOf]; omega


/-- Nothing is written through this slice, or it is one's own. -/
def Free (B : Nat) (w : World) (a : Option Addr) (n c : Nat) : Prop := n = 0 ∨ ∃ xs, Own B w a n c xs
/-- At most the slice's own block has turned. -/
def Turned (a : Option Addr) (n : Nat) (w w' : World) : Prop := ∃ row, (row = none ∨ (0 < n ∧ row = blk a)) ∧ w.grownBy w' row
theorem Free.of {B : Nat} {w : World} {a : Option Addr} {n c : Nat} {xs : List Nat} (h : Own B w a n c xs) : Free B w a n c := .inr ⟨xs, h⟩
theorem Free.old {B : Nat} {w w' : World} {a : Option Addr} {n c : Nat} (h : Free B w a n c) (E : Ext w w') : Free B w' a n c := by
  rcases h with h | ⟨xs, h⟩
  · exact .inl h
  · exact .inr ⟨xs, h.old E⟩
theorem Free.next {B : Nat} {w w' : World} {a b : Option Addr} {n m d : Nat} (h : Free B w b m d) (ht : Turned a n w w') (hd : n = 0 ∨ m = 0 ∨ blk a ≠ blk b) : Free B w' b m d := by
  rcases h with h | ⟨xs, h⟩
  · exact .inl h
  · obtain ⟨row, hr, hg⟩ := ht
    rcases hr with rfl | ⟨hn, rfl⟩
    · exact .inr ⟨xs, h.grown hg (.inl rfl)⟩
    · rcases hd with h0 | h0 | h0
      · omega
      · exact .inl h0
      · exact .inr ⟨xs, h.grown hg (.inr fun e => h0 e.symm)⟩
theorem Free.ext {B : Nat} {W w w' : World} {a : Option Addr} {n c : Nat} (h : Free B w a n c) (E : Ext W w) (hB : W.heap.size ≤ B) (ht : Turned a n w w') : Ext W w' := by
  obtain ⟨row, hr, hg⟩ := ht
  rcases hr with rfl | ⟨hn, rfl⟩
  · exact Below.grown E hg E.size (fun k hk => by cases hk)
  · rcases h with h | ⟨xs, h⟩
    · omega
    · exact E.grown' h hB hg
/-- What was made later lies apart. -/
theorem Own.later {B B' : Nat} {w w' : World} {a b : Option Addr} {n c m d : Nat} {xs ys : List Nat} (h : Own B w a n c xs) (h' : Own B' w' b m d ys) (hB : w.heap.size ≤ B') : n = 0 ∨ m = 0 ∨ blk a ≠ blk b := by
  rcases h.row with rfl | ⟨k, off, cur, e, rfl, hk, hh⟩
  · exact .inl h.sl.none_len
  · refine .inr (.inr fun e => ?_)
    have h1 := (h'.ge k e.symm).1
    have h2 := (Array.getElem?_eq_some_iff.1 hh).1
    omega
set_option maxHeartbeats 1000000 in
set_option maxRecDepth 100000 in
theorem spoilF_calls {B : Nat} {a : Option Addr} {n c : Nat} {w : World} (h : Free B w a n c) (hn : n ≤ 1000000) :
    Calls Tryz.prog 44 #[.slice a n c] w (fun e w' => e = .returned (.tuple #[]) ∧ Turned a n w w') := by
  by_cases h0 : n = 0
  · subst h0
    clear h
    go_enter Tryz.func44, Tryz.ntmps44
    go_wp2_with fail
    go_loopw [2] (fun iv wr => iv = .int .i64 0 ∧ wr = w) (fun iv _ => 0)
    case atStart => exact ⟨rfl, rfl⟩
    case round =>
      obtain ⟨rfl, rfl⟩ := hrel
      go_wp2_with fail
      go_end0
      exact ⟨rfl, none, .inl rfl, grownBy_refl _ _⟩
  · rcases h with h | ⟨xs, h⟩
    · exact absurd h h0
    · refine (spoil_calls h (by omega)).mono ?_
      rintro e w' ⟨os, rfl, -, hg⟩
      exact ⟨rfl, blk a, .inr ⟨by omega, rfl⟩, hg⟩


def LoopRel (W : World) (iv : Value) (wr : World) : Prop := ∃ k : Nat, k ≤ 2 ∧ iv = .int .i64 (k : Int) ∧ Ext W wr

set_option maxHeartbeats 1000000 in
set_option maxRecDepth 100000 in
theorem copy_calls {a : Option Addr} {n c : Nat} {xs : List Nat} {w : World} (h : Sl w a n c xs) (hn : n ≤ 1000000000) :
    Calls Tryz.prog 32 #[.slice a n c] w (New w n xs) := by
  obtain ⟨i0, hi, hz0, hs, hby⟩ := info_parts info64
  have HT := Lib.hid h
  clear h
  go_enter Tryz.func32, Tryz.ntmps32
  go_wp2_with (at_builtin; refine append_nil_sl _ rfl _ _ _ rfl _ _ Tryz.underlying23 hi hz0 hs hby rfl _ _ _ _ rfl HT.out (by omega) ?_)
  intro a' c' w1 ho hext
  go_wp2_with fail
  go_ret
  exact ⟨a', _, c', rfl, ho, hext, Nat.le_refl _⟩

end Go.Proofs.YtnfjfgfkeigkiaaGreatDoor

namespace Go.Proofs.YtnfjfgfkeigkiaaGreatDoor
open Go.RowKit

theorem FdC.one {w XL wA : World} {s : Nat} (hs : w.heap.size = s) (EL : Ext w XL) (hL : s + 1 ≤ XL.heap.size) (EA : Ext XL wA) {a1 b1 p1 s1 : Option Addr} {m1 c1 n1 d1 q1 r1 t1 u1 X1 Y1 B : Nat}
    (k1 : FdC B wA a1 m1 c1 b1 n1 d1 Y1 p1 q1 r1 s1 t1 u1) (hB : XL.heap.size ≤ B) (e1 : SlV w a1 m1 c1 X1) (e2 : SlV w b1 n1 d1 Y1) :
    Ext w ((wA.setCell ⟨s, 0, none⟩ (.slice p1 q1 r1)).setCell ⟨s, 1, none⟩ (.slice s1 t1 u1)) ∧
    SlV ((wA.setCell ⟨s, 0, none⟩ (.slice p1 q1 r1)).setCell ⟨s, 1, none⟩ (.slice s1 t1 u1)) p1 q1 r1 (dN X1 Y1) ∧
    SlV ((wA.setCell ⟨s, 0, none⟩ (.slice p1 q1 r1)).setCell ⟨s, 1, none⟩ (.slice s1 t1 u1)) s1 t1 u1 (dD Y1) := by
  subst hs
  have EW := set2_ext (EL.trans EA) (Nat.le_refl _) (.slice p1 q1 r1) (.slice s1 t1 u1)
  have f1 := k1.fin e1 e2 EW (fun o p q ho => (ho.set2 _ _ (by omega)).sl)
  exact ⟨EW, f1.1, f1.2⟩

theorem rdivmod_pos {a b : Option Addr} {m n c d : Nat} {xs ys : List Nat} {w : World} (ha : Sl w a m c xs) (hb : Sl w b n d ys) (hm : m ≤ 200000000) (hn : n ≤ 200000000) (hz : val ys ≠ 0) :
    Calls Tryz.prog 75 #[.slice a m c, .slice b n d] w (DivRes w (2 * m + 2 * n) (lim (val xs / val ys)) (lim (val xs % val ys)) 0) := by
  have := rdivmod_calls ha hb hm hn
  unfold quoL remL divE at this
  rwa [if_neg hz, if_neg hz, if_neg hz] at this

set_option maxHeartbeats 2000000 in
set_option maxRecDepth 100000 in
theorem frofdec_calls {a : Option Addr} {m c : Nat} {xs : List Nat} {w : World} (ha : Sl w a m c xs) (hm : m ≤ 100000) :
    Calls Tryz.prog 37 #[DecV a m c] w (NewR w (8 * m + 16) (8 * m + 16) (lim (rN (val xs) U36)) (lim (rD (val xs) U36))) := by
  obtain ⟨X1, hX1⟩ : ∃ X, w.alloc (.cells #[.slice a m c] 50) = X := ⟨_, rfl⟩
  obtain ⟨X2, hX2⟩ : ∃ X, X1.alloc (.cells #[.slice none 0 0, .slice none 0 0] 25) = X := ⟨_, rfl⟩
  have hsz1 : X1.heap.size = w.heap.size + 1 := by rw [← hX1, alloc_size]
  have hsz2 : X2.heap.size = w.heap.size + 2 := by rw [← hX2, alloc_size, hsz1]
  have E1 : Ext w X1 := by rw [← hX1]; exact (Ext.refl w).alloc _
  have E2 : Ext X1 X2 := by rw [← hX2]; exact (Ext.refl X1).alloc _
  have HC : Hid (∀ w', Ext X2 w' → w'.cell? ⟨w.heap.size, 0, none⟩ = some (.slice a m c)) := Lib.hid (fun w' h => box_cell (by rw [hX1]; exact E2.trans h))
  have R2 : X2.heap[w.heap.size + 1]? = some (.cells #[.slice none 0 0, .slice none 0 0] 25 (0, 0)) := by rw [← hsz1]; exact box2_row (w := X1) (by rw [hX2]; exact Ext.refl _)
  have HA := Lib.hid (fun w' (h : Ext X2 w') => ha.old ((E1.trans E2).trans h))
  have HX1 := Lib.hid hX1; have HX2 := Lib.hid hX2; have HR2 := Lib.hid R2; have HE := Lib.hid (E1.trans E2); have HSZ := Lib.hid hsz2
  have HCC : Hid (∀ w' u v, Ext X2 w' → ((w'.setCell ⟨w.heap.size + 1, 0, none⟩ u).setCell ⟨w.heap.size + 1, 1, none⟩ v).cell? ⟨w.heap.size, 0, none⟩ = some (.slice a m c)) := Lib.hid (fun w' u v h => by
    rw [World.cell?_setCell_other _ _ _ _ (by intro e; injection e with e1; omega), World.cell?_setCell_other _ _ _ _ (by intro e; injection e with e1; omega)]; exact HC.out w' h)
  clear hX1 hX2 E1 E2 R2 ha
  go_enter Tryz.func37, Tryz.ntmps37
  go_wp2_with (first | rw [HX1.out] | rw [HX2.out])
  go_region_held3 (fun w' => w'.cell? ⟨w.heap.size, 0, none⟩ = some (.slice a m c))
    (first | exact HC.out _ (Ext.refl _).drew | exact HC.out _ (by assumption) | exact HCC.out _ _ _ (by assumption))
    (first
      | (go_at_call 74; refine (rone_calls _).mono ?_; rintro e w1 ⟨o1, n1, c1, rfl, hown1, hext1, hno1⟩; have EX1 : Ext X2 w1 := (Ext.refl X2).drew.trans hext1)
      | (go_at_call 59; refine (fmade_calls (HA.out _ EX1) hown1.sl (by omega) (by omega) (by rw [val_lim]; unfold U36; decide)).mono ?_; rintro e wG ⟨o7, n7, c7, o8, n8, c8, rfl, hown7, hown8, hext7, hno7, hno8⟩; rw [val_lim] at hown7 hown8; have EwG : Ext X2 wG := EX1.trans hext7; obtain ⟨l1, l2, l3, l4⟩ := row2_cells (rowE EwG HR2.out)))
  have HG7 := Lib.hid (rowE EwG HR2.out); have HO7 := Lib.hid hown7; have HO8 := Lib.hid hown8; have HEG := Lib.hid EwG
  have z3 := HSZ.out; have zz : X2.heap.size ≤ w1.heap.size := EX1.size
  go_wp2_with fail
  try simp only [Exit.inBlock, Exit.then]
  refine bodyPost_ret (results_box1 rfl _ _ _ _ rfl (load_rat (set2_row HG7.out _ _))) rfl ?_
  exact ⟨_, _, _, _, _, _, rfl, (HO7.out.set2 _ _ (by omega)).mono (by omega), (HO8.out.set2 _ _ (by omega)).mono (by omega), set2_ext (HE.out.trans HEG.out) (by omega) _ _, by omega, by omega⟩

set_option maxHeartbeats 2000000 in
set_option maxRecDepth 100000 in
theorem frfloor_calls {a b : Option Addr} {m n c d : Nat} {xs ys : List Nat} {w : World} (ha : Sl w a m c xs) (hb : Sl w b n d ys) (hm : m ≤ 100000) (hn : n ≤ 100000) :
    Calls Tryz.prog 39 #[RatV a m c b n d] w (New w (2 * m + 2 * n + 2) (lim (dN (val xs) (val ys) / dD (val ys)))) := by
  obtain ⟨X1, hX1⟩ : ∃ X, w.alloc (.cells #[.slice a m c, .slice b n d] 25) = X := ⟨_, rfl⟩
  have hsz1 : X1.heap.size = w.heap.size + 1 := by rw [← hX1, alloc_size]
  have E1 : Ext w X1 := by rw [← hX1]; exact (Ext.refl w).alloc _
  have R1 : X1.heap[w.heap.size]? = some (.cells #[.slice a m c, .slice b n d] 25 (0, 0)) := box2_row (w := w) (by rw [hX1]; exact Ext.refl _)
  obtain ⟨k1, k2, k3, k4⟩ := row2_cells R1
  have CR := Lib.hid (fread_calls (a := a) (m := m) (c := c) (hb.old E1) (by omega))
  have V1 := Lib.hid (show SlV w a m c (val xs) from ⟨xs, ha, rfl⟩)
  have V2 := Lib.hid (show SlV w b n d (val ys) from ⟨ys, hb, rfl⟩)
  have HX1 := Lib.hid hX1; have HE1 := Lib.hid E1; have HR1 := Lib.hid R1; have HSZ := Lib.hid hsz1
  clear hX1 E1 R1 ha hb
  go_enter Tryz.func39, Tryz.ntmps39
  go_wp2_with (rw [HX1.out])
  refine CR.out.mono ?_
  rintro e w1 ⟨p, q, r, s, t, u, rfl, hrd, hext⟩
  clear k1 k2 k3 k4
  have hrow := rowE hext HR1.out
  obtain ⟨k1, k2, k3, k4⟩ := row2_cells hrow
  obtain ⟨EW, f1, f2⟩ := FdC.one rfl HE1.out (by have := HSZ.out; omega) hext hrd (Nat.le_refl _) V1.out V2.out
  have hl := hrd.len
  obtain ⟨W4, hW4⟩ : ∃ W, (w1.setCell ⟨w.heap.size, 0, none⟩ (.slice p q r)).setCell ⟨w.heap.size, 1, none⟩ (.slice s t u) = W := ⟨_, rfl⟩
  have hrow4 : W4.heap[w.heap.size]? = some (.cells #[.slice p q r, .slice s t u] 25 (0, 0)) := by rw [← hW4]; exact set2_row hrow _ _
  rw [hW4] at EW f1 f2
  obtain ⟨za, hza, hzav⟩ := f1
  obtain ⟨zb, hzb, hzbv⟩ := f2
  have CD := rdivmod_pos hza hzb (by omega) (by omega) (by rw [hzbv]; exact Nat.ne_of_gt (dD_pos _))
  rw [hzav, hzbv] at CD
  have HCD := Lib.hid CD
  obtain ⟨j1, j2, j3, j4⟩ := row2_cells hrow4
  have HW4 := Lib.hid hW4; have HEW := Lib.hid EW
  clear CD hza hzb hzav hzbv hrow hrow4 hW4 EW hrd hext
  go_wp2_with (rw [HW4.out])
  refine HCD.out.mono ?_
  rintro e w2 ⟨a2, d2, l2, a3, d3, l3, rfl, hown2, hown3, hext2, hl2, hl3, hap2⟩
  go_wp2_with fail
  go_ret
  exact ⟨a2, l2, d2, rfl, hown2.mono HEW.out.size, HEW.out.trans hext2, by omega⟩

set_option maxHeartbeats 4000000 in
set_option maxRecDepth 100000 in
theorem frdown_calls {a b : Option Addr} {m n c d : Nat} {xs ys : List Nat} {w : World} (ha : Sl w a m c xs) (hb : Sl w b n d ys) (hm : m ≤ 100000) (hn : n ≤ 100000) :
    Calls Tryz.prog 42 #[RatV a m c b n d] w (NewD w (4 * m + 2 * n + 10) (lim (dN (val xs) (val ys) * U36 / dD (val ys)))) := by
  obtain ⟨X1, hX1⟩ : ∃ X, w.alloc (.cells #[.slice a m c, .slice b n d] 25) = X := ⟨_, rfl⟩
  obtain ⟨X2, hX2⟩ : ∃ X, X1.alloc (.cells #[.slice none 0 0] 50) = X := ⟨_, rfl⟩
  have hsz1 : X1.heap.size = w.heap.size + 1 := by rw [← hX1, alloc_size]
  have hsz2 : X2.heap.size = w.heap.size + 2 := by rw [← hX2, alloc_size, hsz1]
  have E1 : Ext w X1 := by rw [← hX1]; exact (Ext.refl w).alloc _
  have E2 : Ext X1 X2 := by rw [← hX2]; exact (Ext.refl X1).alloc _
  have R1 : X2.heap[w.heap.size]? = some (.cells #[.slice a m c, .slice b n d] 25 (0, 0)) := box2_row (w := w) (by rw [hX1]; exact E2)
  have R2 : X2.heap[w.heap.size + 1]? = some (.cells #[.slice none 0 0] 50 (0, 0)) := by rw [← hsz1]; exact box_row0 (w := X1) (by rw [hX2]; exact Ext.refl _)
  obtain ⟨k1, k2, k3, k4⟩ := row2_cells R1
  have CR := Lib.hid (fread_calls (a := a) (m := m) (c := c) (hb.old (E1.trans E2)) (by omega))
  have V1 := Lib.hid (show SlV w a m c (val xs) from ⟨xs, ha, rfl⟩)
  have V2 := Lib.hid (show SlV w b n d (val ys) from ⟨ys, hb, rfl⟩)
  have HX1 := Lib.hid hX1; have HX2 := Lib.hid hX2; have HE1 := Lib.hid (E1.trans E2); have HR1 := Lib.hid R1; have HR2 := Lib.hid R2; have HSZ := Lib.hid hsz2
  clear hX1 hX2 E1 E2 R1 R2 ha hb
  go_enter Tryz.func42, Tryz.ntmps42
  go_wp2_with (first | rw [HX1.out] | rw [HX2.out])
  refine CR.out.mono ?_
  rintro e w1 ⟨p, q, r, s, t, u, rfl, hrd, hext⟩
  clear k1 k2 k3 k4
  have hrow := rowE hext HR1.out
  have hrow2 := rowE hext HR2.out
  obtain ⟨k1, k2, k3, k4⟩ := row2_cells hrow
  obtain ⟨EW, f1, f2⟩ := FdC.one rfl HE1.out (by have := HSZ.out; omega) hext hrd (Nat.le_refl _) V1.out V2.out
  have hl := hrd.len
  obtain ⟨W4, hW4⟩ : ∃ W, (w1.setCell ⟨w.heap.size, 0, none⟩ (.slice p q r)).setCell ⟨w.heap.size, 1, none⟩ (.slice s t u) = W := ⟨_, rfl⟩
  have hrow4 : W4.heap[w.heap.size]? = some (.cells #[.slice p q r, .slice s t u] 25 (0, 0)) := by rw [← hW4]; exact set2_row hrow _ _
  have hrow5 : W4.heap[w.heap.size + 1]? = some (.cells #[.slice none 0 0] 50 (0, 0)) := by rw [← hW4]; exact set2_other hrow2 (by omega) _ _
  have hs4 : X2.heap.size ≤ W4.heap.size := by rw [← hW4, set2_size]; exact hext.size
  rw [hW4] at EW f1 f2
  obtain ⟨za, hza, hzav⟩ := f1
  obtain ⟨zb, hzb, hzbv⟩ := f2
  have HA := Lib.hid (fun w' (h : Ext W4 w') => hza.old h); have HB := Lib.hid (fun w' (h : Ext W4 w') => hzb.old h); have HAV := Lib.hid hzav; have HBV := Lib.hid hzbv
  have HS : Hid (∀ w', Ext W4 w' → w'.cell? ⟨w.heap.size, 0, none⟩ = some (.slice p q r) ∧ w'.cell? ⟨w.heap.size, 1, none⟩ = some (.slice s t u)) :=
    Lib.hid (fun w' h => ⟨(row2_cells (rowE h hrow4)).1, (row2_cells (rowE h hrow4)).2.1⟩)
  have HW4 := Lib.hid hW4; have HEW := Lib.hid EW; have HR5 := Lib.hid hrow5; have HS4 := Lib.hid hs4
  clear hza hzb hzav hzbv hrow hrow2 hrow4 hrow5 hW4 EW hrd hext hs4
  go_wp2_with (rw [HW4.out])
  clear k1 k2 k3 k4
  go_region_held3 (fun w' => w'.cell? ⟨w.heap.size, 0, none⟩ = some (.slice p q r) ∧ w'.cell? ⟨w.heap.size, 1, none⟩ = some (.slice s t u))
    (first | exact HS.out _ (Ext.refl _).drew | exact HS.out _ (by assumption))
    (first
      | (go_at_call 74; refine (rone_calls _).mono ?_; rintro e w3 ⟨o1, n1, c1, rfl, hown1, hext1, hno1⟩; have EX1 : Ext W4 w3 := (Ext.refl W4).drew.trans hext1)
      | (go_at_call 77; refine (rmuldiv_calls (HA.out _ EX1) hown1.sl (HB.out _ EX1) (by omega) (by omega) (by omega)).mono ?_; rintro e w5 ⟨a2, d2, l2, a3, d3, l3, rfl, hown2, hown3, hext2, hl2, hl3, hap2⟩; rw [HAV.out, HBV.out, val_lim] at hown2; have EX2 : Ext W4 w5 := EX1.trans hext2))
  have hq : quoL (dN (val xs) (val ys) * U36) (dD (val ys)) = lim (dN (val xs) (val ys) * U36 / dD (val ys)) := by unfold quoL; rw [if_neg (Nat.ne_of_gt (dD_pos _))]
  rw [hq] at hown2
  have HR6 := Lib.hid (rowE EX2 HR5.out)
  have c1 : w5.cell? ⟨w.heap.size + 1, 0, none⟩ = some (.slice none 0 0) := by rw [cell_of_row _ _ _ _ _ _ HR6.out]; rfl
  have c2 : w5.frozen? ⟨w.heap.size + 1, 0, none⟩ = false := frozen_of_row _ _ _ _ _ HR6.out
  have z1 := HSZ.out; have z2 := HS4.out; have z3 : W4.heap.size ≤ w3.heap.size := EX1.size
  have HO2 := Lib.hid hown2; have HEX := Lib.hid EX2
  clear hown2 hown3 hap2 hq
  go_wp2_with fail
  try simp only [Exit.inBlock, Exit.then]
  refine bodyPost_ret (results_box1 rfl _ _ _ _ rfl (load_dec (heap_setCell_same w5 _ 0 _ _ (.slice a2 l2 d2) HR6.out))) rfl ?_
  exact ⟨a2, l2, d2, rfl, (HO2.out.box _ (by omega)).mono (by omega), box_store _ (HEW.out.trans HEX.out) (by omega), by omega⟩

def ofN (x y : Nat) : List Nat := if y = 0 then [] else lim (rN x y)
def ofD (x y : Nat) : List Nat := if y = 0 then [] else lim (rD x y)
def ofE (y : Nat) : Int := if y = 0 then 30 else 0
set_option maxHeartbeats 2000000 in
set_option maxRecDepth 100000 in
theorem frof_zero {a b : Option Addr} {m n c d : Nat} {ys : List Nat} {w : World} (hb : Sl w b n d ys) (hn : n ≤ 1000000) (hy : val ys = 0) :
    Calls Tryz.prog 34 #[.slice a m c, .slice b n d] w (NewRE w 0 0 [] [] 30) := by
  obtain ⟨X, hX⟩ : ∃ X, w.alloc (.cells #[.slice none 0 0, .slice none 0 0] 25) = X := ⟨_, rfl⟩
  have E0 : Ext w X := by rw [← hX]; exact (Ext.refl w).alloc _
  have hr0 := fun w' (h : Ext X w') => box2_row (w := w) (w' := w') (u := .slice none 0 0) (v := .slice none 0 0) (T := 25) (by rw [hX]; exact h)
  have HX := Lib.hid hX; have HE0 := Lib.hid E0; have HR0 := Lib.hid hr0
  have CB := rnorm_calls (hb.old E0) (by omega)
  rw [hy] at CB
  have HCB := Lib.hid CB
  clear hX E0 hr0 CB hy
  go_enter Tryz.func34, Tryz.ntmps34
  go_wp2_with (rw [HX.out])
  refine HCB.out.mono ?_
  rintro e w1 ⟨o1, n1, c1, rfl, hown1, hext1, hno1⟩
  have h1 : n1 = 0 := hown1.sl.len.symm.trans (by rfl)
  subst h1
  obtain ⟨k1, k2, k3, k4⟩ := row2_cells (HR0.out _ hext1)
  have HX1 := Lib.hid hext1
  clear hown1 hext1
  go_wp2_with fail
  try simp only [Exit.inBlock, Exit.then]
  refine bodyPost_ret (results_box2 rfl _ _ _ _ rfl (load_rat (set2_row (HR0.out _ HX1.out) _ _))) rfl ?_
  exact ⟨none, 0, 0, none, 0, 0, rfl, Own.nil _ _, Own.nil _ _, set2_ext (HE0.out.trans HX1.out) (Nat.le_refl _) _ _, Nat.le_refl _, Nat.le_refl _⟩
set_option maxHeartbeats 2000000 in
set_option maxRecDepth 100000 in
theorem frof_pos {a b : Option Addr} {m n c d : Nat} {xs ys : List Nat} {w : World} (ha : Sl w a m c xs) (hb : Sl w b n d ys) (hm : m ≤ 1000000) (hn : n ≤ 1000000) (hy : val ys ≠ 0) :
    Calls Tryz.prog 34 #[.slice a m c, .slice b n d] w (NewRE w (8 * m + 8 * n) (8 * m + 8 * n) (lim (rN (val xs) (val ys))) (lim (rD (val xs) (val ys))) 0) := by
  obtain ⟨X, hX⟩ : ∃ X, w.alloc (.cells #[.slice none 0 0, .slice none 0 0] 25) = X := ⟨_, rfl⟩
  have E0 : Ext w X := by rw [← hX]; exact (Ext.refl w).alloc _
  have hr0 := fun w' (h : Ext X w') => box2_row (w := w) (w' := w') (u := .slice none 0 0) (v := .slice none 0 0) (T := 25) (by rw [hX]; exact h)
  have hsz : X.heap.size = w.heap.size + 1 := by rw [← hX, alloc_size]
  have HX := Lib.hid hX; have HE0 := Lib.hid E0; have HR0 := Lib.hid hr0; have HSZ := Lib.hid hsz; have HA := Lib.hid (ha.old E0); have HB := Lib.hid (hb.old E0); have HY := Lib.hid hy
  have HCB := Lib.hid (rnorm_calls (hb.old E0) (by omega))
  clear hX E0 hr0 hsz ha hb hy
  go_enter Tryz.func34, Tryz.ntmps34
  go_wp2_with (rw [HX.out])
  refine HCB.out.mono ?_
  rintro e w1 ⟨o1, n1, c1, rfl, hown1, hext1, hno1⟩
  have h1 : n1 ≠ 0 := fun h => HY.out ((digs_nil B64_two).1 (List.eq_nil_of_length_eq_zero (hown1.sl.len.trans h)))
  have h2 : ((n1 : Int) == 0) = false := by rw [beq_eq_false_iff_ne]; omega
  have CM := Lib.hid (fmade_calls (HA.out.old hext1) (HB.out.old hext1) (by omega) (by omega) HY.out)
  have HX1 := Lib.hid hext1
  clear hown1 hext1 h1
  go_wp2_with fail
  refine CM.out.mono ?_
  rintro e w2 ⟨p, l, c', q, r, d', rfl, h1, h2, h3, h4, h5⟩
  have HS := HX1.out.size
  have HRZ := Lib.hid (HR0.out _ (HX1.out.trans h3))
  obtain ⟨k1, k2, k3, k4⟩ := row2_cells HRZ.out
  have H1 := Lib.hid h1; have H2 := Lib.hid h2; have H3 := Lib.hid (HE0.out.trans (HX1.out.trans h3))
  clear h1 h2 h3
  go_wp2_with fail
  try simp only [Exit.inBlock, Exit.then]
  refine bodyPost_ret (results_box2 rfl _ _ _ _ rfl (load_rat (set2_row HRZ.out _ _))) rfl ?_
  have hsz := HSZ.out
  exact ⟨_, _, _, _, _, _, rfl, (H1.out.set2 _ _ (by omega)).mono (by omega), (H2.out.set2 _ _ (by omega)).mono (by omega), set2_ext H3.out (Nat.le_refl _) _ _, by omega, by omega⟩

/-- A new fraction, its two parts apart, and an error that is a number. -/
def NewRA (w : World) (L M : Nat) (xs ys : List Nat) (er : Int) (e : Ending) (w' : World) : Prop :=
  ∃ a n c b m d, e = .returned (.tuple #[RatV a n c b m d, .int .i64 er]) ∧ Own w.heap.size w' a n c xs ∧ Own w.heap.size w' b m d ys ∧ Ext w w' ∧ n ≤ L ∧ m ≤ M ∧ (n = 0 ∨ m = 0 ∨ blk a ≠ blk b)

set_option maxHeartbeats 2000000 in
set_option maxRecDepth 100000 in
theorem rofA_calls {a b : Option Addr} {m n c d : Nat} {xs ys : List Nat} {w : World} (ha : Sl w a m c xs) (hb : Sl w b n d ys) (hm : m ≤ 1000000) (hn : n ≤ 1000000) (htz : TzTab w) (hy : val ys ≠ 0) :
    Calls Tryz.prog 33 #[.slice a m c, .slice b n d] w (NewRA w m n (lim (rN (val xs) (val ys))) (lim (rD (val xs) (val ys))) 0) := by
  obtain ⟨X, hX⟩ : ∃ X, w.alloc (.cells #[.slice none 0 0, .slice none 0 0] 25) = X := ⟨_, rfl⟩
  have E0 : Ext w X := by rw [← hX]; exact (Ext.refl w).alloc _
  have hr0 := fun w' (h : Ext X w') => box2_row (w := w) (w' := w') (u := .slice none 0 0) (v := .slice none 0 0) (T := 25) (by rw [hX]; exact h)
  have hsz : X.heap.size = w.heap.size + 1 := by rw [← hX, alloc_size]
  have HX := Lib.hid hX; have HE0 := Lib.hid E0; have HR0 := Lib.hid hr0; have HSZ := Lib.hid hsz; have HA := Lib.hid ha; have HTZ := Lib.hid htz; have HB := Lib.hid hb; have HY := Lib.hid hy
  have CB := Lib.hid (bits_calls (hb.old E0) (by omega))
  have CG := gcd_calls (ha.old E0) (hb.old E0) (by omega) (by omega) (htz.old E0)
  obtain ⟨x, hx⟩ : ∃ x, val xs = x := ⟨_, rfl⟩
  obtain ⟨y, hyv⟩ : ∃ y, val ys = y := ⟨_, rfl⟩
  rw [hx, hyv] at CG ⊢
  obtain ⟨g, hg⟩ : ∃ g, Nat.gcd x y = g := ⟨_, rfl⟩
  rw [hg] at CG
  have HCG := Lib.hid CG; have HG := Lib.hid hg; have HXV := Lib.hid hx; have HYV := Lib.hid hyv
  have hb0 : ((bitLen (val ys) : Int) == 0) = false := by
    rw [beq_eq_false_iff_ne]; have := bitLen_pos hy; omega
  clear hX E0 hr0 hsz ha hb htz hy CG hg hx hyv
  go_enter Tryz.func33, Tryz.ntmps33
  go_wp2_with (rw [HX.out])
  refine CB.out.mono ?_
  rintro e w' ⟨rfl, rfl⟩
  go_wp2_with fail
  refine HCG.out.mono ?_
  rintro e w1 ⟨o1, n1, c1, rfl, hown1, hext1, hno1⟩
  have hgp : 0 < g := by rw [← HG.out]; exact gcd_posR (Nat.pos_of_ne_zero (by rw [← HYV.out]; exact HY.out))
  have CD := divmod_pos (HA.out.old (HE0.out.trans hext1)) hown1.sl (by omega) (by omega) (by rw [val_lim]; omega)
  rw [val_lim, HXV.out] at CD
  have HCD := Lib.hid CD; have HO1 := Lib.hid hown1; have HE1 := Lib.hid hext1; have HGP := Lib.hid hgp
  clear CD hown1 hext1 hgp
  go_wp2_with fail
  refine HCD.out.mono ?_
  rintro e w2 ⟨a2, d2, l2, a3, d3, l3, rfl, hown2, hown3, hext2, hl2, hl3, hap2⟩
  have CD := divmod_pos (HB.out.old (HE0.out.trans (HE1.out.trans hext2))) (HO1.out.sl.old hext2) (by omega) (by omega) (by rw [val_lim]; have := HGP.out; omega)
  rw [val_lim, HYV.out] at CD
  have HCD2 := Lib.hid CD; have HO2 := Lib.hid hown2; have HE2 := Lib.hid hext2
  clear CD hown2 hown3 hap2 hext2
  go_wp2_with fail
  refine HCD2.out.mono ?_
  rintro e w3 ⟨a4, d4, l4, a5, d5, l5, rfl, hown4, hown5, hext3, hl4, hl5, hap4⟩
  have EX := HE1.out.trans (HE2.out.trans hext3)
  obtain ⟨k1, k2, k3, k4⟩ := row2_cells (HR0.out w3 EX)
  go_wp2_with fail
  have HX3 := Lib.hid EX
  have HRW := Lib.hid (HR0.out w3 EX)
  clear EX
  try simp only [Exit.inBlock, Exit.then]
  refine bodyPost_ret (results_box2 rfl _ _ _ _ rfl (load_rat (set2_row HRW.out _ _))) rfl ?_
  have e1 : x / g = rN x y := by rw [← HG.out]; rfl
  have e2 : y / g = rD x y := by rw [← HG.out]; rfl
  have hs := HSZ.out
  have hs1 := HE1.out.size
  have hs2 := HE2.out.size
  have hO2 := (HO2.out.old hext3).set2 (.slice a2 l2 d2) (.slice a4 l4 d4) (by omega : w.heap.size < w1.heap.size)
  have hO4 := hown4.set2 (.slice a2 l2 d2) (.slice a4 l4 d4) (by omega : w.heap.size < w2.heap.size)
  rw [e1] at hO2
  rw [e2] at hO4
  have hap := HO2.out.later hown4 (Nat.le_refl _)
  exact ⟨a2, l2, d2, a4, l4, d4, rfl, hO2.mono (by omega), hO4.mono (by omega), set2_ext (HE0.out.trans HX3.out) (Nat.le_refl _) _ _, by omega, by omega, hap⟩

theorem rofv_at (X Y : Nat) (E : Int) (P Q : List Nat) {a b : Option Addr} {m n c d : Nat} {xs ys : List Nat} {w : World} (ha : Sl w a m c xs) (hb : Sl w b n d ys) (hx : val xs = X) (hy : val ys = Y) (hE : ofE Y = E) (hP : ofN X Y = P) (hQ : ofD X Y = Q) (hm : m ≤ 12) (hn : n ≤ 12) (htz : TzTab w) :
    Calls Tryz.prog 33 #[.slice a m c, .slice b n d] w (NewRA w 12 12 P Q E) := by
  subst hx hy hE hP hQ
  unfold ofN ofD ofE
  by_cases h : val ys = 0
  · rw [if_pos h, if_pos h, if_pos h]
    exact (rof_zero hb (by omega) h).mono fun e w' ⟨a, n, c, b, m, d, r, x, y, z, p, q⟩ => ⟨a, n, c, b, m, d, r, x, y, z, by omega, by omega, .inl (by omega)⟩
  · rw [if_neg h, if_neg h, if_neg h]
    exact (rofA_calls ha hb (by omega) (by omega) htz h).mono fun e w' ⟨a, n, c, b, m, d, r, x, y, z, p, q, s⟩ => ⟨a, n, c, b, m, d, r, x, y, z, by omega, by omega, s⟩
theorem frofv_at (X Y : Nat) (E : Int) (P Q : List Nat) {a b : Option Addr} {m n c d : Nat} {xs ys : List Nat} {w : World} (ha : Sl w a m c xs) (hb : Sl w b n d ys) (hx : val xs = X) (hy : val ys = Y) (hE : ofE Y = E) (hP : ofN X Y = P) (hQ : ofD X Y = Q) (hm : m ≤ 12) (hn : n ≤ 12) :
    Calls Tryz.prog 34 #[.slice a m c, .slice b n d] w (NewRE w 200 200 P Q E) := by
  subst hx hy hE hP hQ
  unfold ofN ofD ofE
  by_cases h : val ys = 0
  · rw [if_pos h, if_pos h, if_pos h]
    exact (frof_zero hb (by omega) h).mono fun e w' ⟨a, n, c, b, m, d, r, x, y, z, p, q⟩ => ⟨a, n, c, b, m, d, r, x, y, z, by omega, by omega⟩
  · rw [if_neg h, if_neg h, if_neg h]
    exact (frof_pos ha hb (by omega) (by omega) h).mono fun e w' ⟨a, n, c, b, m, d, r, x, y, z, p, q⟩ => ⟨a, n, c, b, m, d, r, x, y, z, by omega, by omega⟩

set_option maxHeartbeats 2000000 in
set_option maxRecDepth 100000 in
theorem hdec_calls {a b : Option Addr} {m n c d : Nat} {xs ys : List Nat} {w : World} (ha : Sl w a m c xs) (hb : Sl w b n d ys) (hm : m ≤ 1000000) (hn : n ≤ 1000000) :
    Calls Tryz.prog 40 #[DecV a m c, DecV b n d] w (RetE (.bool (decide (xs = ys))) w) := by
  have E := ((Ext.refl w).alloc (.cells #[.slice a m c] 50)).alloc (.cells #[.slice b n d] 50)
  have CB := Lib.hid (hnat_calls (ha.old E) (hb.old E) (by omega) (by omega))
  go_enter Tryz.func40, Tryz.ntmps40
  go_wp2_with fail
  refine CB.out.mono ?_
  rintro e w' ⟨rfl, k, rfl⟩
  go_wp2_with fail
  go_ret
  exact ⟨rfl, E.drewN k⟩

theorem hdec_at {a b : Option Addr} {m n c d : Nat} {xs : List Nat} {w : World} (ha : Sl w a m c xs) (hb : Sl w b n d xs) (hm : m ≤ 1000000) (hn : n ≤ 1000000) :
    Calls Tryz.prog 40 #[DecV a m c, DecV b n d] w (RetE (.bool true) w) := by
  have := hdec_calls ha hb hm hn
  rwa [decide_eq_true rfl] at this

/-! RatDown's numbers. -/

end Go.Proofs.YtnfjfgfkeigkiaaGreatDoor

namespace Go.Proofs.YtnfjfgfkeigkiaaGreatDoor
open Go.RowKit Go.Lib

theorem Turned.row {B j n c : Nat} {W w w' : World} {a : Option Addr} {xs : List Nat} {o : Obj} (ht : Turned a n w w') (h : Own B W a n c xs) (hj : W.heap.size ≤ j) (hr : w.heap[j]? = some o) : w'.heap[j]? = some o := by
  obtain ⟨row, hr', hg⟩ := ht
  have hne : row ≠ some j := by
    rintro rfl
    rcases hr' with h0 | ⟨_, h0⟩
    · cases h0
    · have := (h.ge j h0.symm).2; omega
  rw [hg.block j (Array.getElem?_eq_some_iff.1 hr).1 hne.symm]
  exact hr
theorem rN_one (x : Nat) : rN x 1 = x := by unfold rN; rw [Nat.gcd_one_right, Nat.div_one]
theorem rD_one (x : Nat) : rD x 1 = 1 := by unfold rD; rw [Nat.gcd_one_right]
theorem hnatv_at {a b : Option Addr} {m n c d : Nat} {xs : List Nat} {w : World} (ha : Sl w a m c xs) (hb : Sl w b n d xs) (hm : m ≤ 1000000000) (hn : n ≤ 1000000000) :
    Calls Tryz.prog 38 #[.slice a m c, .slice b n d] w (RetE (.bool true) w) :=
  (hnat_calls ha hb hm hn).mono fun e w' ⟨h1, q, h2⟩ => ⟨by rw [h1, decide_eq_true rfl], by rw [h2]; exact (Ext.refl _).drewN q⟩
theorem bool_ne (v : Bool) : (v != v) = false := by cases v <;> rfl
theorem int_ne (v : Int) : (v != v) = false := by simp

set_option maxHeartbeats 16000000 in
set_option maxRecDepth 100000 in
theorem ratmade_law {a1 a2 a3 : Option Addr} {m1 c1 m2 c2 m3 c3 : Nat} {xs1 xs2 xs3 : List Nat} {w : World} (ha1 : Sl w a1 m1 c1 xs1) (ha2 : Sl w a2 m2 c2 xs2) (ha3 : Sl w a3 m3 c3 xs3) (htab : Tab w) (htz : TzTab w) :
    Calls Tryz.prog 8 #[.slice a1 m1 c1, .slice a2 m2 c2, DecV a3 m3 c3] w (RetE (.bool true) w) := by
  obtain ⟨X, hv1⟩ : ∃ X, val xs1 = X := ⟨_, rfl⟩
  obtain ⟨Y, hv2⟩ : ∃ Y, val xs2 = Y := ⟨_, rfl⟩
  have HV1 := Lib.hid hv1; have HV2 := Lib.hid hv2
  obtain ⟨X1, hX1⟩ : ∃ X, w.alloc (.cells #[.slice a3 m3 c3] 50) = X := ⟨_, rfl⟩
  have E1 : Ext w X1 := by rw [← hX1]; exact (Ext.refl w).alloc _
  have HC : Hid (∀ w', Ext X1 w' → w'.cell? ⟨w.heap.size, 0, none⟩ = some (.slice a3 m3 c3)) := Lib.hid (fun w' h => box_cell (by rw [hX1]; exact h))
  have HA1 := Lib.hid (ha1.old E1); have HA2 := Lib.hid (ha2.old E1); have HA3 := Lib.hid (ha3.old E1)
  have HTZ := Lib.hid (htz.old E1)
  have CK := Lib.hid (knownR_calls X1 (htab.old E1) (htz.old E1))
  have HX1 := Lib.hid hX1; have HE1 := Lib.hid E1
  clear hv1 hv2 hX1 E1 ha1 ha2 ha3 htab htz
  go_enter Tryz.func8, Tryz.ntmps8
  go_wp2_with (rw [HX1.out])
  refine CK.out.mono ?_
  rintro e w0 ⟨rfl, hx0⟩
  have EX0 := Lib.hid hx0
  have j0 := HC.out _ hx0
  clear hx0 CK
  by_cases h12 : m1 ≤ 12
  rotate_left
  · have hd : decide ((12 : Int) < (m1 : Int)) = true := by rw [decide_eq_true_iff]; omega
    go_wp2_with fail
    go_ret
    exact ⟨rfl, HE1.out.trans EX0.out⟩
  have hd1 : decide ((12 : Int) < (m1 : Int)) = false := by rw [decide_eq_false_iff_not]; omega
  by_cases h22 : m2 ≤ 12
  rotate_left
  · have hd : decide ((12 : Int) < (m2 : Int)) = true := by rw [decide_eq_true_iff]; omega
    go_wp2_with fail
    go_ret
    exact ⟨rfl, HE1.out.trans EX0.out⟩
  have hd2 : decide ((12 : Int) < (m2 : Int)) = false := by rw [decide_eq_false_iff_not]; omega
  by_cases h32 : m3 ≤ 12
  rotate_left
  · have hd : decide ((12 : Int) < (m3 : Int)) = true := by rw [decide_eq_true_iff]; omega
    go_wp2_with fail
    go_ret
    exact ⟨rfl, HE1.out.trans EX0.out⟩
  have hd3 : decide ((12 : Int) < (m3 : Int)) = false := by rw [decide_eq_false_iff_not]; omega
  have C1 := Lib.hid (copy_calls (HA1.out.old EX0.out) (by omega))
  go_wp2_with fail
  refine C1.out.mono ?_
  rintro e w1 ⟨ax, nx, cx, rfl, o1, x1, l1⟩
  clear C1
  have C2 := Lib.hid (copy_calls (HA2.out.old (EX0.out.trans x1)) (by omega))
  have EX1 := Lib.hid (EX0.out.trans x1); have S1 := Lib.hid o1.sl
  clear o1 x1 hd1 hd2 hd3
  go_wp2_with fail
  refine C2.out.mono ?_
  rintro e w2 ⟨ay, ny, cy, rfl, o2, x2, l2⟩
  have EX2 := Lib.hid (EX1.out.trans x2); have SX := Lib.hid (S1.out.old x2); have SY := Lib.hid o2.sl
  clear C2 S1 o2 x2 j0
  go_wp2_with fail
  go_loopw [9] (fun iv wr => LoopRel w2 iv wr) (fun iv _ => 2 - (RowKit.intOf iv).toNat)
  case atStart => exact ⟨0, by omega, rfl, Ext.refl _⟩
  case round =>
    obtain ⟨k, hk, rfl, hex⟩ := hrel
    have D2 := Lib.hid hex
    have EX3 := Lib.hid (EX2.out.trans hex)
    clear hex
    by_cases hk2 : k = 2
    · subst hk2
      have CX := Lib.hid (hnatv_at (SX.out.old D2.out) (HA1.out.old EX3.out) (by omega) (by omega))
      go_wp2_with fail
      refine CX.out.mono ?_
      rintro e w3 ⟨rfl, x3⟩
      have CY := Lib.hid (hnatv_at (SY.out.old (D2.out.trans x3)) (HA2.out.old (EX3.out.trans x3)) (by omega) (by omega))
      have EX4 := Lib.hid (EX3.out.trans x3)
      clear x3
      go_wp2_with fail
      refine CY.out.mono ?_
      rintro e w4 ⟨rfl, x4⟩
      go_wp2_with fail
      go_ret
      exact ⟨rfl, HE1.out.trans (EX4.out.trans x4)⟩
    · have hlt : (k : Int) < 2 := by omega
      obtain ⟨er, her⟩ : ∃ e, ofE Y = e := ⟨_, rfl⟩
      obtain ⟨P, hP⟩ : ∃ e, ofN X Y = e := ⟨_, rfl⟩
      obtain ⟨Q, hQ⟩ : ∃ e, ofD X Y = e := ⟨_, rfl⟩
      have C3 := Lib.hid (rofv_at X Y er P Q (SX.out.old D2.out) (SY.out.old D2.out) HV1.out HV2.out her hP hQ (by omega) (by omega) (HTZ.out.old EX3.out))
      have HER := Lib.hid her; have HP := Lib.hid hP; have HQ := Lib.hid hQ
      clear her hP hQ
      go_wp2_with fail
      refine C3.out.mono ?_
      rintro e w3 ⟨p, l, c, q, r, d, rfl, o3, o4, x3, l3, l4, ap⟩
      obtain ⟨W3, hW3⟩ : ∃ W, w3.alloc (.cells #[.slice p l c, .slice q r d] 25) = W := ⟨_, rfl⟩
      have A3 : Ext w3 W3 := by rw [← hW3]; exact (Ext.refl _).alloc _
      have Y3 := Lib.hid (show Ext wr W3 from x3.trans A3)
      have R3 := Lib.hid (show W3.heap[w3.heap.size]? = some (.cells #[.slice p l c, .slice q r d] 25 (0, 0)) by rw [← hW3]; exact heap_alloc_new _ _)
      have O3 := Lib.hid o3; have O4 := Lib.hid o4; have O3' := Lib.hid (o3.old A3); have O4' := Lib.hid (o4.old A3); have AP := Lib.hid ap; have HW3 := Lib.hid hW3
      clear hW3 A3 o3 o4 ap x3 C3
      have C4 := Lib.hid (frofv_at X Y er P Q (HA1.out.old (EX3.out.trans Y3.out)) (HA2.out.old (EX3.out.trans Y3.out)) HV1.out HV2.out HER.out HP.out HQ.out (by omega) (by omega))
      go_wp2_with (rw [HW3.out])
      refine C4.out.mono ?_
      rintro e w4 ⟨p4, r4, s4, t4, u4, v4, rfl, hp4, ht4, hext4, hr4, hu4⟩
      obtain ⟨W4, hW4⟩ : ∃ W, w4.alloc (.cells #[.slice p4 r4 s4, .slice t4 u4 v4] 25) = W := ⟨_, rfl⟩
      have A4 : Ext w4 W4 := by rw [← hW4]; exact (Ext.refl _).alloc _
      have Y4 := Lib.hid (show Ext W3 W4 from hext4.trans A4)
      have P4 := Lib.hid (hp4.sl.old A4); have T4 := Lib.hid (ht4.sl.old A4)
      have R4 := Lib.hid (show W4.heap[w4.heap.size]? = some (.cells #[.slice p4 r4 s4, .slice t4 u4 v4] 25 (0, 0)) by rw [← hW4]; exact heap_alloc_new _ _)
      have HW4 := Lib.hid hW4
      clear hW4 A4 hp4 ht4 hext4 C4
      have E4 := Lib.hid (EX3.out.trans (Y3.out.trans Y4.out))
      have HSS := Lib.hid (fun w' (h : Ext W4 w') => (⟨HC.out _ (E4.out.trans h), ⟨(row2_cells (rowE (Y4.out.trans h) R3.out)).1, (row2_cells (rowE (Y4.out.trans h) R3.out)).2.1⟩, ⟨(row2_cells (rowE h R4.out)).1, (row2_cells (rowE h R4.out)).2.1⟩⟩ : w'.cell? ⟨w.heap.size, 0, none⟩ = some (.slice a3 m3 c3) ∧ (w'.cell? ⟨w3.heap.size, 0, none⟩ = some (.slice p l c) ∧ w'.cell? ⟨w3.heap.size, 1, none⟩ = some (.slice q r d)) ∧ (w'.cell? ⟨w4.heap.size, 0, none⟩ = some (.slice p4 r4 s4) ∧ w'.cell? ⟨w4.heap.size, 1, none⟩ = some (.slice t4 u4 v4))))
      have CA := Lib.hid (fun w' (h : Ext W4 w') => hrat_at (O3'.out.sl.old (Y4.out.trans h)) (O4'.out.sl.old (Y4.out.trans h)) (P4.out.old h) (T4.out.old h) (by omega) (by omega) (by omega) (by omega))
      have CB := Lib.hid (fun w' (h : Ext W4 w') => rofnat_calls (SX.out.old (D2.out.trans (Y3.out.trans (Y4.out.trans h)))) (by omega))
      have CC := Lib.hid (fun w' (h : Ext W4 w') => frofnat_calls (HA1.out.old (E4.out.trans h)) (by omega))
      have CE := Lib.hid (fun w' (h : Ext W4 w') => rofdec_calls (HA3.out.old (E4.out.trans h)) (by omega) (HTZ.out.old (E4.out.trans h)))
      have CF := Lib.hid (fun w' (h : Ext W4 w') => frofdec_calls (HA3.out.old (E4.out.trans h)) (by omega))
      rw [rN_one, rD_one] at CC
      have hne1 := int_ne er
      go_wp2_with (rw [HW4.out])
      go_region_held3 (fun w' => w'.cell? ⟨w.heap.size, 0, none⟩ = some (.slice a3 m3 c3) ∧ (w'.cell? ⟨w3.heap.size, 0, none⟩ = some (.slice p l c) ∧ w'.cell? ⟨w3.heap.size, 1, none⟩ = some (.slice q r d)) ∧ (w'.cell? ⟨w4.heap.size, 0, none⟩ = some (.slice p4 r4 s4) ∧ w'.cell? ⟨w4.heap.size, 1, none⟩ = some (.slice t4 u4 v4)))
        (first | exact HSS.out _ (Ext.refl _) | exact HSS.out _ ((Ext.refl _).drew) | exact HSS.out _ (by assumption))
        (first
          | (go_at_call_of 18 p4; refine (CA.out _ (Ext.refl W4).drew).mono ?_; rintro e wA ⟨rfl, hA⟩; have EA : Ext W4 wA := (Ext.refl W4).drew.trans hA)
          | (go_at_call 27; refine (CB.out _ EA).mono ?_; rintro e wB ⟨pB, rB, sB, tB, uB, vB, rfl, hpB, htB, hxB, hrB, huB⟩; have EB : Ext W4 wB := EA.trans hxB)
          | (go_at_call 35; refine (CC.out _ EB).mono ?_; rintro e wC ⟨pC, rC, sC, tC, uC, vC, rfl, hpC, htC, hxC, hrC, huC⟩; have EC : Ext W4 wC := EB.trans hxC)
          | (go_at_call_of 18 pB; refine (hrat_at (hpB.sl.old hxC) (htB.sl.old hxC) hpC.sl htC.sl (by omega) (by omega) (by omega) (by omega)).mono ?_; rintro e wD ⟨rfl, hD⟩; have ED : Ext W4 wD := EC.trans hD)
          | (go_at_call 36; refine (CE.out _ ED).mono ?_; rintro e wE ⟨pE, rE, sE, tE, uE, vE, rfl, hpE, htE, hxE, hrE, huE⟩; have EE : Ext W4 wE := ED.trans hxE)
          | (go_at_call 37; refine (CF.out _ EE).mono ?_; rintro e wF ⟨pF, rF, sF, tF, uF, vF, rfl, hpF, htF, hxF, hrF, huF⟩; have EF : Ext W4 wF := EE.trans hxF)
          | (go_at_call_of 18 pE; refine (hrat_at (hpE.sl.old hxF) (htE.sl.old hxF) hpF.sl htF.sl (by omega) (by omega) (by omega) (by omega)).mono ?_; rintro e wG ⟨rfl, hG⟩; have EG : Ext W4 wG := EF.trans hG))
      have Y5 := Lib.hid EG
      clear hpB htB hxB hpC htC hxC hpE htE hxE hpF htF hxF hA hD hG EA EB EC ED EE EF EG hrB huB hrC huC hrE huE hrF huF CA CB CC CE CF hne1 HSS
      obtain ⟨W5, hW5⟩ : ∃ W, wG.alloc (.cells #[.slice ax nx cx, .slice ay ny cy] 25) = W := ⟨_, rfl⟩
      have A5 : Ext wG W5 := by rw [← hW5]; exact (Ext.refl _).alloc _
      have R5 := Lib.hid (show W5.heap[wG.heap.size]? = some (.cells #[.slice ax nx cx, .slice ay ny cy] 25 (0, 0)) by rw [← hW5]; exact heap_alloc_new _ _)
      have E5 := Lib.hid (E4.out.trans (Y5.out.trans A5)); have Y45 := Lib.hid (Y5.out.trans A5)
      have HW5 := Lib.hid hW5
      clear hW5 A5
      have DX := Lib.hid (D2.out.trans (Y3.out.trans (Y4.out.trans Y45.out)))
      have HST := Lib.hid (fun w' (h : Ext W5 w') => (⟨(row2_cells (rowE h R5.out)).1, (row2_cells (rowE h R5.out)).2.1⟩ : w'.cell? ⟨wG.heap.size, 0, none⟩ = some (.slice ax nx cx) ∧ w'.cell? ⟨wG.heap.size, 1, none⟩ = some (.slice ay ny cy)))
      have HSX := Lib.hid (fun w' (h : Ext W5 w') => SX.out.old (DX.out.trans h)); have HSY := Lib.hid (fun w' (h : Ext W5 w') => SY.out.old (DX.out.trans h))
      have HB1 := Lib.hid (fun w' (h : Ext W5 w') => HA1.out.old (E5.out.trans h)); have HB2 := Lib.hid (fun w' (h : Ext W5 w') => HA2.out.old (E5.out.trans h))
      have CA := Lib.hid (fun w' (h : Ext W5 w') => rfloor_calls (HSX.out _ h) (HSY.out _ h) (by omega) (by omega))
      have CB := Lib.hid (fun w' (h : Ext W5 w') => frfloor_calls (HSX.out _ h) (HSY.out _ h) (by omega) (by omega))
      have CC := Lib.hid (fun w' (h : Ext W5 w') => rdown_calls (HSX.out _ h) (HSY.out _ h) (by omega) (by omega))
      have CD := Lib.hid (fun w' (h : Ext W5 w') => frdown_calls (HSX.out _ h) (HSY.out _ h) (by omega) (by omega))
      have CE := Lib.hid (fun w' (h : Ext W5 w') => rzero_calls (HSX.out _ h) (HSY.out _ h) (by omega) (by omega))
      have CF := Lib.hid (fun w' (h : Ext W5 w') => frzero_calls (HSX.out _ h) (HSY.out _ h) (by omega) (by omega))
      obtain ⟨zb, hzb⟩ : ∃ z, decide (dN (val xs1) (val xs2) = 0) = z := ⟨_, rfl⟩
      rw [hzb] at CE CF
      have hne2 := bool_ne zb
      clear hzb
      go_wp2_with (rw [HW5.out])
      go_region_held3 (fun w' => w'.cell? ⟨wG.heap.size, 0, none⟩ = some (.slice ax nx cx) ∧ w'.cell? ⟨wG.heap.size, 1, none⟩ = some (.slice ay ny cy))
        (first | exact HST.out _ (Ext.refl _) | exact HST.out _ ((Ext.refl _).drew) | exact HST.out _ (by assumption))
        (first
          | (go_at_call 29; refine (CA.out _ (Ext.refl W5).drew).mono ?_; rintro e wH ⟨pH, rH, sH, rfl, hpH, hxH, hrH⟩; have EH : Ext W5 wH := (Ext.refl W5).drew.trans hxH)
          | (go_at_call 39; refine (CB.out _ EH).mono ?_; rintro e wI ⟨pI, rI, sI, rfl, hpI, hxI, hrI⟩; have EI : Ext W5 wI := EH.trans hxI)
          | (go_at_call_of 38 pH; refine (hnatv_at (hpH.sl.old hxI) hpI.sl (by omega) (by omega)).mono ?_; rintro e wJ ⟨rfl, hJ⟩; have EJ : Ext W5 wJ := EI.trans hJ)
          | (go_at_call 41; refine (CC.out _ EJ).mono ?_; rintro e wK ⟨pK, rK, sK, rfl, hpK, hxK, hrK⟩; have EK : Ext W5 wK := EJ.trans hxK)
          | (go_at_call 42; refine (CD.out _ EK).mono ?_; rintro e wL ⟨pL, rL, sL, rfl, hpL, hxL, hrL⟩; have EL : Ext W5 wL := EK.trans hxL)
          | (go_at_call 40; refine (hdec_at (hpK.sl.old hxL) hpL.sl (by omega) (by omega)).mono ?_; rintro e wM ⟨rfl, hM⟩; have EM : Ext W5 wM := EL.trans hM)
          | (go_at_call 28; refine (CE.out _ EM).mono ?_; rintro e wN ⟨rfl, hN⟩; have EN : Ext W5 wN := EM.trans hN)
          | (go_at_call 43; refine (CF.out _ EN).mono ?_; rintro e wO ⟨rfl, hO⟩; have EO : Ext W5 wO := EN.trans hO)
          | (go_at_call_of 38 a1; refine (hnatv_at (HSX.out _ EO) (HB1.out _ EO) (by omega) (by omega)).mono ?_; rintro e wP ⟨rfl, hP⟩; have EP : Ext W5 wP := EO.trans hP)
          | (go_at_call_of 38 a2; refine (hnatv_at (HSY.out _ EP) (HB2.out _ EP) (by omega) (by omega)).mono ?_; rintro e wQ ⟨rfl, hQ⟩; have EQ : Ext W5 wQ := EP.trans hQ))
      have Y6 := Lib.hid (Y4.out.trans (Y45.out.trans EQ))
      clear hpH hxH hrH hpI hxI hrI hJ hpK hxK hrK hpL hxL hrL hM hN hO hP hQ EH EI EJ EK EL EM EN EO EP EQ CA CB CC CD CE CF hne2
      have F3 := Lib.hid (show Free wr.heap.size wQ p l c from (Free.of O3'.out).old Y6.out)
      have F4 := Lib.hid (show Free wr.heap.size wQ q r d from (Free.of O4'.out).old Y6.out)
      have XX := Lib.hid (Y3.out.trans Y6.out)
      have RQ := Lib.hid (rowE Y6.out R3.out)
      have CS := Lib.hid (spoilF_calls F3.out (by omega))
      obtain ⟨i1, i2, i3, i4⟩ := row2_cells RQ.out
      go_wp2_with fail
      refine CS.out.mono ?_
      rintro e wS ⟨rfl, tt⟩
      have T := Lib.hid tt
      have RS := Lib.hid (tt.row O3.out (Nat.le_refl _) RQ.out)
      have XS := Lib.hid (Free.ext F3.out XX.out (Nat.le_refl _) tt)
      have F5 := Lib.hid (Free.next F4.out tt AP.out)
      clear tt CS i1 i2 i3 i4
      obtain ⟨i1, i2, i3, i4⟩ := row2_cells RS.out
      have CS := Lib.hid (spoilF_calls F5.out (by omega))
      go_wp2_with fail
      refine CS.out.mono ?_
      rintro e wT ⟨rfl, tt⟩
      have XT := Lib.hid (Free.ext F5.out XS.out (Nat.le_refl _) tt)
      clear tt CS i1 i2 i3 i4
      go_wp2_with fail
      go_roundw
      case rel => exact ⟨k + 1, by omega, by go_num, Ext.trans D2.out XT.out⟩
      case measure => simp only [RowKit.intOf]; omega

end Go.Proofs.YtnfjfgfkeigkiaaGreatDoor
