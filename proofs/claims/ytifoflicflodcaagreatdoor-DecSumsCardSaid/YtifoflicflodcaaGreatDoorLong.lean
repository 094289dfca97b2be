/- nat.long: a quotient by two limbs or more. -/
import Derived.Test.YtifoflicflodcaaGreatDoorLong0
import Derived.BigRegion
import Derived.StillTailTactics
namespace Go.Proofs.YtifoflicflodcaaGreatDoor
open Go.RowKit

theorem Own.some_ {B : Nat} {w : World} {a : Option Addr} {n c : Nat} {xs : List Nat} (h : Own B w a n c xs) (hn : 0 < n) : ∃ b off, a = some ⟨b, off, none⟩ ∧ B ≤ b ∧ b < w.heap.size := by
  rcases h.sl.at_ with ⟨h0, _⟩ | ⟨b, off, h0, _⟩
  · omega
  · subst h0
    have := h.ge b rfl
    exact ⟨b, off, rfl, this.1, this.2⟩
theorem Own.ne {B1 B2 : Nat} {w1 w2 : World} {a b : Option Addr} {n c m d : Nat} {xs ys : List Nat} (h : Own B1 w1 a n c xs) (hn : 0 < n) (k : Own B2 w2 b m d ys) (hm : 0 < m) (hB : w1.heap.size ≤ B2) : blk b ≠ blk a := by
  obtain ⟨b1, o1, rfl, _, h2⟩ := h.some_ hn
  obtain ⟨b2, o2, rfl, h3, _⟩ := k.some_ hm
  intro e
  have : b2 = b1 := Option.some.inj e
  omega

/-- What the loop keeps. -/
def LongRel (B : Nat) (w : World) (ro oo bo : Option Addr) (A n D : Nat) (R0 bs : List Nat) (iv : Value) (wr : World) : Prop :=
  ∃ (k : Nat) (rs os : List Nat), k ≤ A - n + 1 ∧ iv = .int .i64 ((k : Int) - 1) ∧ Own B wr ro (A + 1) (A + 1) rs ∧ Own B wr oo (A - n + 1) (A - n + 1) os ∧ Own B wr bo n n bs ∧ Below B w wr ∧
    rs.take k = R0.take k ∧ nv B64 (rs.drop k) < D ∧ nv B64 (os.drop k) * D + nv B64 (rs.drop k) = nv B64 (R0.drop k)

theorem long_fin {O R X Y P : Nat} (hP : 0 < P) (h : O * (Y * P) + R = X * P) (hr : R < Y * P) : O = X / Y ∧ R / P = X % Y := by
  have h1 := div_unique (b := Y * P) (q := O) (r := R) (a := X * P) (by rw [← h, Nat.mul_comm]) hr
  rw [Nat.mul_div_mul_right _ _ hP, Nat.mul_mod_mul_right] at h1
  exact ⟨h1.1, by rw [h1.2, Nat.mul_div_cancel _ hP]⟩

/-- The quotient and the rest, each in a block of its own. -/
def LongRes (w : World) (A X Y : Nat) (e : Ending) (w' : World) : Prop :=
  ∃ a1 c1 L1 a2 c2 L2, e = .returned (.tuple #[.slice a1 L1 c1, .slice a2 L2 c2]) ∧ Own w.heap.size w' a1 L1 c1 (lim (X / Y)) ∧ Own w.heap.size w' a2 L2 c2 (lim (X % Y)) ∧ Ext w w' ∧ L1 ≤ A ∧ L2 ≤ A + 1 ∧ (L1 = 0 ∨ L2 = 0 ∨ blk a1 ≠ blk a2)

set_option maxHeartbeats 8000000 in
set_option maxRecDepth 100000 in
theorem long_calls {a b : Option Addr} {A n c d : Nat} {us vs : List Nat} {w : World} (ha : Sl w a A c us) (hb : Sl w b n d vs) (hA : A ≤ 900000000) (hn : 2 ≤ n) (hnA : n ≤ A) (htop : vs.getD (n - 1) 0 ≠ 0) :
    Calls Tryz.prog 80 #[.slice a A c, .slice b n d] w (LongRes w A (val us) (val vs)) := by
  obtain ⟨i0, hi, hz0, hs, hby⟩ := info_parts info64
  have H1 := Lib.hid hi; have H2 := Lib.hid hz0; have H3 := Lib.hid hs; have H4 := Lib.hid hby
  clear hi hz0 hs hby
  obtain ⟨bb, ob, hixb, hcb, -⟩ := hb.ix (P := Tryz.prog) Tryz.underlying23 H1.out H3.out
  have x1 := hixb (n - 1) (by omega)
  have x2 := hcb (n - 1) (by omega)
  rw [show ((n - 1 : Nat) : Int) = (n : Int) - 1 by omega] at x1
  have q1 := hb.bd.getD B64_pos (n - 1)
  clear hixb hcb
  obtain ⟨v, hv⟩ : ∃ v, vs.getD (n - 1) 0 = v := ⟨_, rfl⟩
  rw [hv] at x2 q1 htop
  have HVV := Lib.hid hv
  have CL := Lib.hid (fun w => lead_calls v q1 w)
  have hs := lead_lt htop
  have HT := Lib.hid (lead_top htop q1)
  generalize lead v = s at *
  have HTOP := Lib.hid htop
  have CA := Lib.hid (left_calls ha (by omega) s hs)
  clear hv htop
  have hbig1 := ha.big
  have hbig2 := hb.big
  have hcap1 := ha.cap
  have hcap2 := hb.cap
  go_enter Tryz.func80, Tryz.ntmps80
  go_wp2_with fail
  refine (CL.out _).mono ?_
  rintro e w' ⟨rfl, rfl⟩
  go_wp2_with fail
  refine CA.out.mono ?_
  rintro e w1 ⟨ro, R0, hR0, rfl, hro, hext1⟩
  go_wp2_with fail
  refine (left_calls (hb.old hext1) (by omega) s hs).mono ?_
  rintro e w2 ⟨bo, bs', hbs, rfl, hbo', hext2⟩
  have hsl := sliceAt_head (P := Tryz.prog) Tryz.underlying23 H1.out bo (n + 1) (n + 1) n (by omega)
  have HR0 := Lib.hid hR0
  have HBS := Lib.hid hbs
  clear hR0 hbs
  go_wp2_with (at_make; refine make_sl _ rfl _ _ _ rfl _ _ Tryz.underlying23 H1.out H2.out H3.out H4.out _ _ rfl rfl (A - n + 1) (by omega) (by omega) (by omega) ?_)
  intro oo w3 hoo hext3
  clear hsl x1 x2
  have hbo := (hbo'.head n n (by omega) (Nat.le_refl _) (by omega)).old hext3
  have hro2 := (hro.old hext2).old hext3
  have hN1 := hro.ne (by omega) hbo' (by omega) (Nat.le_refl _)
  have hN2 := hbo'.ne (by omega) hoo (by omega) (Nat.le_refl _)
  have hN3 := (hro.old hext2).ne (by omega) hoo (by omega) (Nat.le_refl _)
  have HN1 := Lib.hid hN1; have HN2 := Lib.hid hN2; have HN3 := Lib.hid hN3
  clear hN1 hN2 hN3
  have hset := long_setup ha.len hb.len ha.bd hb.bd hro.sl.bd hro.sl.len hn hnA HVV.out HTOP.out hs HT.out.1 HR0.out
  have hDval : nv B64 (bs'.take n) = val vs * 2 ^ s := by
    rw [nv_take_of_lt (by have := hset.1; rw [← HBS.out] at this; exact this)]; exact HBS.out
  have hRL := hro.sl.len
  have hBL : (bs'.take n).length = n := by rw [List.length_take, hbo'.sl.len]; omega
  generalize bs'.take n = bs at *
  obtain ⟨D, hD⟩ : ∃ D, val vs * 2 ^ s = D := ⟨_, rfl⟩
  rw [hD] at hset hDval
  have HD := Lib.hid hD; have HSET := Lib.hid hset; have HDV := Lib.hid hDval; have HRL := Lib.hid hRL; have HBL := Lib.hid hBL
  have hsz1 := hext1.size; have hsz2 := hext2.size; have hsz3 := hext3.size
  have hbel : Below w.heap.size w w3 := (hext1.trans hext2).trans hext3
  clear hD hset hDval hRL hBL
  go_wp2_with fail
  go_loopw [11] (fun iv wr => LongRel w.heap.size w ro oo bo A n D R0 bs iv wr) (fun iv _ => (intOf iv + 1).toNat)
  case atStart =>
    refine ⟨A - n + 1, R0, _, Nat.le_refl _, by go_num, hro2, hoo.mono (by omega), hbo.mono (by omega), hbel, rfl, HSET.out.2.2, ?_⟩
    rw [List.drop_of_length_le (by simp)]; simp
  case round =>
    obtain ⟨k, rs, os, hk, rfl, hr, ho, hbw, hbe, htk, hrem, hval⟩ := hrel
    have HTK := Lib.hid htk; have HREM := Lib.hid hrem; have HV := Lib.hid hval
    clear htk hrem hval
    by_cases hk0 : k = 0
    · subst hk0
      have hfin := long_fin (O := val os) (R := val rs) (X := val us) (Y := val vs) (P := 2 ^ s) (Nat.two_pow_pos s) (by have := HV.out; simp only [List.drop_zero] at this; rw [← HD.out] at this; rw [← HR0.out]; exact this) (by have := HREM.out; simp only [List.drop_zero] at this; rw [← HD.out] at this; exact this)
      have HF1 := Lib.hid hfin.1
      have HF2 := Lib.hid hfin.2
      clear hfin
      have CT1 := Lib.hid (trimmed_calls ho.sl)
      have CT2 := Lib.hid (trimmed_calls hr.sl)
      have hrl := hr.sl.trimmed_len
      have hol := ho.sl.trimmed_len
      have CR := Lib.hid (right_calls hr.trimmed (by omega) s hs)
      go_wp2_with fail
      refine CT1.out.mono ?_
      rintro e w' ⟨rfl, rfl⟩
      go_wp2_with fail
      refine CT2.out.mono ?_
      rintro e w' ⟨rfl, rfl⟩
      go_wp2_with fail
      refine CR.out.mono ?_
      rintro e w7 ⟨rfl, hown7, hgr7⟩
      go_wp2_with fail
      go_ret2
      have ho7 := ho.trimmed.grown hgr7 (.inr HN3.out)
      rw [HF1.out] at ho7 hol
      rw [val_lim, HF2.out] at hown7
      have hle7 : (lim (val us % val vs)).length ≤ A + 1 := by
        refine Nat.le_trans (digs_len_mono B64_two (Nat.mod_le _ _)) ?_
        have := ha.trimmed_len
        exact Nat.le_trans this (by omega)
      refine ⟨oo, _, _, ro, _, _, ?_, ho7, hown7, ?_, by omega, hle7, .inr (.inr HN3.out)⟩
      · rw [val_lim, HF1.out, HF2.out]; rfl
      · exact Below.grown hbe hgr7 hbe.size (fun k hk => (hr.ge k hk).1)
    · obtain ⟨j, rfl⟩ : ∃ j, k = j + 1 := ⟨k - 1, by omega⟩
      rw [show ((j + 1 : Nat) : Int) - 1 = (j : Int) by omega]
      have hj0 : (0 : Int) ≤ (j : Int) := by omega
      have HDG := Lib.hid (long_digit hr.sl.len HBL.out hr.sl.bd hbw.sl.bd hn (by omega : j + n ≤ A) HDV.out HSET.out.1 HSET.out.2.1 HREM.out)
      obtain ⟨br, orr, hixr, hcr, har⟩ := hr.sl.ix (P := Tryz.prog) Tryz.underlying23 H1.out H3.out
      obtain ⟨bb2, ob2, hixb, hcb, hab⟩ := hbw.sl.ix (P := Tryz.prog) Tryz.underlying23 H1.out H3.out
      have x1 := hixr (j + n) (by omega)
      have x2 := hcr (j + n) (by omega)
      have x3 := hixr (j + n - 1) (by omega)
      have x4 := hcr (j + n - 1) (by omega)
      have x5 := hixr (j + n - 2) (by omega)
      have x6 := hcr (j + n - 2) (by omega)
      have x7 := hixb (n - 1) (by omega)
      have x8 := hcb (n - 1) (by omega)
      have x9 := hixb (n - 2) (by omega)
      have x10 := hcb (n - 2) (by omega)
      rw [show ((j + n : Nat) : Int) = (j : Int) + (n : Int) by omega] at x1
      rw [show ((j + n - 1 : Nat) : Int) = (j : Int) + (n : Int) - 1 by omega] at x3
      rw [show ((j + n - 2 : Nat) : Int) = (j : Int) + (n : Int) - 2 by omega] at x5
      rw [show ((n - 1 : Nat) : Int) = (n : Int) - 1 by omega] at x7
      rw [show ((n - 2 : Nat) : Int) = (n : Int) - 2 by omega] at x9
      have p0 := hr.sl.bd.getD B64_pos (j + n)
      have p1 := hr.sl.bd.getD B64_pos (j + n - 1)
      have p2 := hr.sl.bd.getD B64_pos (j + n - 2)
      have p3 := hbw.sl.bd.getD B64_pos (n - 1)
      have p4 := hbw.sl.bd.getD B64_pos (n - 2)
      clear hixr hcr hixb hcb har hab hk0
      obtain ⟨t0, ht0⟩ : ∃ t0, rs.getD (j + n) 0 = t0 := ⟨_, rfl⟩
      obtain ⟨t1, ht1⟩ : ∃ t1, rs.getD (j + n - 1) 0 = t1 := ⟨_, rfl⟩
      obtain ⟨t2, ht2⟩ : ∃ t2, rs.getD (j + n - 2) 0 = t2 := ⟨_, rfl⟩
      obtain ⟨b0, hb0⟩ : ∃ b0, bs.getD (n - 1) 0 = b0 := ⟨_, rfl⟩
      obtain ⟨b1, hb1⟩ : ∃ b1, bs.getD (n - 2) 0 = b1 := ⟨_, rfl⟩
      rw [ht0] at x2 p0 HDG
      rw [ht1] at x4 p1 HDG
      rw [ht2] at x6 p2 HDG
      rw [hb0] at x8 p3 HDG
      rw [hb1] at x10 p4 HDG
      clear ht0 ht1 ht2 hb0 hb1
      have hbr : br < wr.heap.size := World.block_lt_of_cell? wr _ x2
      have hbb : bb2 < wr.heap.size := World.block_lt_of_cell? wr _ x8
      go_wp2_with fail
      have HGG := Lib.hid (guess_good (S := nv B64 (rs.drop j)) (Y := D) (n := n - 2) rfl HSET.out.2.1 HDG.out.2.1)
      have HT3 := Lib.hid HDG.out.2.2.1
      have HV2 := Lib.hid HDG.out.2.2.2.1
      have HDp := Lib.hid (show 0 < D from Nat.lt_of_le_of_lt (Nat.zero_le _) HREM.out)
      obtain ⟨q, hq⟩ : ∃ q, nv B64 (rs.drop j) / D = q := ⟨_, rfl⟩
      rw [hq] at HGG
      have HQ := Lib.hid hq
      obtain ⟨G, hG⟩ : ∃ G, guessG (nv B64 (rs.drop j) / B64 ^ (n - 2)) (D / B64 ^ (n - 2)) = G := ⟨_, rfl⟩
      rw [hG] at HGG
      have hGb := HGG.out.2.2
      have hqb : q < B64 := by have := HGG.out; omega
      have cg := fun w => guess_calls t0 t1 t2 b0 b1 p1 p2 p3 p4 HDG.out.2.2.2.2.1 HDG.out.2.2.2.2.2.1 w
      rw [HT3.out, HV2.out, hG] at cg
      have CG := Lib.hid cg
      clear hq hG cg
      obtain ⟨ra, hra⟩ : ∃ ra, ro.map (·.add j) = ra := ⟨_, rfl⟩
      have HBLK : Hid (blk ra = blk ro) := by rw [← hra]; exact map_add_blk ro j
      have hsl := sliceAt_mid (P := Tryz.prog) Tryz.underlying23 H1.out H3.out ro (A + 1) (A + 1) j (j + n + 1) (by omega) (by omega)
      rw [hra, show j + n + 1 - j = n + 1 by omega, show ((j + n + 1 : Nat) : Int) = (j : Int) + (n : Int) + 1 by omega] at hsl
      have HRA := Lib.hid hra
      clear hra
      go_wp2_with fail
      go_region
      go_wp2_with fail
      obtain ⟨W1, hW1⟩ : ∃ W1, (wr.alloc (.cells #[.int .u64 (t0 : Int), .int .u64 (t1 : Int), .int .u64 (t2 : Int)] 129)).drew = W1 := ⟨_, rfl⟩
      have hext1 : Ext wr W1 := by rw [← hW1]; exact ((Ext.refl wr).alloc _).drew
      have hrow : W1.heap[wr.heap.size]? = some (.cells #[.int .u64 (t0 : Int), .int .u64 (t1 : Int), .int .u64 (t2 : Int)] 129 (0, 0)) := by rw [← hW1]; exact heap_alloc_new wr _
      have z0 : W1.cell? ⟨wr.heap.size, 0, none⟩ = some (.int .u64 (t0 : Int)) := by rw [cell_of_row _ _ _ _ _ _ hrow]; rfl
      have z1 : W1.cell? ⟨wr.heap.size, 1, none⟩ = some (.int .u64 (t1 : Int)) := by rw [cell_of_row _ _ _ _ _ _ hrow]; rfl
      have z2 : W1.cell? ⟨wr.heap.size, 2, none⟩ = some (.int .u64 (t2 : Int)) := by rw [cell_of_row _ _ _ _ _ _ hrow]; rfl
      have z3 := hext1.cell x8
      have z4 := hext1.cell x10
      have hS : ∀ w', Ext W1 w' → w'.cell? ⟨wr.heap.size, 0, none⟩ = some (.int .u64 (t0 : Int)) ∧ w'.cell? ⟨wr.heap.size, 1, none⟩ = some (.int .u64 (t1 : Int)) ∧ w'.cell? ⟨wr.heap.size, 2, none⟩ = some (.int .u64 (t2 : Int)) ∧
          w'.cell? ⟨bb2, ob2 + (n - 1), none⟩ = some (.int .u64 (b0 : Int)) ∧ w'.cell? ⟨bb2, ob2 + (n - 2), none⟩ = some (.int .u64 (b1 : Int)) :=
        fun w' h => ⟨h.cell z0, h.cell z1, h.cell z2, h.cell z3, h.cell z4⟩
      have HS1 := Lib.hid hS
      rw [hW1]
      have HW1 := Lib.hid hW1
      clear hS hW1 hrow z0 z1 z2 z3 z4
      have hwr1 : IntKind.i64.wrap ((n : Int) - 1) = (n : Int) - 1 := IntWalk.i64_in _ (by omega)
      have hwr2 : IntKind.i64.wrap ((n : Int) - 2) = (n : Int) - 2 := IntWalk.i64_in _ (by omega)
      go_region_held3 (fun w' => w'.cell? ⟨wr.heap.size, 0, none⟩ = some (.int .u64 (t0 : Int)) ∧ w'.cell? ⟨wr.heap.size, 1, none⟩ = some (.int .u64 (t1 : Int)) ∧ w'.cell? ⟨wr.heap.size, 2, none⟩ = some (.int .u64 (t2 : Int)) ∧
          w'.cell? ⟨bb2, ob2 + (n - 1), none⟩ = some (.int .u64 (b0 : Int)) ∧ w'.cell? ⟨bb2, ob2 + (n - 2), none⟩ = some (.int .u64 (b1 : Int)))
        (first | exact HS1.out _ (Ext.refl _) | exact HS1.out _ ((Ext.refl _).drew) | exact HS1.out _ (((Ext.refl _).drew).trans (by assumption)))
        (first | (go_at_call 110; refine (CG.out _).mono ?_; rintro e w5 ⟨rfl, hext5⟩))
      clear hwr1 hwr2
      go_wp2_with fail
      have hextr : Ext wr w5 := hext1.drew.trans hext5
      have hr5 := hr.old hextr
      have ho5 := ho.old hextr
      have hb5 := hbw.old hextr
      have hbe5 : Below w.heap.size w w5 := Below.trans hbe (Below.mono hextr hbe.size)
      have hseg := hr5.sub j (n + 1) (n + 1) (by omega) (Nat.le_refl _) (by omega)
      rw [HRA.out] at hseg
      have HSEG := Lib.hid HDG.out.1
      have hapt : n = 0 ∨ blk ra = none ∨ blk bo ≠ blk ra := .inr (.inr (by rw [HBLK.out]; exact HN1.out))
      have HAP := Lib.hid hapt
      clear x1 x2 x3 x4 x5 x6 x7 x8 x9 x10 hapt hbr hbb
      by_cases hle : G * D ≤ nv B64 (rs.drop j)
      · have hGq : G = q := by
          have h1 := HGG.out.1
          have h2 : G ≤ q := by rw [← HQ.out]; exact (Nat.le_div_iff_mul_le HDp.out).2 hle
          omega
        subst hGq
        have CT := Lib.hid (take_yes hseg hb5.sl HAP.out (by omega) G hGb (by show G * nv B64 bs ≤ nv B64 _; rw [HDV.out, HSEG.out]; exact hle))
        clear hle
        go_wp2_with fail
        refine CT.out.mono ?_
        rintro e w6 ⟨ns, rfl, hns, hown6, hgr6, honly6⟩
        have HNS : Hid (nv B64 ns = nv B64 (rs.drop j) - G * D) := by
          have h1 : nv B64 ns = nv B64 ((rs.drop j).take (n + 1)) - G * nv B64 bs := hns
          rw [HDV.out, HSEG.out] at h1; exact h1
        clear hns
        have hr6 := (hr5.splice j (n + 1) (by omega) (by omega) (HRA.out.symm ▸ hown6) (HRA.out.symm ▸ honly6))
        have hgr6' : w5.grownBy w6 (blk ro) := by rw [← HBLK.out]; exact hgr6
        have ho6 := ho5.grown hgr6' (.inr HN3.out)
        have hb6 := hb5.grown hgr6' (.inr HN1.out)
        have hbe6 : Below w.heap.size w w6 := Below.grown hbe5 hgr6' hbe5.size (fun k hk => (hr5.ge k hk).1)
        obtain ⟨bo6, oo6, hixo, hco, hao⟩ := ho6.sl.ix (P := Tryz.prog) Tryz.underlying23 H1.out H3.out
        have y1 := hixo j (by omega)
        have y2 := hco j (by omega)
        have y3 := ho6.free (hao (by omega)) (oo6 + j)
        have HO6 := Lib.hid (hao (by omega))
        clear hixo hco hao
        generalize os.getD j 0 = z at *
        have HS6 := Lib.hid (ho6.store HO6.out j G (by omega) hqb)
        have HNX := Lib.hid (long_next (m := n + 1) (os := os) (O := nv B64 (os.drop (j + 1))) rfl HNS.out HQ.out HDp.out (by have := HDG.out.2.2.2.2.2.2; exact this) (by rw [ho.sl.len]; omega) rfl HTK.out (by rw [hr.sl.len]; omega) HV.out)
        clear hsl
        go_wp2_with fail
        go_roundw
        case rel =>
          refine ⟨j, _, os.set j G, by omega, by go_num, hr6.grown HS6.out.2 (.inr (Ne.symm HN3.out)), HS6.out.1, hb6.grown HS6.out.2 (.inr (Ne.symm HN2.out)), ?_, HNX.out.1, HNX.out.2.1, HNX.out.2.2⟩
          exact Below.grown hbe6 HS6.out.2 hbe6.size (fun k hk => (ho6.ge k hk).1)
        case measure => simp [intOf]
      · have hGq : G = q + 1 := by
          have h1 := HGG.out
          have h2 : ¬ G ≤ q := by
            intro h
            apply hle
            have h3 := Nat.mul_le_mul_right D h
            have h4 := Nat.div_mul_le_self (nv B64 (rs.drop j)) D
            rw [HQ.out] at h4
            omega
          omega
        have hq2 : q * D ≤ nv B64 (rs.drop j) := by rw [← HQ.out]; exact Nat.div_mul_le_self _ _
        have hGI : (G : Int) - 1 = (q : Int) := by omega
        have hqI : (q : Int) < 18446744073709551616 := by have := B64_eq; omega
        have hG1 : (1 : Int) ≤ (G : Int) := by omega
        have CT := Lib.hid (take_no hseg hb5.sl HAP.out (by omega) q G hGq hGb (by show nv B64 _ < G * nv B64 bs; rw [HDV.out, HSEG.out]; omega) (by show q * nv B64 bs ≤ nv B64 _; rw [HDV.out, HSEG.out]; exact hq2))
        clear hle hGq hq2
        go_wp2_with fail
        refine CT.out.mono ?_
        rintro e w6 ⟨ns, rfl, hns, hown6, hgr6, honly6⟩
        have HNS : Hid (nv B64 ns = nv B64 (rs.drop j) - q * D) := by
          have h1 : nv B64 ns = nv B64 ((rs.drop j).take (n + 1)) - q * nv B64 bs := hns
          rw [HDV.out, HSEG.out] at h1; exact h1
        clear hns
        have hr6 := (hr5.splice j (n + 1) (by omega) (by omega) (HRA.out.symm ▸ hown6) (HRA.out.symm ▸ honly6))
        have hgr6' : w5.grownBy w6 (blk ro) := by rw [← HBLK.out]; exact hgr6
        have ho6 := ho5.grown hgr6' (.inr HN3.out)
        have hb6 := hb5.grown hgr6' (.inr HN1.out)
        have hbe6 : Below w.heap.size w w6 := Below.grown hbe5 hgr6' hbe5.size (fun k hk => (hr5.ge k hk).1)
        obtain ⟨bo6, oo6, hixo, hco, hao⟩ := ho6.sl.ix (P := Tryz.prog) Tryz.underlying23 H1.out H3.out
        have y1 := hixo j (by omega)
        have y2 := hco j (by omega)
        have y3 := ho6.free (hao (by omega)) (oo6 + j)
        have HO6 := Lib.hid (hao (by omega))
        clear hixo hco hao
        generalize os.getD j 0 = z at *
        have HS6 := Lib.hid (ho6.store HO6.out j q (by omega) hqb)
        have HNX := Lib.hid (long_next (m := n + 1) (os := os) (O := nv B64 (os.drop (j + 1))) rfl HNS.out HQ.out HDp.out (by have := HDG.out.2.2.2.2.2.2; exact this) (by rw [ho.sl.len]; omega) rfl HTK.out (by rw [hr.sl.len]; omega) HV.out)
        clear hsl
        go_wp2_with fail
        go_roundw
        case rel =>
          refine ⟨j, _, os.set j q, by omega, by go_num, hr6.grown HS6.out.2 (.inr (Ne.symm HN3.out)), HS6.out.1, hb6.grown HS6.out.2 (.inr (Ne.symm HN2.out)), ?_, HNX.out.1, HNX.out.2.1, HNX.out.2.2⟩
          exact Below.grown hbe6 HS6.out.2 hbe6.size (fun k hk => (ho6.ge k hk).1)
        case measure => simp [intOf]

end Go.Proofs.YtifoflicflodcaaGreatDoor
