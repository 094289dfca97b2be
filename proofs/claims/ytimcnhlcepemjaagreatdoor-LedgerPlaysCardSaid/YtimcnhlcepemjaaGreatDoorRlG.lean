
/- gleanref24.Give. -/
import Derived.Test.YtimcnhlcepemjaaGreatDoorMK
import Derived.Test.YtimcnhlcepemjaaGreatDoorMid
namespace Go.Proofs.YtimcnhlcepemjaaGreatDoor
open Go.RowKit

def rGive (X t : Nat) (s : Stk) : Stk := ⟨s.h, addR s.o (byR (mulR (decQ X) s.h) 1 t), s.p, s.k⟩
theorem sz_by {q : Nat × Nat} {n d : Nat} (hn : n < B64) (hd : d < B64) : sz (byR q n d) ≤ sz q + 1 := by
  unfold byR
  split
  · rw [sz_one]; omega
  · have h1 := sz_mul q (rN n d, rD n d)
    have h2 := sz_byf hn hd
    omega
theorem RLed.glt {w : World} {lp g : Nat} {o : Option Addr} {n c : Nat} {es : List Ent} (h : RLed w lp (some g) o n c es) : g < w.heap.size := by
  rcases h.at_ with ⟨h2, -⟩ | ⟨g', h2, h3, h4⟩
  · cases h2
  · cases h2
    obtain ⟨cur, h5, -⟩ := h4.ex
    exact (Array.getElem?_eq_some_iff.1 h5).1

set_option maxHeartbeats 8000000 in
set_option maxRecDepth 100000 in
theorem rlgive_calls {w : World} {lp : Nat} {gb : Option Nat} {o : Option Addr} {n c : Nat} {es : List Ent} (h : RLed w lp gb o n c es) {v t : Nat} (ht : t < B64) {a0 : Option Addr} {m0 c0 : Nat} {xs0 : List Nat} (hx : Sl w a0 m0 c0 xs0) (hm : m0 ≤ 1000) (hH : ∀ e ∈ es, sz e.s.h ≤ 4000 ∧ sz e.s.o ≤ 10000) :
    Calls Tryz.prog 13 #[.pointer (some ⟨lp, 0, none⟩), .int .u64 (v : Int), DecV a0 m0 c0, .int .u64 (t : Int)] w fun e w' => e = .returned (.tuple #[]) ∧ RMod w lp gb o n c (rmap (rGive (val xs0) t) v es) w' := by
  have hbig : (n : Int) ≤ 9223372036854775807 := by have := h.big; have := h.le; omega
  obtain ⟨X0, hX0⟩ : ∃ X, w.alloc (.cells #[.slice a0 m0 c0] 35) = X := ⟨_, rfl⟩
  have E0 : Ext w X0 := by rw [← hX0]; exact (Ext.refl w).alloc _
  have hr0 : X0.heap[w.heap.size]? = some (.cells #[.slice a0 m0 c0] 35 (0, 0)) := by rw [← hX0]; exact heap_alloc_new w _
  have HX0 := Lib.hid hX0; have HE0 := Lib.hid E0; have HR0 := Lib.hid hr0; have HSX := Lib.hid (hx.old E0); have HM := Lib.hid hm; have HLX := Lib.hid (ln_val hx)
  have HL := Lib.hid h; have HT := Lib.hid ht; have HH := Lib.hid hH
  have HST := Lib.hid (show RModRel X0 lp gb o n c v (rGive (val xs0) t) es (.int .i64 0) X0 from ⟨0, Nat.zero_le _, rfl, by rw [rpart_zero]; exact h.lk E0.lk, (Ext.refl X0).by_ _, Ln.refl X0⟩)
  have k0 : X0.cell? ⟨lp, 0, none⟩ = some (.slice o n c) := drow_cell (h.lk E0.lk).row
  clear h ht hH hX0 E0 hr0 hx hm
  go_enter Tryz.func13, Tryz.ntmps13
  go_wp2_with (rw [HX0.out])
  clear k0
  go_loopw [8] (fun iv wr => RModRel X0 lp gb o n c v (rGive (val xs0) t) es iv wr) (fun iv _ => n - (RowKit.intOf iv).toNat)
  case atStart => exact HST.out
  case round =>
    obtain ⟨k, hk, rfl, hled, hgr, hln⟩ := hrel
    have k0 : wr.cell? ⟨lp, 0, none⟩ = some (.slice o n c) := drow_cell hled.row
    have HLR := Lib.hid hled; have HGR := Lib.hid hgr; have HLN := Lib.hid hln
    clear hled hgr hln
    by_cases hkn : k = n
    · have hge : ¬ ((k : Int) < (n : Int)) := by omega
      have HW := Lib.hid (show rpart (rGive (val xs0) t) v k es = rmap (rGive (val xs0) t) v es by rw [hkn, ← HL.out.len]; exact rpart_all _ _ _)
      clear hkn hk
      go_wp2_with fail
      go_end0
      exact ⟨rfl, by rw [← HW.out]; exact HLR.out, grownBy_trans (HE0.out.by_ _) HGR.out, HE0.out.lk.ln.trans HLN.out⟩
    · have hlt : (k : Int) < (n : Int) := by omega
      obtain ⟨e, he⟩ : ∃ e, es[k]? = some e := ⟨_, List.getElem?_eq_getElem (by rw [HL.out.len]; omega)⟩
      have her := rpart_at (f := rGive (val xs0) t) (v := v) he
      obtain ⟨g, e', rfl, ho, he', hrr, hix⟩ := HLR.out.ix (k := k) (by omega)
      rw [her] at he'
      cases he'
      obtain ⟨hv, hd, a1, m1, c1, b1, n1, d1, a2, m2, c2, b2, n2, d2, h6, x0, x1, x2, x3, x4, x5, x6, x7⟩ := hrr.look her
      have HSE := Lib.hid (HH.out e (List.mem_of_getElem? he)); have H6 := Lib.hid h6; have HRR := Lib.hid hrr; have HER := Lib.hid her
      have HTK := Lib.hid (rpart_step (f := rGive (val xs0) t) (v := v) he)
      have hgl := HL.out.glt
      have kb : wr.cell? ⟨w.heap.size, 0, none⟩ = some (.slice a0 m0 c0) := drow_cell (by rw [HGR.out.block _ (Array.getElem?_eq_some_iff.1 HR0.out).1 (fun e => by have := Option.some.inj e; omega)]; exact HR0.out)
      have HSW := Lib.hid (HSX.out.ln HLN.out)
      clear hrr he her hv hd h6 ho hgl
      by_cases e1 : e.v = v
      · have g1 : ((e.v : Int) == (v : Int)) = true := by rw [beq_iff_eq]; omega
        have g1' : (e.v : Int) = (v : Int) := by omega
        have hT := HTK.out
        rw [if_pos e1] at hT
        have HT2 := Lib.hid hT
        clear e1 hT
        go_wp2_with fail
        have HZ1 := Lib.hid (show sz (decQ (val xs0)) ≤ 1010 by have a := sz_dec (val xs0); have b := HLX.out; have d := HM.out; omega)
        obtain ⟨q1, hq1⟩ : ∃ x, decQ (val xs0) = x := ⟨_, rfl⟩
        obtain ⟨q2, hq2⟩ : ∃ x, mulR q1 e.s.h = x := ⟨_, rfl⟩
        obtain ⟨q3, hq3⟩ : ∃ x, byR q2 1 t = x := ⟨_, rfl⟩
        obtain ⟨q4, hq4⟩ : ∃ x, addR e.s.o q3 = x := ⟨_, rfl⟩
        have HZQ1 := Lib.hid (show sz q1 ≤ 1010 by rw [← hq1]; exact HZ1.out)
        have HZQ2 := Lib.hid (show sz q2 ≤ 6000 by rw [← hq2]; have a := sz_mul q1 e.s.h; have b := HZQ1.out; have d := HSE.out.1; omega)
        have HZQ3 := Lib.hid (show sz q3 ≤ 6001 by rw [← hq3]; have a := sz_by (q := q2) (n := 1) (by decide) HT.out; have b := HZQ2.out; omega)
        have HQ1 := Lib.hid hq1; have HQ2 := Lib.hid hq2; have HQ3 := Lib.hid hq3; have HQ4 := Lib.hid hq4
        clear hq1 hq2 hq3 hq4
        have HSS := Lib.hid (fun w' (h : Ext wr w') => (show w'.cell? ⟨lp, 0, none⟩ = some (.slice o n c) ∧ w'.cell? ⟨g, 8 * k + 2, none⟩ = some (.slice a1 m1 c1) ∧ w'.cell? ⟨g, 8 * k + 3, none⟩ = some (.slice b1 n1 d1) ∧ w'.cell? ⟨w.heap.size, 0, none⟩ = some (.slice a0 m0 c0) from ⟨h.cell k0, h.cell x2, h.cell x3, h.cell kb⟩))
        have H45 := Lib.hid (fun w' (h : Ext wr w') => (show w'.cell? ⟨g, 8 * k + 4, none⟩ = some (.slice a2 m2 c2) ∧ w'.cell? ⟨g, 8 * k + 5, none⟩ = some (.slice b2 n2 d2) from ⟨h.cell x4, h.cell x5⟩))
        have HGL := Lib.hid HL.out.glt
        go_upto_region 5 with (fail)
        obtain ⟨u0, hu0⟩ : ∃ u, wr.drew = u := ⟨_, rfl⟩
        have HE0_ := Lib.hid (show Ext wr u0 by rw [← hu0]; exact (Ext.refl _).drew)
        refine wp_region_held_drew (S := fun w' => w'.cell? ⟨lp, 0, none⟩ = some (.slice o n c) ∧ w'.cell? ⟨g, 8 * k + 2, none⟩ = some (.slice a1 m1 c1) ∧ w'.cell? ⟨g, 8 * k + 3, none⟩ = some (.slice b1 n1 d1) ∧ w'.cell? ⟨w.heap.size, 0, none⟩ = some (.slice a0 m0 c0)) (by kernel_rfl) (HSS.out _ (Ext.refl _).drew) (fun hHeld => ?_)
        rw [hu0] at hHeld ⊢
        clear hu0 k0 x2 x3 x4 x5 kb
        refine takeW (i := 0) (v := ?_) rfl (by kernel_rfl) (by kernel_rfl) (by kernel_rfl) (fun _ _ _ h => h) (Or.inl ⟨by rfl, ?_⟩) (by assumption) ?_
        rotate_left
        · (intro wz hSw; (try dsimp only at hSw); go_simp <;> with_reducible rfl)
        try simp only [Act.put, List.setIfInBounds_toArray, List.set_cons_zero, List.set_cons_succ]
        refine takeW (i := 1) (v := ?_) rfl (by kernel_rfl) (by kernel_rfl) (by kernel_rfl) (fun _ _ _ h => h) (Or.inl ⟨by rfl, ?_⟩) (by assumption) ?_
        rotate_left
        · (intro wz hSw; (try dsimp only at hSw); go_simp <;> with_reducible rfl)
        try simp only [Act.put, List.setIfInBounds_toArray, List.set_cons_zero, List.set_cons_succ]
        refine takeW (i := 2) (v := ?_) rfl (by kernel_rfl) (by kernel_rfl) (by kernel_rfl) (fun _ _ _ h => h) (Or.inl ⟨by rfl, ?_⟩) (by assumption) ?_
        rotate_left
        · (intro wz hSw; (try dsimp only at hSw); go_simp <;> with_reducible rfl)
        try simp only [Act.put, List.setIfInBounds_toArray, List.set_cons_zero, List.set_cons_succ]
        refine takeW (i := 3) (v := ?_) rfl (by kernel_rfl) (by kernel_rfl) (by kernel_rfl) (fun _ _ _ h => h) (Or.inl ⟨by rfl, ?_⟩) (by assumption) ?_
        rotate_left
        · (intro wz hSw; (try dsimp only at hSw); go_simp <;> with_reducible rfl)
        try simp only [Act.put, List.setIfInBounds_toArray, List.set_cons_zero, List.set_cons_succ]
        refine takeW (i := 4) (v := ?_) rfl (by kernel_rfl) (by kernel_rfl) (by kernel_rfl) (fun _ _ _ h => h) (Or.inl ⟨by rfl, ?_⟩) (by assumption) ?_
        rotate_left
        · (intro wz hSw; (try dsimp only at hSw); go_simp <;> with_reducible rfl)
        try simp only [Act.put, List.setIfInBounds_toArray, List.set_cons_zero, List.set_cons_succ]
        refine takeW (i := 5) (v := ?_) rfl (by kernel_rfl) (by kernel_rfl) (by kernel_rfl) (fun _ _ _ h => h) (Or.inl ⟨by rfl, ?_⟩) (by assumption) ?_
        rotate_left
        · (intro wz hSw; (try dsimp only at hSw); go_simp <;> with_reducible rfl)
        try simp only [Act.put, List.setIfInBounds_toArray, List.set_cons_zero, List.set_cons_succ]
        refine takeW (i := 6) (v := ?_) rfl (by kernel_rfl) (by kernel_rfl) (by kernel_rfl) (fun _ _ _ h => h) (Or.inl ⟨by rfl, ?_⟩) (by assumption) ?_
        rotate_left
        · (intro wz hSw; (try dsimp only at hSw); go_simp <;> with_reducible rfl)
        try simp only [Act.put, List.setIfInBounds_toArray, List.set_cons_zero, List.set_cons_succ]
        refine takeW (i := 7) (v := ?_) rfl (by kernel_rfl) (by kernel_rfl) (by kernel_rfl) (fun _ _ _ h => h) (Or.inl ⟨by rfl, ?_⟩) (by assumption) ?_
        rotate_left
        · (intro wz hSw; (try dsimp only at hSw); go_simp <;> with_reducible rfl)
        try simp only [Act.put, List.setIfInBounds_toArray, List.set_cons_zero, List.set_cons_succ]
        refine takeW (i := 8) (v := ?_) rfl (by kernel_rfl) (by kernel_rfl) (by kernel_rfl) (fun _ _ _ h => h) (Or.inl ⟨by rfl, ?_⟩) (by assumption) ?_
        rotate_left
        · (intro wz hSw; (try dsimp only at hSw); go_simp <;> with_reducible rfl)
        try simp only [Act.put, List.setIfInBounds_toArray, List.set_cons_zero, List.set_cons_succ]
        refine takeW (i := 9) (v := ?_) rfl (by kernel_rfl) (by kernel_rfl) (by kernel_rfl) (fun _ _ _ h => h) (Or.inl ⟨by rfl, ?_⟩) (by assumption) ?_
        rotate_left
        · (intro wz hSw; (try dsimp only at hSw); go_simp <;> with_reducible rfl)
        try simp only [Act.put, List.setIfInBounds_toArray, List.set_cons_zero, List.set_cons_succ]
        refine takeW (i := 10) (v := ?_) rfl (by kernel_rfl) (by kernel_rfl) (by kernel_rfl) (fun _ _ _ h => h) (Or.inl ⟨by rfl, ?_⟩) (by assumption) ?_
        rotate_left
        · (intro wz hSw; (try dsimp only at hSw); go_simp <;> with_reducible rfl)
        try simp only [Act.put, List.setIfInBounds_toArray, List.set_cons_zero, List.set_cons_succ]
        refine takeW (i := 11) (v := ?_) rfl (by kernel_rfl) (by kernel_rfl) (by kernel_rfl) (fun _ _ _ h => h) (Or.inl ⟨by rfl, ?_⟩) (by assumption) ?_
        rotate_left
        · (intro wz hSw; (try dsimp only at hSw); go_simp <;> with_reducible rfl)
        try simp only [Act.put, List.setIfInBounds_toArray, List.set_cons_zero, List.set_cons_succ]
        refine takeW (i := 13) (v := ?_) rfl (by kernel_rfl) (by kernel_rfl) (by kernel_rfl) (fun _ _ _ h => h) (Or.inl ⟨by rfl, ?_⟩) (by assumption) ?_
        rotate_left
        · (intro wz hSw; (try dsimp only at hSw); go_simp <;> with_reducible rfl)
        try simp only [Act.put, List.setIfInBounds_toArray, List.set_cons_zero, List.set_cons_succ]
        refine takeW (i := 15) (v := ?_) rfl (by kernel_rfl) (by kernel_rfl) (by kernel_rfl) (fun _ _ _ h => h) (Or.inl ⟨by rfl, ?_⟩) (by assumption) ?_
        rotate_left
        · (intro wz hSw; (try dsimp only at hSw); go_simp <;> with_reducible rfl)
        try simp only [Act.put, List.setIfInBounds_toArray, List.set_cons_zero, List.set_cons_succ]
        refine takeW (i := 16) (v := ?_) rfl (by kernel_rfl) (by kernel_rfl) (by kernel_rfl) (fun _ _ _ h => h) (Or.inl ⟨by rfl, ?_⟩) (by assumption) ?_
        rotate_left
        · (intro wz hSw; (try dsimp only at hSw); go_simp <;> with_reducible rfl)
        try simp only [Act.put, List.setIfInBounds_toArray, List.set_cons_zero, List.set_cons_succ]
        refine takeW (i := 17) (v := ?_) rfl (by kernel_rfl) (by kernel_rfl) (by kernel_rfl) (fun _ _ _ h => h) (Or.inl ⟨by rfl, ?_⟩) (by assumption) ?_
        rotate_left
        · (intro wz hSw; (try dsimp only at hSw); go_simp <;> with_reducible rfl)
        try simp only [Act.put, List.setIfInBounds_toArray, List.set_cons_zero, List.set_cons_succ]
        refine takeW (i := 18) (v := ?_) rfl (by kernel_rfl) (by kernel_rfl) (by kernel_rfl) (fun _ _ _ h => h) (Or.inl ⟨by rfl, ?_⟩) (by assumption) ?_
        rotate_left
        · (intro wz hSw; (try dsimp only at hSw); go_simp <;> with_reducible rfl)
        try simp only [Act.put, List.setIfInBounds_toArray, List.set_cons_zero, List.set_cons_succ]
        refine takeW (i := 19) (v := ?_) rfl (by kernel_rfl) (by kernel_rfl) (by kernel_rfl) (fun _ _ _ h => h) (Or.inl ⟨by rfl, ?_⟩) (by assumption) ?_
        rotate_left
        · (intro wz hSw; (try dsimp only at hSw); go_simp <;> with_reducible rfl)
        try simp only [Act.put, List.setIfInBounds_toArray, List.set_cons_zero, List.set_cons_succ]
        refine takeW (i := 20) (v := ?_) rfl (by kernel_rfl) (by kernel_rfl) (by kernel_rfl) (fun _ _ _ h => h) (Or.inl ⟨by rfl, ?_⟩) (by assumption) ?_
        rotate_left
        · (intro wz hSw; (try dsimp only at hSw); go_simp <;> with_reducible rfl)
        try simp only [Act.put, List.setIfInBounds_toArray, List.set_cons_zero, List.set_cons_succ]
        refine takeW (i := 21) (v := ?_) rfl (by kernel_rfl) (by kernel_rfl) (by kernel_rfl) (fun _ _ _ h => h) (Or.inl ⟨by rfl, ?_⟩) (by assumption) ?_
        rotate_left
        · (intro wz hSw; (try dsimp only at hSw); go_simp <;> with_reducible rfl)
        try simp only [Act.put, List.setIfInBounds_toArray, List.set_cons_zero, List.set_cons_succ]
        refine takeW (i := 22) (v := ?_) rfl (by kernel_rfl) (by kernel_rfl) (by kernel_rfl) (fun _ _ _ h => h) (Or.inl ⟨by rfl, ?_⟩) (by assumption) ?_
        rotate_left
        · (intro wz hSw; (try dsimp only at hSw); go_simp <;> with_reducible rfl)
        try simp only [Act.put, List.setIfInBounds_toArray, List.set_cons_zero, List.set_cons_succ]
        refine takeW (i := 24) (v := ?_) rfl (by kernel_rfl) (by kernel_rfl) (by kernel_rfl) (fun _ _ _ h => h) (Or.inl ⟨by rfl, ?_⟩) (by assumption) ?_
        rotate_left
        · (intro wz hSw; (try dsimp only at hSw); go_simp <;> with_reducible rfl)
        try simp only [Act.put, List.setIfInBounds_toArray, List.set_cons_zero, List.set_cons_succ]
        refine wpAnyH_ready (rs := [12, 14]) (by kernel_rfl) (by simp) ?_
        refine consW rfl (fun K hK => ?_) ?_
        · obtain ⟨y4, y5⟩ := H45.out _ HE0_.out
          go_simp
          clear y4 y5
          refine hK.out _ _ ?_ (fun hHeld => ?_)
          · (try dsimp only); exact (HSS.out _ HE0_.out)
          clear hK K
          try simp only [Act.put, List.setIfInBounds_toArray, List.set_cons_zero, List.set_cons_succ]
          refine wpAnyH_ready (rs := [14]) (by kernel_rfl) (by simp) ?_
          refine consW rfl (fun K hK => ?_) AllReadyH.nil
          go_simp
          go_at_call 57
          refine (frofdec_q (HSW.out.old HE0_.out) (Nat.le_trans HM.out (by decide))).mono ?_
          rintro e' u1 ⟨o1, r1, t1, o2, r2, t2, rfl, p1, p2, hx⟩
          rw [HQ1.out] at p1 p2
          have HP1 := Lib.hid (show RA u1 o1 r1 t1 o2 r2 t2 q1 from ⟨p1.sl, p2.sl⟩); have HE1_ := Lib.hid (HE0_.out.trans hx)
          clear p1 p2 hx
          try go_wp2_with fail
          refine hK.out _ _ ?_ (fun hHeld => ?_)
          · (try dsimp only); exact (HSS.out _ HE1_.out)
          clear hK K
          try simp only [Act.put, List.setIfInBounds_toArray, List.set_cons_zero, List.set_cons_succ]
          refine wpAnyH_ready (rs := [23]) (by kernel_rfl) (by simp) ?_
          refine consW rfl (fun K hK => ?_) AllReadyH.nil
          go_simp
          go_at_call 56
          refine (frmul_q HP1.out (show RA u1 a1 m1 c1 b1 n1 d1 e.s.h from ⟨H6.out.s1.old HE1_.out, H6.out.s2.old HE1_.out⟩) (Nat.le_trans HZQ1.out (by decide)) (Nat.le_trans HSE.out.1 (by decide))).mono ?_
          rintro e' u2 ⟨o3, r3, t3, o4, r4, t4, rfl, p1, p2, hx⟩
          rw [HQ2.out] at p1 p2
          have HP2 := Lib.hid (show RA u2 o3 r3 t3 o4 r4 t4 q2 from ⟨p1.sl, p2.sl⟩); have HE2_ := Lib.hid (HE1_.out.trans hx)
          clear p1 p2 hx
          try go_wp2_with fail
          refine hK.out _ _ ?_ (fun hHeld => ?_)
          · (try dsimp only); exact (HSS.out _ HE2_.out)
          clear hK K
          try simp only [Act.put, List.setIfInBounds_toArray, List.set_cons_zero, List.set_cons_succ]
          refine wpAnyH_ready (rs := [25]) (by kernel_rfl) (by simp) ?_
          refine consW rfl (fun K hK => ?_) AllReadyH.nil
          go_simp
          go_at_call 55
          refine (rby_q HP2.out (Nat.le_trans HZQ2.out (by decide)) (by decide) HT.out).mono ?_
          rintro e' u3 ⟨o5, r5, t5, o6, r6, t6, rfl, p1, p2, hx⟩
          rw [HQ3.out] at p1 p2
          have HP3 := Lib.hid (show RA u3 o5 r5 t5 o6 r6 t6 q3 from ⟨p1.sl, p2.sl⟩); have HE3_ := Lib.hid (HE2_.out.trans hx)
          clear p1 p2 hx
          try go_wp2_with fail
          refine hK.out _ _ ?_ (fun hHeld => ?_)
          · (try dsimp only); exact (HSS.out _ HE3_.out)
          clear hK K
          try simp only [Act.put, List.setIfInBounds_toArray, List.set_cons_zero, List.set_cons_succ]
          refine wpAnyH_ready (rs := [26]) (by kernel_rfl) (by simp) ?_
          refine consW rfl (fun K hK => ?_) AllReadyH.nil
          go_simp
          go_at_call 54
          refine (fradd_q (show RA u3 a2 m2 c2 b2 n2 d2 e.s.o from ⟨H6.out.s3.old HE3_.out, H6.out.s4.old HE3_.out⟩) HP3.out HSE.out.2 (Nat.le_trans HZQ3.out (by decide))).mono ?_
          rintro e' u4 ⟨o7, r7, t7, o8, r8, t8, rfl, p1, p2, hx⟩
          rw [HQ4.out] at p1 p2
          have HP4 := Lib.hid (show RA u4 o7 r7 t7 o8 r8 t8 q4 from ⟨p1.sl, p2.sl⟩); have HE4_ := Lib.hid (HE3_.out.trans hx)
          clear p1 p2 hx
          try go_wp2_with fail
          refine hK.out _ _ ?_ (fun hHeld => ?_)
          · (try dsimp only); exact (HSS.out _ HE4_.out)
          clear hK K
          try simp only [Act.put, List.setIfInBounds_toArray, List.set_cons_zero, List.set_cons_succ]
          refine takeW (i := 27) (v := ?_) rfl (by kernel_rfl) (by kernel_rfl) (by kernel_rfl) (fun _ _ _ h => h) (Or.inl ⟨by rfl, ?_⟩) (by assumption) ?_
          rotate_left
          · (intro wz hSw; (try dsimp only at hSw); go_simp <;> with_reducible rfl)
          try simp only [Act.put, List.setIfInBounds_toArray, List.set_cons_zero, List.set_cons_succ]
          refine takeW (i := 28) (v := ?_) rfl (by kernel_rfl) (by kernel_rfl) (by kernel_rfl) (fun _ _ _ h => h) (Or.inl ⟨by rfl, ?_⟩) (by assumption) ?_
          rotate_left
          · (intro wz hSw; (try dsimp only at hSw); go_simp <;> with_reducible rfl)
          try simp only [Act.put, List.setIfInBounds_toArray, List.set_cons_zero, List.set_cons_succ]
          refine wpAnyH_ready (rs := [29]) (by kernel_rfl) (by simp) ?_
          refine consW rfl (fun K hK => ?_) AllReadyH.nil
          obtain ⟨y4, y5⟩ := H45.out _ HE4_.out; obtain ⟨y0, y2, y3, yb⟩ := HSS.out _ HE4_.out
          have f4 := (HRR.out.lk HE4_.out.lk).free (8 * k + 4); have f5 := (HRR.out.lk HE4_.out.lk).free (8 * k + 5)
          have A1 : Ln u4 ((u4.setCell ⟨g, 8 * k + 4, none⟩ (.slice o7 r7 t7)).setCell ⟨g, 8 * k + 5, none⟩ (.slice o8 r8 t8)) ∧ u4.grownBy ((u4.setCell ⟨g, 8 * k + 4, none⟩ (.slice o7 r7 t7)).setCell ⟨g, 8 * k + 5, none⟩ (.slice o8 r8 t8)) (some g) ∧ RRow ((u4.setCell ⟨g, 8 * k + 4, none⟩ (.slice o7 r7 t7)).setCell ⟨g, 8 * k + 5, none⟩ (.slice o8 r8 t8)) g c ((rpart (rGive (val xs0) t) v k es).set k ⟨e.v, e.d, ⟨e.s.h, q4, e.s.p, e.s.k⟩⟩) := (HRR.out.lk HE4_.out.lk).setQ HER.out true rfl HP4.out
          obtain ⟨l1, g1_, rr1⟩ := A1
          have d1_ := (HLR.out.lk HE4_.out.lk).turn g1_ rr1 (List.length_set ..)
          have HSF := Lib.hid (show ((u4.setCell ⟨g, 8 * k + 4, none⟩ (.slice o7 r7 t7)).setCell ⟨g, 8 * k + 5, none⟩ (.slice o8 r8 t8)).cell? ⟨lp, 0, none⟩ = some (.slice o n c) ∧ ((u4.setCell ⟨g, 8 * k + 4, none⟩ (.slice o7 r7 t7)).setCell ⟨g, 8 * k + 5, none⟩ (.slice o8 r8 t8)).cell? ⟨g, 8 * k + 2, none⟩ = some (.slice a1 m1 c1) ∧ ((u4.setCell ⟨g, 8 * k + 4, none⟩ (.slice o7 r7 t7)).setCell ⟨g, 8 * k + 5, none⟩ (.slice o8 r8 t8)).cell? ⟨g, 8 * k + 3, none⟩ = some (.slice b1 n1 d1) ∧ ((u4.setCell ⟨g, 8 * k + 4, none⟩ (.slice o7 r7 t7)).setCell ⟨g, 8 * k + 5, none⟩ (.slice o8 r8 t8)).cell? ⟨w.heap.size, 0, none⟩ = some (.slice a0 m0 c0) from ⟨drow_cell d1_.row, by rw [World.cell?_setCell_other _ _ _ _ (by intro e; injection e with e1 e2; omega), World.cell?_setCell_other _ _ _ _ (by intro e; injection e with e1 e2; omega)]; exact y2, by rw [World.cell?_setCell_other _ _ _ _ (by intro e; injection e with e1 e2; omega), World.cell?_setCell_other _ _ _ _ (by intro e; injection e with e1 e2; omega)]; exact y3, by have := HGL.out; rw [World.cell?_setCell_other _ _ _ _ (by intro e; injection e with e1 e2; omega), World.cell?_setCell_other _ _ _ _ (by intro e; injection e with e1 e2; omega)]; exact yb⟩)
          have hrg : rGive (val xs0) t e.s = ⟨e.s.h, q4, e.s.p, e.s.k⟩ := by unfold rGive; rw [HQ1.out, HQ2.out, HQ3.out, HQ4.out]
          have HF := Lib.hid (show RMod X0 lp (some g) o n c (rpart (rGive (val xs0) t) v (k + 1) es) ((u4.setCell ⟨g, 8 * k + 4, none⟩ (.slice o7 r7 t7)).setCell ⟨g, 8 * k + 5, none⟩ (.slice o8 r8 t8)) from ⟨by rw [HT2.out, hrg]; exact d1_, grownBy_trans (grownBy_trans HGR.out (HE4_.out.by_ _)) g1_, (HLN.out.trans HE4_.out.lk.ln).trans l1⟩)
          clear l1 g1_ rr1 d1_ hrg
          go_simp
          clear y0 y2 y3 y4 y5 yb f4 f5
          refine hK.out _ _ ?_ (fun hHeld => ?_)
          · (try dsimp only); exact HSF.out
          clear hK K
          try simp only [Act.put, List.setIfInBounds_toArray, List.set_cons_zero, List.set_cons_succ]
          refine wpAnyH_done (by kernel_rfl) ?_ _
          obtain ⟨W1, hW1⟩ : ∃ x, (u4.setCell ⟨g, 8 * k + 4, none⟩ (.slice o7 r7 t7)).setCell ⟨g, 8 * k + 5, none⟩ (.slice o8 r8 t8) = x := ⟨_, rfl⟩
          have HFW := HF; rw [hW1] at HFW ⊢; clear HF HSF hW1
          go_wp2_with fail
          go_roundw
          case rel => exact ⟨k + 1, by omega, by go_num, HFW.out⟩
          case measure => simp only [RowKit.intOf]; omega
        refine consW rfl (fun K hK => ?_) AllReadyH.nil
        go_simp
        go_at_call 57
        refine (frofdec_q (HSW.out.old HE0_.out) (Nat.le_trans HM.out (by decide))).mono ?_
        rintro e' u1 ⟨o1, r1, t1, o2, r2, t2, rfl, p1, p2, hx⟩
        rw [HQ1.out] at p1 p2
        have HP1 := Lib.hid (show RA u1 o1 r1 t1 o2 r2 t2 q1 from ⟨p1.sl, p2.sl⟩); have HE1_ := Lib.hid (HE0_.out.trans hx)
        clear p1 p2 hx
        try go_wp2_with fail
        refine hK.out _ _ ?_ (fun hHeld => ?_)
        · (try dsimp only); exact (HSS.out _ HE1_.out)
        clear hK K
        try simp only [Act.put, List.setIfInBounds_toArray, List.set_cons_zero, List.set_cons_succ]
        refine wpAnyH_ready (rs := [12, 23]) (by kernel_rfl) (by simp) ?_
        refine consW rfl (fun K hK => ?_) ?_
        · obtain ⟨y4, y5⟩ := H45.out _ HE1_.out
          go_simp
          clear y4 y5
          refine hK.out _ _ ?_ (fun hHeld => ?_)
          · (try dsimp only); exact (HSS.out _ HE1_.out)
          clear hK K
          try simp only [Act.put, List.setIfInBounds_toArray, List.set_cons_zero, List.set_cons_succ]
          refine wpAnyH_ready (rs := [23]) (by kernel_rfl) (by simp) ?_
          refine consW rfl (fun K hK => ?_) AllReadyH.nil
          go_simp
          go_at_call 56
          refine (frmul_q HP1.out (show RA u1 a1 m1 c1 b1 n1 d1 e.s.h from ⟨H6.out.s1.old HE1_.out, H6.out.s2.old HE1_.out⟩) (Nat.le_trans HZQ1.out (by decide)) (Nat.le_trans HSE.out.1 (by decide))).mono ?_
          rintro e' u2 ⟨o3, r3, t3, o4, r4, t4, rfl, p1, p2, hx⟩
          rw [HQ2.out] at p1 p2
          have HP2 := Lib.hid (show RA u2 o3 r3 t3 o4 r4 t4 q2 from ⟨p1.sl, p2.sl⟩); have HE2_ := Lib.hid (HE1_.out.trans hx)
          clear p1 p2 hx
          try go_wp2_with fail
          refine hK.out _ _ ?_ (fun hHeld => ?_)
          · (try dsimp only); exact (HSS.out _ HE2_.out)
          clear hK K
          try simp only [Act.put, List.setIfInBounds_toArray, List.set_cons_zero, List.set_cons_succ]
          refine wpAnyH_ready (rs := [25]) (by kernel_rfl) (by simp) ?_
          refine consW rfl (fun K hK => ?_) AllReadyH.nil
          go_simp
          go_at_call 55
          refine (rby_q HP2.out (Nat.le_trans HZQ2.out (by decide)) (by decide) HT.out).mono ?_
          rintro e' u3 ⟨o5, r5, t5, o6, r6, t6, rfl, p1, p2, hx⟩
          rw [HQ3.out] at p1 p2
          have HP3 := Lib.hid (show RA u3 o5 r5 t5 o6 r6 t6 q3 from ⟨p1.sl, p2.sl⟩); have HE3_ := Lib.hid (HE2_.out.trans hx)
          clear p1 p2 hx
          try go_wp2_with fail
          refine hK.out _ _ ?_ (fun hHeld => ?_)
          · (try dsimp only); exact (HSS.out _ HE3_.out)
          clear hK K
          try simp only [Act.put, List.setIfInBounds_toArray, List.set_cons_zero, List.set_cons_succ]
          refine wpAnyH_ready (rs := [26]) (by kernel_rfl) (by simp) ?_
          refine consW rfl (fun K hK => ?_) AllReadyH.nil
          go_simp
          go_at_call 54
          refine (fradd_q (show RA u3 a2 m2 c2 b2 n2 d2 e.s.o from ⟨H6.out.s3.old HE3_.out, H6.out.s4.old HE3_.out⟩) HP3.out HSE.out.2 (Nat.le_trans HZQ3.out (by decide))).mono ?_
          rintro e' u4 ⟨o7, r7, t7, o8, r8, t8, rfl, p1, p2, hx⟩
          rw [HQ4.out] at p1 p2
          have HP4 := Lib.hid (show RA u4 o7 r7 t7 o8 r8 t8 q4 from ⟨p1.sl, p2.sl⟩); have HE4_ := Lib.hid (HE3_.out.trans hx)
          clear p1 p2 hx
          try go_wp2_with fail
          refine hK.out _ _ ?_ (fun hHeld => ?_)
          · (try dsimp only); exact (HSS.out _ HE4_.out)
          clear hK K
          try simp only [Act.put, List.setIfInBounds_toArray, List.set_cons_zero, List.set_cons_succ]
          refine takeW (i := 27) (v := ?_) rfl (by kernel_rfl) (by kernel_rfl) (by kernel_rfl) (fun _ _ _ h => h) (Or.inl ⟨by rfl, ?_⟩) (by assumption) ?_
          rotate_left
          · (intro wz hSw; (try dsimp only at hSw); go_simp <;> with_reducible rfl)
          try simp only [Act.put, List.setIfInBounds_toArray, List.set_cons_zero, List.set_cons_succ]
          refine takeW (i := 28) (v := ?_) rfl (by kernel_rfl) (by kernel_rfl) (by kernel_rfl) (fun _ _ _ h => h) (Or.inl ⟨by rfl, ?_⟩) (by assumption) ?_
          rotate_left
          · (intro wz hSw; (try dsimp only at hSw); go_simp <;> with_reducible rfl)
          try simp only [Act.put, List.setIfInBounds_toArray, List.set_cons_zero, List.set_cons_succ]
          refine wpAnyH_ready (rs := [29]) (by kernel_rfl) (by simp) ?_
          refine consW rfl (fun K hK => ?_) AllReadyH.nil
          obtain ⟨y4, y5⟩ := H45.out _ HE4_.out; obtain ⟨y0, y2, y3, yb⟩ := HSS.out _ HE4_.out
          have f4 := (HRR.out.lk HE4_.out.lk).free (8 * k + 4); have f5 := (HRR.out.lk HE4_.out.lk).free (8 * k + 5)
          have A1 : Ln u4 ((u4.setCell ⟨g, 8 * k + 4, none⟩ (.slice o7 r7 t7)).setCell ⟨g, 8 * k + 5, none⟩ (.slice o8 r8 t8)) ∧ u4.grownBy ((u4.setCell ⟨g, 8 * k + 4, none⟩ (.slice o7 r7 t7)).setCell ⟨g, 8 * k + 5, none⟩ (.slice o8 r8 t8)) (some g) ∧ RRow ((u4.setCell ⟨g, 8 * k + 4, none⟩ (.slice o7 r7 t7)).setCell ⟨g, 8 * k + 5, none⟩ (.slice o8 r8 t8)) g c ((rpart (rGive (val xs0) t) v k es).set k ⟨e.v, e.d, ⟨e.s.h, q4, e.s.p, e.s.k⟩⟩) := (HRR.out.lk HE4_.out.lk).setQ HER.out true rfl HP4.out
          obtain ⟨l1, g1_, rr1⟩ := A1
          have d1_ := (HLR.out.lk HE4_.out.lk).turn g1_ rr1 (List.length_set ..)
          have HSF := Lib.hid (show ((u4.setCell ⟨g, 8 * k + 4, none⟩ (.slice o7 r7 t7)).setCell ⟨g, 8 * k + 5, none⟩ (.slice o8 r8 t8)).cell? ⟨lp, 0, none⟩ = some (.slice o n c) ∧ ((u4.setCell ⟨g, 8 * k + 4, none⟩ (.slice o7 r7 t7)).setCell ⟨g, 8 * k + 5, none⟩ (.slice o8 r8 t8)).cell? ⟨g, 8 * k + 2, none⟩ = some (.slice a1 m1 c1) ∧ ((u4.setCell ⟨g, 8 * k + 4, none⟩ (.slice o7 r7 t7)).setCell ⟨g, 8 * k + 5, none⟩ (.slice o8 r8 t8)).cell? ⟨g, 8 * k + 3, none⟩ = some (.slice b1 n1 d1) ∧ ((u4.setCell ⟨g, 8 * k + 4, none⟩ (.slice o7 r7 t7)).setCell ⟨g, 8 * k + 5, none⟩ (.slice o8 r8 t8)).cell? ⟨w.heap.size, 0, none⟩ = some (.slice a0 m0 c0) from ⟨drow_cell d1_.row, by rw [World.cell?_setCell_other _ _ _ _ (by intro e; injection e with e1 e2; omega), World.cell?_setCell_other _ _ _ _ (by intro e; injection e with e1 e2; omega)]; exact y2, by rw [World.cell?_setCell_other _ _ _ _ (by intro e; injection e with e1 e2; omega), World.cell?_setCell_other _ _ _ _ (by intro e; injection e with e1 e2; omega)]; exact y3, by have := HGL.out; rw [World.cell?_setCell_other _ _ _ _ (by intro e; injection e with e1 e2; omega), World.cell?_setCell_other _ _ _ _ (by intro e; injection e with e1 e2; omega)]; exact yb⟩)
          have hrg : rGive (val xs0) t e.s = ⟨e.s.h, q4, e.s.p, e.s.k⟩ := by unfold rGive; rw [HQ1.out, HQ2.out, HQ3.out, HQ4.out]
          have HF := Lib.hid (show RMod X0 lp (some g) o n c (rpart (rGive (val xs0) t) v (k + 1) es) ((u4.setCell ⟨g, 8 * k + 4, none⟩ (.slice o7 r7 t7)).setCell ⟨g, 8 * k + 5, none⟩ (.slice o8 r8 t8)) from ⟨by rw [HT2.out, hrg]; exact d1_, grownBy_trans (grownBy_trans HGR.out (HE4_.out.by_ _)) g1_, (HLN.out.trans HE4_.out.lk.ln).trans l1⟩)
          clear l1 g1_ rr1 d1_ hrg
          go_simp
          clear y0 y2 y3 y4 y5 yb f4 f5
          refine hK.out _ _ ?_ (fun hHeld => ?_)
          · (try dsimp only); exact HSF.out
          clear hK K
          try simp only [Act.put, List.setIfInBounds_toArray, List.set_cons_zero, List.set_cons_succ]
          refine wpAnyH_done (by kernel_rfl) ?_ _
          obtain ⟨W1, hW1⟩ : ∃ x, (u4.setCell ⟨g, 8 * k + 4, none⟩ (.slice o7 r7 t7)).setCell ⟨g, 8 * k + 5, none⟩ (.slice o8 r8 t8) = x := ⟨_, rfl⟩
          have HFW := HF; rw [hW1] at HFW ⊢; clear HF HSF hW1
          go_wp2_with fail
          go_roundw
          case rel => exact ⟨k + 1, by omega, by go_num, HFW.out⟩
          case measure => simp only [RowKit.intOf]; omega
        refine consW rfl (fun K hK => ?_) AllReadyH.nil
        go_simp
        go_at_call 56
        refine (frmul_q HP1.out (show RA u1 a1 m1 c1 b1 n1 d1 e.s.h from ⟨H6.out.s1.old HE1_.out, H6.out.s2.old HE1_.out⟩) (Nat.le_trans HZQ1.out (by decide)) (Nat.le_trans HSE.out.1 (by decide))).mono ?_
        rintro e' u2 ⟨o3, r3, t3, o4, r4, t4, rfl, p1, p2, hx⟩
        rw [HQ2.out] at p1 p2
        have HP2 := Lib.hid (show RA u2 o3 r3 t3 o4 r4 t4 q2 from ⟨p1.sl, p2.sl⟩); have HE2_ := Lib.hid (HE1_.out.trans hx)
        clear p1 p2 hx
        try go_wp2_with fail
        refine hK.out _ _ ?_ (fun hHeld => ?_)
        · (try dsimp only); exact (HSS.out _ HE2_.out)
        clear hK K
        try simp only [Act.put, List.setIfInBounds_toArray, List.set_cons_zero, List.set_cons_succ]
        refine wpAnyH_ready (rs := [12, 25]) (by kernel_rfl) (by simp) ?_
        refine consW rfl (fun K hK => ?_) ?_
        · obtain ⟨y4, y5⟩ := H45.out _ HE2_.out
          go_simp
          clear y4 y5
          refine hK.out _ _ ?_ (fun hHeld => ?_)
          · (try dsimp only); exact (HSS.out _ HE2_.out)
          clear hK K
          try simp only [Act.put, List.setIfInBounds_toArray, List.set_cons_zero, List.set_cons_succ]
          refine wpAnyH_ready (rs := [25]) (by kernel_rfl) (by simp) ?_
          refine consW rfl (fun K hK => ?_) AllReadyH.nil
          go_simp
          go_at_call 55
          refine (rby_q HP2.out (Nat.le_trans HZQ2.out (by decide)) (by decide) HT.out).mono ?_
          rintro e' u3 ⟨o5, r5, t5, o6, r6, t6, rfl, p1, p2, hx⟩
          rw [HQ3.out] at p1 p2
          have HP3 := Lib.hid (show RA u3 o5 r5 t5 o6 r6 t6 q3 from ⟨p1.sl, p2.sl⟩); have HE3_ := Lib.hid (HE2_.out.trans hx)
          clear p1 p2 hx
          try go_wp2_with fail
          refine hK.out _ _ ?_ (fun hHeld => ?_)
          · (try dsimp only); exact (HSS.out _ HE3_.out)
          clear hK K
          try simp only [Act.put, List.setIfInBounds_toArray, List.set_cons_zero, List.set_cons_succ]
          refine wpAnyH_ready (rs := [26]) (by kernel_rfl) (by simp) ?_
          refine consW rfl (fun K hK => ?_) AllReadyH.nil
          go_simp
          go_at_call 54
          refine (fradd_q (show RA u3 a2 m2 c2 b2 n2 d2 e.s.o from ⟨H6.out.s3.old HE3_.out, H6.out.s4.old HE3_.out⟩) HP3.out HSE.out.2 (Nat.le_trans HZQ3.out (by decide))).mono ?_
          rintro e' u4 ⟨o7, r7, t7, o8, r8, t8, rfl, p1, p2, hx⟩
          rw [HQ4.out] at p1 p2
          have HP4 := Lib.hid (show RA u4 o7 r7 t7 o8 r8 t8 q4 from ⟨p1.sl, p2.sl⟩); have HE4_ := Lib.hid (HE3_.out.trans hx)
          clear p1 p2 hx
          try go_wp2_with fail
          refine hK.out _ _ ?_ (fun hHeld => ?_)
          · (try dsimp only); exact (HSS.out _ HE4_.out)
          clear hK K
          try simp only [Act.put, List.setIfInBounds_toArray, List.set_cons_zero, List.set_cons_succ]
          refine takeW (i := 27) (v := ?_) rfl (by kernel_rfl) (by kernel_rfl) (by kernel_rfl) (fun _ _ _ h => h) (Or.inl ⟨by rfl, ?_⟩) (by assumption) ?_
          rotate_left
          · (intro wz hSw; (try dsimp only at hSw); go_simp <;> with_reducible rfl)
          try simp only [Act.put, List.setIfInBounds_toArray, List.set_cons_zero, List.set_cons_succ]
          refine takeW (i := 28) (v := ?_) rfl (by kernel_rfl) (by kernel_rfl) (by kernel_rfl) (fun _ _ _ h => h) (Or.inl ⟨by rfl, ?_⟩) (by assumption) ?_
          rotate_left
          · (intro wz hSw; (try dsimp only at hSw); go_simp <;> with_reducible rfl)
          try simp only [Act.put, List.setIfInBounds_toArray, List.set_cons_zero, List.set_cons_succ]
          refine wpAnyH_ready (rs := [29]) (by kernel_rfl) (by simp) ?_
          refine consW rfl (fun K hK => ?_) AllReadyH.nil
          obtain ⟨y4, y5⟩ := H45.out _ HE4_.out; obtain ⟨y0, y2, y3, yb⟩ := HSS.out _ HE4_.out
          have f4 := (HRR.out.lk HE4_.out.lk).free (8 * k + 4); have f5 := (HRR.out.lk HE4_.out.lk).free (8 * k + 5)
          have A1 : Ln u4 ((u4.setCell ⟨g, 8 * k + 4, none⟩ (.slice o7 r7 t7)).setCell ⟨g, 8 * k + 5, none⟩ (.slice o8 r8 t8)) ∧ u4.grownBy ((u4.setCell ⟨g, 8 * k + 4, none⟩ (.slice o7 r7 t7)).setCell ⟨g, 8 * k + 5, none⟩ (.slice o8 r8 t8)) (some g) ∧ RRow ((u4.setCell ⟨g, 8 * k + 4, none⟩ (.slice o7 r7 t7)).setCell ⟨g, 8 * k + 5, none⟩ (.slice o8 r8 t8)) g c ((rpart (rGive (val xs0) t) v k es).set k ⟨e.v, e.d, ⟨e.s.h, q4, e.s.p, e.s.k⟩⟩) := (HRR.out.lk HE4_.out.lk).setQ HER.out true rfl HP4.out
          obtain ⟨l1, g1_, rr1⟩ := A1
          have d1_ := (HLR.out.lk HE4_.out.lk).turn g1_ rr1 (List.length_set ..)
          have HSF := Lib.hid (show ((u4.setCell ⟨g, 8 * k + 4, none⟩ (.slice o7 r7 t7)).setCell ⟨g, 8 * k + 5, none⟩ (.slice o8 r8 t8)).cell? ⟨lp, 0, none⟩ = some (.slice o n c) ∧ ((u4.setCell ⟨g, 8 * k + 4, none⟩ (.slice o7 r7 t7)).setCell ⟨g, 8 * k + 5, none⟩ (.slice o8 r8 t8)).cell? ⟨g, 8 * k + 2, none⟩ = some (.slice a1 m1 c1) ∧ ((u4.setCell ⟨g, 8 * k + 4, none⟩ (.slice o7 r7 t7)).setCell ⟨g, 8 * k + 5, none⟩ (.slice o8 r8 t8)).cell? ⟨g, 8 * k + 3, none⟩ = some (.slice b1 n1 d1) ∧ ((u4.setCell ⟨g, 8 * k + 4, none⟩ (.slice o7 r7 t7)).setCell ⟨g, 8 * k + 5, none⟩ (.slice o8 r8 t8)).cell? ⟨w.heap.size, 0, none⟩ = some (.slice a0 m0 c0) from ⟨drow_cell d1_.row, by rw [World.cell?_setCell_other _ _ _ _ (by intro e; injection e with e1 e2; omega), World.cell?_setCell_other _ _ _ _ (by intro e; injection e with e1 e2; omega)]; exact y2, by rw [World.cell?_setCell_other _ _ _ _ (by intro e; injection e with e1 e2; omega), World.cell?_setCell_other _ _ _ _ (by intro e; injection e with e1 e2; omega)]; exact y3, by have := HGL.out; rw [World.cell?_setCell_other _ _ _ _ (by intro e; injection e with e1 e2; omega), World.cell?_setCell_other _ _ _ _ (by intro e; injection e with e1 e2; omega)]; exact yb⟩)
          have hrg : rGive (val xs0) t e.s = ⟨e.s.h, q4, e.s.p, e.s.k⟩ := by unfold rGive; rw [HQ1.out, HQ2.out, HQ3.out, HQ4.out]
          have HF := Lib.hid (show RMod X0 lp (some g) o n c (rpart (rGive (val xs0) t) v (k + 1) es) ((u4.setCell ⟨g, 8 * k + 4, none⟩ (.slice o7 r7 t7)).setCell ⟨g, 8 * k + 5, none⟩ (.slice o8 r8 t8)) from ⟨by rw [HT2.out, hrg]; exact d1_, grownBy_trans (grownBy_trans HGR.out (HE4_.out.by_ _)) g1_, (HLN.out.trans HE4_.out.lk.ln).trans l1⟩)
          clear l1 g1_ rr1 d1_ hrg
          go_simp
          clear y0 y2 y3 y4 y5 yb f4 f5
          refine hK.out _ _ ?_ (fun hHeld => ?_)
          · (try dsimp only); exact HSF.out
          clear hK K
          try simp only [Act.put, List.setIfInBounds_toArray, List.set_cons_zero, List.set_cons_succ]
          refine wpAnyH_done (by kernel_rfl) ?_ _
          obtain ⟨W1, hW1⟩ : ∃ x, (u4.setCell ⟨g, 8 * k + 4, none⟩ (.slice o7 r7 t7)).setCell ⟨g, 8 * k + 5, none⟩ (.slice o8 r8 t8) = x := ⟨_, rfl⟩
          have HFW := HF; rw [hW1] at HFW ⊢; clear HF HSF hW1
          go_wp2_with fail
          go_roundw
          case rel => exact ⟨k + 1, by omega, by go_num, HFW.out⟩
          case measure => simp only [RowKit.intOf]; omega
        refine consW rfl (fun K hK => ?_) AllReadyH.nil
        go_simp
        go_at_call 55
        refine (rby_q HP2.out (Nat.le_trans HZQ2.out (by decide)) (by decide) HT.out).mono ?_
        rintro e' u3 ⟨o5, r5, t5, o6, r6, t6, rfl, p1, p2, hx⟩
        rw [HQ3.out] at p1 p2
        have HP3 := Lib.hid (show RA u3 o5 r5 t5 o6 r6 t6 q3 from ⟨p1.sl, p2.sl⟩); have HE3_ := Lib.hid (HE2_.out.trans hx)
        clear p1 p2 hx
        try go_wp2_with fail
        refine hK.out _ _ ?_ (fun hHeld => ?_)
        · (try dsimp only); exact (HSS.out _ HE3_.out)
        clear hK K
        try simp only [Act.put, List.setIfInBounds_toArray, List.set_cons_zero, List.set_cons_succ]
        refine wpAnyH_ready (rs := [12]) (by kernel_rfl) (by simp) ?_
        refine consW rfl (fun K hK => ?_) AllReadyH.nil
        obtain ⟨y4, y5⟩ := H45.out _ HE3_.out
        go_simp
        clear y4 y5
        refine hK.out _ _ ?_ (fun hHeld => ?_)
        · (try dsimp only); exact (HSS.out _ HE3_.out)
        clear hK K
        try simp only [Act.put, List.setIfInBounds_toArray, List.set_cons_zero, List.set_cons_succ]
        refine wpAnyH_ready (rs := [26]) (by kernel_rfl) (by simp) ?_
        refine consW rfl (fun K hK => ?_) AllReadyH.nil
        go_simp
        go_at_call 54
        refine (fradd_q (show RA u3 a2 m2 c2 b2 n2 d2 e.s.o from ⟨H6.out.s3.old HE3_.out, H6.out.s4.old HE3_.out⟩) HP3.out HSE.out.2 (Nat.le_trans HZQ3.out (by decide))).mono ?_
        rintro e' u4 ⟨o7, r7, t7, o8, r8, t8, rfl, p1, p2, hx⟩
        rw [HQ4.out] at p1 p2
        have HP4 := Lib.hid (show RA u4 o7 r7 t7 o8 r8 t8 q4 from ⟨p1.sl, p2.sl⟩); have HE4_ := Lib.hid (HE3_.out.trans hx)
        clear p1 p2 hx
        try go_wp2_with fail
        refine hK.out _ _ ?_ (fun hHeld => ?_)
        · (try dsimp only); exact (HSS.out _ HE4_.out)
        clear hK K
        try simp only [Act.put, List.setIfInBounds_toArray, List.set_cons_zero, List.set_cons_succ]
        refine takeW (i := 27) (v := ?_) rfl (by kernel_rfl) (by kernel_rfl) (by kernel_rfl) (fun _ _ _ h => h) (Or.inl ⟨by rfl, ?_⟩) (by assumption) ?_
        rotate_left
        · (intro wz hSw; (try dsimp only at hSw); go_simp <;> with_reducible rfl)
        try simp only [Act.put, List.setIfInBounds_toArray, List.set_cons_zero, List.set_cons_succ]
        refine takeW (i := 28) (v := ?_) rfl (by kernel_rfl) (by kernel_rfl) (by kernel_rfl) (fun _ _ _ h => h) (Or.inl ⟨by rfl, ?_⟩) (by assumption) ?_
        rotate_left
        · (intro wz hSw; (try dsimp only at hSw); go_simp <;> with_reducible rfl)
        try simp only [Act.put, List.setIfInBounds_toArray, List.set_cons_zero, List.set_cons_succ]
        refine wpAnyH_ready (rs := [29]) (by kernel_rfl) (by simp) ?_
        refine consW rfl (fun K hK => ?_) AllReadyH.nil
        obtain ⟨y4, y5⟩ := H45.out _ HE4_.out; obtain ⟨y0, y2, y3, yb⟩ := HSS.out _ HE4_.out
        have f4 := (HRR.out.lk HE4_.out.lk).free (8 * k + 4); have f5 := (HRR.out.lk HE4_.out.lk).free (8 * k + 5)
        have A1 : Ln u4 ((u4.setCell ⟨g, 8 * k + 4, none⟩ (.slice o7 r7 t7)).setCell ⟨g, 8 * k + 5, none⟩ (.slice o8 r8 t8)) ∧ u4.grownBy ((u4.setCell ⟨g, 8 * k + 4, none⟩ (.slice o7 r7 t7)).setCell ⟨g, 8 * k + 5, none⟩ (.slice o8 r8 t8)) (some g) ∧ RRow ((u4.setCell ⟨g, 8 * k + 4, none⟩ (.slice o7 r7 t7)).setCell ⟨g, 8 * k + 5, none⟩ (.slice o8 r8 t8)) g c ((rpart (rGive (val xs0) t) v k es).set k ⟨e.v, e.d, ⟨e.s.h, q4, e.s.p, e.s.k⟩⟩) := (HRR.out.lk HE4_.out.lk).setQ HER.out true rfl HP4.out
        obtain ⟨l1, g1_, rr1⟩ := A1
        have d1_ := (HLR.out.lk HE4_.out.lk).turn g1_ rr1 (List.length_set ..)
        have HSF := Lib.hid (show ((u4.setCell ⟨g, 8 * k + 4, none⟩ (.slice o7 r7 t7)).setCell ⟨g, 8 * k + 5, none⟩ (.slice o8 r8 t8)).cell? ⟨lp, 0, none⟩ = some (.slice o n c) ∧ ((u4.setCell ⟨g, 8 * k + 4, none⟩ (.slice o7 r7 t7)).setCell ⟨g, 8 * k + 5, none⟩ (.slice o8 r8 t8)).cell? ⟨g, 8 * k + 2, none⟩ = some (.slice a1 m1 c1) ∧ ((u4.setCell ⟨g, 8 * k + 4, none⟩ (.slice o7 r7 t7)).setCell ⟨g, 8 * k + 5, none⟩ (.slice o8 r8 t8)).cell? ⟨g, 8 * k + 3, none⟩ = some (.slice b1 n1 d1) ∧ ((u4.setCell ⟨g, 8 * k + 4, none⟩ (.slice o7 r7 t7)).setCell ⟨g, 8 * k + 5, none⟩ (.slice o8 r8 t8)).cell? ⟨w.heap.size, 0, none⟩ = some (.slice a0 m0 c0) from ⟨drow_cell d1_.row, by rw [World.cell?_setCell_other _ _ _ _ (by intro e; injection e with e1 e2; omega), World.cell?_setCell_other _ _ _ _ (by intro e; injection e with e1 e2; omega)]; exact y2, by rw [World.cell?_setCell_other _ _ _ _ (by intro e; injection e with e1 e2; omega), World.cell?_setCell_other _ _ _ _ (by intro e; injection e with e1 e2; omega)]; exact y3, by have := HGL.out; rw [World.cell?_setCell_other _ _ _ _ (by intro e; injection e with e1 e2; omega), World.cell?_setCell_other _ _ _ _ (by intro e; injection e with e1 e2; omega)]; exact yb⟩)
        have hrg : rGive (val xs0) t e.s = ⟨e.s.h, q4, e.s.p, e.s.k⟩ := by unfold rGive; rw [HQ1.out, HQ2.out, HQ3.out, HQ4.out]
        have HF := Lib.hid (show RMod X0 lp (some g) o n c (rpart (rGive (val xs0) t) v (k + 1) es) ((u4.setCell ⟨g, 8 * k + 4, none⟩ (.slice o7 r7 t7)).setCell ⟨g, 8 * k + 5, none⟩ (.slice o8 r8 t8)) from ⟨by rw [HT2.out, hrg]; exact d1_, grownBy_trans (grownBy_trans HGR.out (HE4_.out.by_ _)) g1_, (HLN.out.trans HE4_.out.lk.ln).trans l1⟩)
        clear l1 g1_ rr1 d1_ hrg
        go_simp
        clear y0 y2 y3 y4 y5 yb f4 f5
        refine hK.out _ _ ?_ (fun hHeld => ?_)
        · (try dsimp only); exact HSF.out
        clear hK K
        try simp only [Act.put, List.setIfInBounds_toArray, List.set_cons_zero, List.set_cons_succ]
        refine wpAnyH_done (by kernel_rfl) ?_ _
        obtain ⟨W1, hW1⟩ : ∃ x, (u4.setCell ⟨g, 8 * k + 4, none⟩ (.slice o7 r7 t7)).setCell ⟨g, 8 * k + 5, none⟩ (.slice o8 r8 t8) = x := ⟨_, rfl⟩
        have HFW := HF; rw [hW1] at HFW ⊢; clear HF HSF hW1
        go_wp2_with fail
        go_roundw
        case rel => exact ⟨k + 1, by omega, by go_num, HFW.out⟩
        case measure => simp only [RowKit.intOf]; omega
      · have g1 : ((e.v : Int) == (v : Int)) = false := by rw [beq_eq_false_iff_ne]; omega
        have g1' : ¬ ((e.v : Int) = (v : Int)) := by omega
        have hT := HTK.out
        rw [if_neg e1, set_same HER.out] at hT
        have HT2 := Lib.hid hT
        clear e1 hT
        go_wp2_with fail
        go_roundw
        case rel => exact ⟨k + 1, by omega, by go_num, by rw [HT2.out]; exact HLR.out, HGR.out, HLN.out⟩
        case measure => simp only [RowKit.intOf]; omega

end Go.Proofs.YtimcnhlcepemjaaGreatDoor
