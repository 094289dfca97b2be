
/- ledger.Ledger.each. -/
import Derived.Test.YtimcnhlcepemjaaGreatDoorME
import Derived.StillTailTactics
namespace Go.Proofs.YtimcnhlcepemjaaGreatDoor
open Go.RowKit

def EachRel (α : Type) (w1 : World) (p b N v : Nat) (M : Stakes) (ob : Option Nat) (pa : Option Addr) (pn pc : Nat) (ds : List Nat) (f : Stk → Stk) (upd : α → Stk → α) (a0 : α) (Pw : World → Nat → α → Prop) (iv : Value) (wr : World) : Prop :=
  ∃ i : Nat, i ≤ pn ∧ iv = .int .i64 (i : Int) ∧ Led wr b N (mapM M v f (ds.take i)) ∧ Pw wr i ((ds.take i).foldl (fun a d => upd a (got M v d)) a0) ∧ wr.cell? ⟨p, 0, none⟩ = some (.map (some b)) ∧ PSl wr pa pn pc v ds ∧ Tn w1 wr b ob
/-- What a step of each is asked: the box's stake is turned by f; at most the box and a captured variable have turned. -/
def HowAt (α : Type) (P : Program) (g : Nat) (caps : Array Value) (f : Stk → Stk) (upd : α → Stk → α) (ob : Option Nat) (Ok : Stk → Prop) (N : Nat) (Pw : World → Nat → α → Prop) : Prop :=
  ∀ (W : World) (xb : Nat) (a1 : Option Addr) (m1 c1 : Nat) (b1 : Option Addr) (n1 d1 : Nat) (a2 : Option Addr) (m2 c2 : Nat) (b2 : Option Addr) (n2 d2 : Nat) (s : Stk) (k : Nat) (a : α),
    k < N → Ok s → W.heap[xb]? = some (.cells #[.slice a1 m1 c1, .slice b1 n1 d1, .slice a2 m2 c2, .slice b2 n2 d2, .int .i64 s.p, .int .i64 s.k] 78 (0, 0)) → some xb ≠ ob → St6 W a1 m1 c1 b1 n1 d1 a2 m2 c2 b2 n2 d2 s → Pw W k a →
    Calls P g (#[.pointer (some ⟨xb, 0, none⟩)] ++ caps) W fun e W' => e = .returned (.tuple #[]) ∧ Pw W' (k + 1) (upd a s) ∧ Tn W W' xb ob ∧
      ∃ a1 m1 c1 b1 n1 d1 a2 m2 c2 b2 n2 d2, W'.heap[xb]? = some (.cells #[.slice a1 m1 c1, .slice b1 n1 d1, .slice a2 m2 c2, .slice b2 n2 d2, .int .i64 (f s).p, .int .i64 (f s).k] 78 (0, 0)) ∧ St6 W' a1 m1 c1 b1 n1 d1 a2 m2 c2 b2 n2 d2 (f s)
/-- What each leaves. -/
def EachPost (α : Type) (w : World) (p b N v : Nat) (M : Stakes) (ob : Option Nat) (f : Stk → Stk) (upd : α → Stk → α) (a0 : α) (Pw : World → Nat → α → Prop) (e : Ending) (w' : World) : Prop :=
  e = .returned (.tuple #[]) ∧ ∃ ds, Dels M v ds ∧ Led w' b N (mapM M v f ds) ∧ Pw w' ds.length (ds.foldl (fun a d => upd a (got M v d)) a0) ∧ w'.cell? ⟨p, 0, none⟩ = some (.map (some b)) ∧ Tn w w' b ob
/-- What each asks of what it carries. -/
structure EachAsk (α : Type) (w : World) (p b N v : Nat) (M : Stakes) (ob : Option Nat) (Ok : Stk → Prop) (a0 : α) (Pw : World → Nat → α → Prop) : Prop where
  led : Led w b N M
  hN : N ≤ 1000000
  hp : w.cell? ⟨p, 0, none⟩ = some (.map (some b))
  hv : v < B64
  po : ob ≠ some p
  bo : ob ≠ some b
  hob : ∀ W k a, Pw W k a → ∀ o, ob = some o → NoNum W o ∧ o < W.heap.size
  st : ∀ W W' k a, Pw W k a → Lk W W' → Pw W' k a
  hP : Pw w 0 a0
  ok : ∀ d s, M v d = some s → Ok s

set_option maxHeartbeats 8000000 in
set_option maxRecDepth 100000 in
theorem each_settle {α : Type} {w : World} {p b N v : Nat} {M : Stakes} {f : Stk → Stk} {upd : α → Stk → α} {a0 : α} {ob : Option Nat} {Ok : Stk → Prop} {Pw : World → Nat → α → Prop} (ask : EachAsk α w p b N v M ob Ok a0 Pw)
    (how : HowAt α Tryz.prog 58 #[] f upd ob Ok N Pw) :
    Calls Tryz.prog 51 #[.pointer (some ⟨p, 0, none⟩), .int .u64 (v : Int), .func (.func 58) #[] #[]] w (EachPost α w p b N v M ob f upd a0 Pw) := by
  obtain ⟨h, hN, hp, hv, hpo, hbo, hob, hst, hP, hok⟩ := ask
  obtain ⟨i0, hi, hz0, hz1, hz2⟩ := info_parts infoPair
  have C1 := Lib.hid (lof_calls h hN hp hv)
  have HL := Lib.hid h; have HPC := Lib.hid hp; have HV := Lib.hid hv; have HOB := Lib.hid hob; have HST := Lib.hid hst; have HP := Lib.hid hP; have HOW := Lib.hid how; have HPO := Lib.hid hpo; have HBO := Lib.hid hbo; have HI := Lib.hid hi; have HOK := Lib.hid hok; have HZ1 := Lib.hid hz1
  clear h hp hv hob hst hP how hpo hbo hok hi hz0 hz1 hz2
  go_enter Tryz.func51, Tryz.ntmps51
  go_wp2_with fail
  refine C1.out.mono ?_
  rintro e w1 ⟨pa, pn, pc, ds, rfl, hps, hds, hpn, hx1⟩
  have HPS := Lib.hid hps; have HDS := Lib.hid hds; have HX1 := Lib.hid hx1
  have HS := Lib.hid (show EachRel α w1 p b N v M ob pa pn pc ds f upd a0 Pw (.int .i64 0) w1 from ⟨0, Nat.zero_le _, rfl, by rw [List.take_zero, mapM_nil]; exact HL.out.old HX1.out, by rw [List.take_zero]; exact HST.out _ _ _ _ HP.out HX1.out.lk, HX1.out.cell HPC.out, HPS.out, Tn.refl _ _ _⟩)
  clear hps hds hx1 C1 HPS
  go_wp2_with fail
  go_loopw [13] (fun iv wr => EachRel α w1 p b N v M ob pa pn pc ds f upd a0 Pw iv wr) (fun iv _ => pn - (intOf iv).toNat)
  case atStart => exact HS.out
  case round =>
    obtain ⟨i, hin, rfl, hled, hpw, hpc, hps, htn⟩ := hrel
    have HLED := Lib.hid hled; have HPW := Lib.hid hpw; have HPCR := Lib.hid hpc; have HPSR := Lib.hid hps; have HTN := Lib.hid htn
    clear hled hpw hpc hps htn
    by_cases hkn : i = pn
    · subst hkn
      have hwhole : ds.take i = ds := List.take_of_length_le (by rw [HPSR.out.len]; exact Nat.le_refl _)
      have HW := Lib.hid hwhole
      clear hwhole
      go_wp2_with fail
      go_end0
      exact ⟨rfl, ds, HDS.out, by rw [← HW.out]; exact HLED.out, by have := HPW.out; rw [HW.out] at this; rw [HPSR.out.len]; exact this, HPCR.out, (Tn.ext HX1.out b ob).trans HTN.out (.inl rfl)⟩
    · have hlt : (i : Int) < (pn : Int) := by omega
      have hil : i < ds.length := by rw [HPSR.out.len]; omega
      obtain ⟨d, hdi⟩ : ∃ d, ds[i]? = some d := ⟨_, List.getElem?_eq_getElem hil⟩
      have hmem := (HDS.out.2 d).1 (List.mem_of_getElem? hdi)
      obtain ⟨s, hs⟩ := Option.isSome_iff_exists.1 hmem.2
      have hnot : d ∉ ds.take i := fun hm => by
        obtain ⟨j, hj, e⟩ := List.mem_iff_getElem.1 hm
        rw [List.length_take] at hj
        rw [List.getElem_take] at e
        have h1 := (List.pairwise_iff_getElem.1 HDS.out.1) j i (by omega) hil (by omega)
        rw [List.getElem?_eq_getElem hil] at hdi
        have h2 := Option.some.inj hdi
        omega
      obtain ⟨gb, hix, hcell⟩ := HPSR.out.ix (P := Tryz.prog) Tryz.underlying110 HI.out HZ1.out
      have x1 := hix i (by omega)
      obtain ⟨x2, x3⟩ := hcell i d hdi
      rw [Nat.zero_add] at x1 x2 x3
      clear hix hcell
      obtain ⟨Z, hZ⟩ : ∃ Z, wr.alloc (.cells #[.int .u64 (v : Int), .int .u64 (d : Int)] 85) = Z := ⟨_, rfl⟩
      have EZ : Ext wr Z := by rw [← hZ]; exact (Ext.refl wr).alloc _
      have hzr : Z.heap[wr.heap.size]? = some (.cells #[.int .u64 (v : Int), .int .u64 (d : Int)] 85 (0, 0)) := by rw [← hZ]; exact heap_alloc_new wr _
      obtain ⟨D, hD⟩ := HLED.out.old EZ
      obtain ⟨val, hat, hsv⟩ := hD.at_ v d s HV.out hmem.1 (by rw [mapM_at hnot]; exact hs)
      obtain ⟨a1, m1, c1, b1, n1, d1, a2, m2, c2, b2, n2, d2, rfl, h6⟩ := hsv
      have hlook : ∀ W', Ext Z W' → (Instr.lookup 72 (.map (some b)) (PairV v d) false).run Tryz.prog W' = .ok (StV a1 m1 c1 b1 n1 d1 a2 m2 c2 b2 n2 d2 s.p s.k) W' := fun W' E => by
        obtain ⟨v0, ps, hrun, hv0⟩ := (hD.old E).own.lookup lawPair Tryz.underlying72 (zeroStk W') (zd := .held stkZ) (zp := []) rfl (keyOf_pair HV.out hmem.1)
        rw [hat] at hv0
        have e : v0 = _ := (DataW.held.inj (Prod.mk.inj (Option.some.inj hv0)).1)
        rw [← e]
        exact hrun
      have HDI := Lib.hid hdi; have HMEM := Lib.hid hmem; have HSS := Lib.hid hs; have HNOT := Lib.hid hnot; have HZ := Lib.hid hZ; have HEZ := Lib.hid EZ; have HZR := Lib.hid hzr; have HD := Lib.hid hD; have H6 := Lib.hid h6; have HAT := Lib.hid hat
      have HBC := Lib.hid (fun w' (h : Ext Z w') => (show w'.cell? ⟨p, 0, none⟩ = some (.map (some b)) ∧ w'.cell? ⟨wr.heap.size, 0, none⟩ = some (.int .u64 (v : Int)) ∧ w'.cell? ⟨wr.heap.size, 1, none⟩ = some (.int .u64 (d : Int)) ∧ (Instr.lookup 72 (.map (some b)) (PairV v d) false).run Tryz.prog w' = .ok (StV a1 m1 c1 b1 n1 d1 a2 m2 c2 b2 n2 d2 s.p s.k) w'
        from ⟨h.cell (EZ.cell HPCR.out), h.cell (row2_cells hzr).1, h.cell (row2_cells hzr).2.1, hlook w' h⟩))
      clear hdi hmem hs hnot hZ EZ hzr hD h6 hat hlook
      go_wp2_with (rw [HZ.out])
      go_region_held3 (fun w' => w'.cell? ⟨p, 0, none⟩ = some (.map (some b)) ∧ w'.cell? ⟨wr.heap.size, 0, none⟩ = some (.int .u64 (v : Int)) ∧ w'.cell? ⟨wr.heap.size, 1, none⟩ = some (.int .u64 (d : Int)) ∧ (Instr.lookup 72 (.map (some b)) (PairV v d) false).run Tryz.prog w' = .ok (StV a1 m1 c1 b1 n1 d1 a2 m2 c2 b2 n2 d2 s.p s.k) w')
        (first | exact HBC.out _ (Ext.refl _).drew | exact HBC.out _ ((Ext.refl _).drew.alloc _) | exact HBC.out _ ((Ext.refl _).alloc _).drew | exact HBC.out _ ((Ext.refl _).alloc _))
        (fail)
      all_goals (
        obtain ⟨Y, hY⟩ : ∃ Y, (Z.alloc (.cells #[.slice a1 m1 c1, .slice b1 n1 d1, .slice a2 m2 c2, .slice b2 n2 d2, .int .i64 s.p, .int .i64 s.k] 78)).drew = Y := ⟨_, rfl⟩
        have EY : Ext Z Y := by rw [← hY]; exact ((Ext.refl Z).alloc _).drew
        have hyr : Y.heap[Z.heap.size]? = some (.cells #[.slice a1 m1 c1, .slice b1 n1 d1, .slice a2 m2 c2, .slice b2 n2 d2, .int .i64 s.p, .int .i64 s.k] 78 (0, 0)) := by rw [← hY]; exact heap_alloc_new Z _
        have hpwY := HST.out _ _ _ _ HPW.out (HEZ.out.trans EY).lk
        have hobY : some Z.heap.size ≠ ob := fun e => by have := (HOB.out _ _ _ HPW.out _ e.symm).2; have := HEZ.out.size; omega
        have CH := HOW.out Y Z.heap.size a1 m1 c1 b1 n1 d1 a2 m2 c2 b2 n2 d2 s i _ (by omega) (HOK.out d s HSS.out) hyr hobY (H6.out.lk EY.lk) hpwY
        rw [show (#[(Value.pointer (some ⟨Z.heap.size, 0, none⟩))] ++ #[] : Array Value) = #[.pointer (some ⟨Z.heap.size, 0, none⟩)] from rfl] at CH
        have HCH := Lib.hid CH; have HY := Lib.hid hY; have HEY := Lib.hid EY; have HYR := Lib.hid hyr; have HOBY := Lib.hid hobY
        have HNB := Lib.hid (HOB.out _ _ _ hpwY)
        clear CH hY EY hyr hpwY hobY
        go_wp2_with (rw [HY.out])
        refine HCH.out.mono ?_
        rintro e w5 ⟨rfl, hpw5, htn5, e1, k1, l1, g1, q1, r1, e2, k2, l2, g2, q2, r2, hr5, h65⟩
        have EZY := HEZ.out.trans HEY.out
        have hY0 := EZY.size
        have hZ0 := HEZ.out.size
        have hr0 := htn5.size
        have hY1 := (Array.getElem?_eq_some_iff.1 HYR.out).1
        have hkb : w5.heap[wr.heap.size]? = some (.cells #[.int .u64 (v : Int), .int .u64 (d : Int)] 85 (0, 0)) := by
          have hz := (Array.getElem?_eq_some_iff.1 HZR.out).1
          rw [htn5.block _ (by omega) (by omega) (fun e => by have := (HOB.out _ _ _ HPW.out _ e.symm).2; omega)]
          exact rowE HEY.out HZR.out
        have hpY := EZY.cell HPCR.out
        have hpl := World.block_lt_of_cell? wr _ HPCR.out
        have hp5 : w5.cell? ⟨p, 0, none⟩ = some (.map (some b)) := by
          rw [World.cell?_of_block (htn5.block p (by simp at hpl; omega) (by simp at hpl; omega) (fun e => HPO.out e.symm))]
          exact hpY
        have hn5 : Ln Y w5 := htn5.ln (noNum6 HYR.out) (fun o ho => (HNB.out o ho).1)
        have hbl := HD.out.own.lt
        have hD5 := (HD.out.old HEY.out).keptN hn5 (htn5.block b (by omega) (by have := HLED.out.lt; omega) (fun e => HBO.out e.symm))
        have hps5 := (HPSR.out.ln EZY.lk.ln).ln hn5
        have hT5 : Tn w1 w5 b ob := (HTN.out.trans (Tn.ext EZY b ob) (.inl rfl)).trans htn5 (.inr (by have := HTN.out.size; omega))
        have HPW5 := Lib.hid hpw5; have HR5 := Lib.hid hr5; have H65 := Lib.hid h65; have HKB := Lib.hid hkb; have HP5 := Lib.hid hp5; have HD5 := Lib.hid hD5; have HPS5 := Lib.hid hps5; have HT5 := Lib.hid hT5
        obtain ⟨f0, f1, f2, f3, f4, f5⟩ := row6_cells hr5
        obtain ⟨j1, j2, -, -⟩ := row2_cells hkb
        clear hpw5 htn5 hr5 h65 hkb hp5 hD5 hps5 hT5 hpY hpl hn5 hbl hr0 hY0 hZ0 EZY hY1
        have z1 := HP5.out
        go_wp2_with fail
        go_still_tail 6, (by kernel_rfl)
        change wpList _ _ _ _ _ w5.drew
        generalize hw6 : w5.drew = w6
        have E6 : Ext w5 w6 := by rw [← hw6]; exact (Ext.refl w5).drew
        have hD6 := HD5.out.old E6
        have hM : (mapM M v f (ds.take i)) v d = some s := by rw [mapM_at HNOT.out]; exact HSS.out
        have HMM := Lib.hid hM
        have HD6 := Lib.hid hD6
        have HE6 := Lib.hid E6
        clear hw6 f0 f1 f2 f3 f4 f5 j1 j2 z1 hD6 hM E6
        have hN6 : N < maxLen := by unfold maxLen; omega
        have hown6 := HD6.out.own
        go_wp2_with (first
          | (at_mapUpdate; refine wpList_mapUpdate_own _ rfl _ _ _ 72 rfl 85 78 lawPair Tryz.underlying72 RV b N D rfl hown6 hN6 _ _ (kl v d) rfl rfl (keyOf_pair HV.out HMEM.out.1) _ [] rfl ?_; intro w7 hown7 hg7)
          | fail)
        have htk : ds.take (i + 1) = ds.take i ++ [d] := by rw [List.take_add_one, HDI.out]; rfl
        have hL7 := HD6.out.put (N' := N) HV.out HMEM.out.1 (s := f s) ⟨e1, k1, l1, g1, q1, r1, e2, k2, l2, g2, q2, r2, rfl, H65.out.lk HE6.out.lk⟩ hown7 hg7 (by rw [HMM.out]; exact Nat.le_refl _)
        rw [mapM_step HSS.out, ← htk] at hL7
        have hK7 := HE6.out.lk.trans (HD6.out.isMapB.lk hg7)
        have HL7 := Lib.hid hL7
        have HG7 := Lib.hid (show Led w7 b N (mapM M v f (ds.take (i + 1))) ∧ Pw w7 (i + 1) ((ds.take (i + 1)).foldl (fun a d => upd a (got M v d)) a0) ∧ w7.cell? ⟨p, 0, none⟩ = some (.map (some b)) ∧ PSl w7 pa pn pc v ds ∧ Tn w1 w7 b ob from
          ⟨⟨_, hL7⟩, by
            rw [htk, List.foldl_append]
            show Pw w7 (i + 1) (upd _ (got M v d))
            rw [show got M v d = s by unfold got; rw [HSS.out]; rfl]
            exact HST.out _ _ _ _ HPW5.out hK7, hK7.cell HP5.out, HPS5.out.ln hK7.ln, HT5.out.trans ((Tn.ext HE6.out b ob).trans (Tn.one hg7 ob) (.inl rfl)) (.inl rfl)⟩)
        clear hown7 hg7 hL7 hK7 htk
        go_roundw
        case rel => exact ⟨i + 1, by omega, by go_num, HG7.out⟩
        case measure => simp only [intOf]; omega)

set_option maxHeartbeats 8000000 in
set_option maxRecDepth 100000 in
theorem each_give {α : Type} {w : World} {p b N v : Nat} {M : Stakes} {f : Stk → Stk} {upd : α → Stk → α} {a0 : α} {ob : Option Nat} {Ok : Stk → Prop} {Pw : World → Nat → α → Prop} {pb : Nat} (ask : EachAsk α w p b N v M ob Ok a0 Pw)
    (how : HowAt α Tryz.prog 52 #[.pointer (some ⟨pb, 0, none⟩)] f upd ob Ok N Pw) :
    Calls Tryz.prog 51 #[.pointer (some ⟨p, 0, none⟩), .int .u64 (v : Int), .func (.func 52) #[] #[.pointer (some ⟨pb, 0, none⟩)]] w (EachPost α w p b N v M ob f upd a0 Pw) := by
  obtain ⟨h, hN, hp, hv, hpo, hbo, hob, hst, hP, hok⟩ := ask
  obtain ⟨i0, hi, hz0, hz1, hz2⟩ := info_parts infoPair
  have C1 := Lib.hid (lof_calls h hN hp hv)
  have HL := Lib.hid h; have HPC := Lib.hid hp; have HV := Lib.hid hv; have HOB := Lib.hid hob; have HST := Lib.hid hst; have HP := Lib.hid hP; have HOW := Lib.hid how; have HPO := Lib.hid hpo; have HBO := Lib.hid hbo; have HI := Lib.hid hi; have HOK := Lib.hid hok; have HZ1 := Lib.hid hz1
  clear h hp hv hob hst hP how hpo hbo hok hi hz0 hz1 hz2
  go_enter Tryz.func51, Tryz.ntmps51
  go_wp2_with fail
  refine C1.out.mono ?_
  rintro e w1 ⟨pa, pn, pc, ds, rfl, hps, hds, hpn, hx1⟩
  have HPS := Lib.hid hps; have HDS := Lib.hid hds; have HX1 := Lib.hid hx1
  have HS := Lib.hid (show EachRel α w1 p b N v M ob pa pn pc ds f upd a0 Pw (.int .i64 0) w1 from ⟨0, Nat.zero_le _, rfl, by rw [List.take_zero, mapM_nil]; exact HL.out.old HX1.out, by rw [List.take_zero]; exact HST.out _ _ _ _ HP.out HX1.out.lk, HX1.out.cell HPC.out, HPS.out, Tn.refl _ _ _⟩)
  clear hps hds hx1 C1 HPS
  go_wp2_with fail
  go_loopw [13] (fun iv wr => EachRel α w1 p b N v M ob pa pn pc ds f upd a0 Pw iv wr) (fun iv _ => pn - (intOf iv).toNat)
  case atStart => exact HS.out
  case round =>
    obtain ⟨i, hin, rfl, hled, hpw, hpc, hps, htn⟩ := hrel
    have HLED := Lib.hid hled; have HPW := Lib.hid hpw; have HPCR := Lib.hid hpc; have HPSR := Lib.hid hps; have HTN := Lib.hid htn
    clear hled hpw hpc hps htn
    by_cases hkn : i = pn
    · subst hkn
      have hwhole : ds.take i = ds := List.take_of_length_le (by rw [HPSR.out.len]; exact Nat.le_refl _)
      have HW := Lib.hid hwhole
      clear hwhole
      go_wp2_with fail
      go_end0
      exact ⟨rfl, ds, HDS.out, by rw [← HW.out]; exact HLED.out, by have := HPW.out; rw [HW.out] at this; rw [HPSR.out.len]; exact this, HPCR.out, (Tn.ext HX1.out b ob).trans HTN.out (.inl rfl)⟩
    · have hlt : (i : Int) < (pn : Int) := by omega
      have hil : i < ds.length := by rw [HPSR.out.len]; omega
      obtain ⟨d, hdi⟩ : ∃ d, ds[i]? = some d := ⟨_, List.getElem?_eq_getElem hil⟩
      have hmem := (HDS.out.2 d).1 (List.mem_of_getElem? hdi)
      obtain ⟨s, hs⟩ := Option.isSome_iff_exists.1 hmem.2
      have hnot : d ∉ ds.take i := fun hm => by
        obtain ⟨j, hj, e⟩ := List.mem_iff_getElem.1 hm
        rw [List.length_take] at hj
        rw [List.getElem_take] at e
        have h1 := (List.pairwise_iff_getElem.1 HDS.out.1) j i (by omega) hil (by omega)
        rw [List.getElem?_eq_getElem hil] at hdi
        have h2 := Option.some.inj hdi
        omega
      obtain ⟨gb, hix, hcell⟩ := HPSR.out.ix (P := Tryz.prog) Tryz.underlying110 HI.out HZ1.out
      have x1 := hix i (by omega)
      obtain ⟨x2, x3⟩ := hcell i d hdi
      rw [Nat.zero_add] at x1 x2 x3
      clear hix hcell
      obtain ⟨Z, hZ⟩ : ∃ Z, wr.alloc (.cells #[.int .u64 (v : Int), .int .u64 (d : Int)] 85) = Z := ⟨_, rfl⟩
      have EZ : Ext wr Z := by rw [← hZ]; exact (Ext.refl wr).alloc _
      have hzr : Z.heap[wr.heap.size]? = some (.cells #[.int .u64 (v : Int), .int .u64 (d : Int)] 85 (0, 0)) := by rw [← hZ]; exact heap_alloc_new wr _
      obtain ⟨D, hD⟩ := HLED.out.old EZ
      obtain ⟨val, hat, hsv⟩ := hD.at_ v d s HV.out hmem.1 (by rw [mapM_at hnot]; exact hs)
      obtain ⟨a1, m1, c1, b1, n1, d1, a2, m2, c2, b2, n2, d2, rfl, h6⟩ := hsv
      have hlook : ∀ W', Ext Z W' → (Instr.lookup 72 (.map (some b)) (PairV v d) false).run Tryz.prog W' = .ok (StV a1 m1 c1 b1 n1 d1 a2 m2 c2 b2 n2 d2 s.p s.k) W' := fun W' E => by
        obtain ⟨v0, ps, hrun, hv0⟩ := (hD.old E).own.lookup lawPair Tryz.underlying72 (zeroStk W') (zd := .held stkZ) (zp := []) rfl (keyOf_pair HV.out hmem.1)
        rw [hat] at hv0
        have e : v0 = _ := (DataW.held.inj (Prod.mk.inj (Option.some.inj hv0)).1)
        rw [← e]
        exact hrun
      have HDI := Lib.hid hdi; have HMEM := Lib.hid hmem; have HSS := Lib.hid hs; have HNOT := Lib.hid hnot; have HZ := Lib.hid hZ; have HEZ := Lib.hid EZ; have HZR := Lib.hid hzr; have HD := Lib.hid hD; have H6 := Lib.hid h6; have HAT := Lib.hid hat
      have HBC := Lib.hid (fun w' (h : Ext Z w') => (show w'.cell? ⟨p, 0, none⟩ = some (.map (some b)) ∧ w'.cell? ⟨wr.heap.size, 0, none⟩ = some (.int .u64 (v : Int)) ∧ w'.cell? ⟨wr.heap.size, 1, none⟩ = some (.int .u64 (d : Int)) ∧ (Instr.lookup 72 (.map (some b)) (PairV v d) false).run Tryz.prog w' = .ok (StV a1 m1 c1 b1 n1 d1 a2 m2 c2 b2 n2 d2 s.p s.k) w'
        from ⟨h.cell (EZ.cell HPCR.out), h.cell (row2_cells hzr).1, h.cell (row2_cells hzr).2.1, hlook w' h⟩))
      clear hdi hmem hs hnot hZ EZ hzr hD h6 hat hlook
      go_wp2_with (rw [HZ.out])
      go_region_held3 (fun w' => w'.cell? ⟨p, 0, none⟩ = some (.map (some b)) ∧ w'.cell? ⟨wr.heap.size, 0, none⟩ = some (.int .u64 (v : Int)) ∧ w'.cell? ⟨wr.heap.size, 1, none⟩ = some (.int .u64 (d : Int)) ∧ (Instr.lookup 72 (.map (some b)) (PairV v d) false).run Tryz.prog w' = .ok (StV a1 m1 c1 b1 n1 d1 a2 m2 c2 b2 n2 d2 s.p s.k) w')
        (first | exact HBC.out _ (Ext.refl _).drew | exact HBC.out _ ((Ext.refl _).drew.alloc _) | exact HBC.out _ ((Ext.refl _).alloc _).drew | exact HBC.out _ ((Ext.refl _).alloc _))
        (fail)
      all_goals (
        obtain ⟨Y, hY⟩ : ∃ Y, (Z.alloc (.cells #[.slice a1 m1 c1, .slice b1 n1 d1, .slice a2 m2 c2, .slice b2 n2 d2, .int .i64 s.p, .int .i64 s.k] 78)).drew = Y := ⟨_, rfl⟩
        have EY : Ext Z Y := by rw [← hY]; exact ((Ext.refl Z).alloc _).drew
        have hyr : Y.heap[Z.heap.size]? = some (.cells #[.slice a1 m1 c1, .slice b1 n1 d1, .slice a2 m2 c2, .slice b2 n2 d2, .int .i64 s.p, .int .i64 s.k] 78 (0, 0)) := by rw [← hY]; exact heap_alloc_new Z _
        have hpwY := HST.out _ _ _ _ HPW.out (HEZ.out.trans EY).lk
        have hobY : some Z.heap.size ≠ ob := fun e => by have := (HOB.out _ _ _ HPW.out _ e.symm).2; have := HEZ.out.size; omega
        have CH := HOW.out Y Z.heap.size a1 m1 c1 b1 n1 d1 a2 m2 c2 b2 n2 d2 s i _ (by omega) (HOK.out d s HSS.out) hyr hobY (H6.out.lk EY.lk) hpwY
        rw [show (#[(Value.pointer (some ⟨Z.heap.size, 0, none⟩))] ++ #[.pointer (some ⟨pb, 0, none⟩)] : Array Value) = #[.pointer (some ⟨Z.heap.size, 0, none⟩), .pointer (some ⟨pb, 0, none⟩)] from rfl] at CH
        have HCH := Lib.hid CH; have HY := Lib.hid hY; have HEY := Lib.hid EY; have HYR := Lib.hid hyr; have HOBY := Lib.hid hobY
        have HNB := Lib.hid (HOB.out _ _ _ hpwY)
        clear CH hY EY hyr hpwY hobY
        go_wp2_with (rw [HY.out])
        refine HCH.out.mono ?_
        rintro e w5 ⟨rfl, hpw5, htn5, e1, k1, l1, g1, q1, r1, e2, k2, l2, g2, q2, r2, hr5, h65⟩
        have EZY := HEZ.out.trans HEY.out
        have hY0 := EZY.size
        have hZ0 := HEZ.out.size
        have hr0 := htn5.size
        have hY1 := (Array.getElem?_eq_some_iff.1 HYR.out).1
        have hkb : w5.heap[wr.heap.size]? = some (.cells #[.int .u64 (v : Int), .int .u64 (d : Int)] 85 (0, 0)) := by
          have hz := (Array.getElem?_eq_some_iff.1 HZR.out).1
          rw [htn5.block _ (by omega) (by omega) (fun e => by have := (HOB.out _ _ _ HPW.out _ e.symm).2; omega)]
          exact rowE HEY.out HZR.out
        have hpY := EZY.cell HPCR.out
        have hpl := World.block_lt_of_cell? wr _ HPCR.out
        have hp5 : w5.cell? ⟨p, 0, none⟩ = some (.map (some b)) := by
          rw [World.cell?_of_block (htn5.block p (by simp at hpl; omega) (by simp at hpl; omega) (fun e => HPO.out e.symm))]
          exact hpY
        have hn5 : Ln Y w5 := htn5.ln (noNum6 HYR.out) (fun o ho => (HNB.out o ho).1)
        have hbl := HD.out.own.lt
        have hD5 := (HD.out.old HEY.out).keptN hn5 (htn5.block b (by omega) (by have := HLED.out.lt; omega) (fun e => HBO.out e.symm))
        have hps5 := (HPSR.out.ln EZY.lk.ln).ln hn5
        have hT5 : Tn w1 w5 b ob := (HTN.out.trans (Tn.ext EZY b ob) (.inl rfl)).trans htn5 (.inr (by have := HTN.out.size; omega))
        have HPW5 := Lib.hid hpw5; have HR5 := Lib.hid hr5; have H65 := Lib.hid h65; have HKB := Lib.hid hkb; have HP5 := Lib.hid hp5; have HD5 := Lib.hid hD5; have HPS5 := Lib.hid hps5; have HT5 := Lib.hid hT5
        obtain ⟨f0, f1, f2, f3, f4, f5⟩ := row6_cells hr5
        obtain ⟨j1, j2, -, -⟩ := row2_cells hkb
        clear hpw5 htn5 hr5 h65 hkb hp5 hD5 hps5 hT5 hpY hpl hn5 hbl hr0 hY0 hZ0 EZY hY1
        have z1 := HP5.out
        go_wp2_with fail
        go_still_tail 6, (by kernel_rfl)
        change wpList _ _ _ _ _ w5.drew
        generalize hw6 : w5.drew = w6
        have E6 : Ext w5 w6 := by rw [← hw6]; exact (Ext.refl w5).drew
        have hD6 := HD5.out.old E6
        have hM : (mapM M v f (ds.take i)) v d = some s := by rw [mapM_at HNOT.out]; exact HSS.out
        have HMM := Lib.hid hM
        have HD6 := Lib.hid hD6
        have HE6 := Lib.hid E6
        clear hw6 f0 f1 f2 f3 f4 f5 j1 j2 z1 hD6 hM E6
        have hN6 : N < maxLen := by unfold maxLen; omega
        have hown6 := HD6.out.own
        go_wp2_with (first
          | (at_mapUpdate; refine wpList_mapUpdate_own _ rfl _ _ _ 72 rfl 85 78 lawPair Tryz.underlying72 RV b N D rfl hown6 hN6 _ _ (kl v d) rfl rfl (keyOf_pair HV.out HMEM.out.1) _ [] rfl ?_; intro w7 hown7 hg7)
          | fail)
        have htk : ds.take (i + 1) = ds.take i ++ [d] := by rw [List.take_add_one, HDI.out]; rfl
        have hL7 := HD6.out.put (N' := N) HV.out HMEM.out.1 (s := f s) ⟨e1, k1, l1, g1, q1, r1, e2, k2, l2, g2, q2, r2, rfl, H65.out.lk HE6.out.lk⟩ hown7 hg7 (by rw [HMM.out]; exact Nat.le_refl _)
        rw [mapM_step HSS.out, ← htk] at hL7
        have hK7 := HE6.out.lk.trans (HD6.out.isMapB.lk hg7)
        have HL7 := Lib.hid hL7
        have HG7 := Lib.hid (show Led w7 b N (mapM M v f (ds.take (i + 1))) ∧ Pw w7 (i + 1) ((ds.take (i + 1)).foldl (fun a d => upd a (got M v d)) a0) ∧ w7.cell? ⟨p, 0, none⟩ = some (.map (some b)) ∧ PSl w7 pa pn pc v ds ∧ Tn w1 w7 b ob from
          ⟨⟨_, hL7⟩, by
            rw [htk, List.foldl_append]
            show Pw w7 (i + 1) (upd _ (got M v d))
            rw [show got M v d = s by unfold got; rw [HSS.out]; rfl]
            exact HST.out _ _ _ _ HPW5.out hK7, hK7.cell HP5.out, HPS5.out.ln hK7.ln, HT5.out.trans ((Tn.ext HE6.out b ob).trans (Tn.one hg7 ob) (.inl rfl)) (.inl rfl)⟩)
        clear hown7 hg7 hL7 hK7 htk
        go_roundw
        case rel => exact ⟨i + 1, by omega, by go_num, HG7.out⟩
        case measure => simp only [intOf]; omega)

set_option maxHeartbeats 8000000 in
set_option maxRecDepth 100000 in
theorem each_cut {α : Type} {w : World} {p b N v : Nat} {M : Stakes} {f : Stk → Stk} {upd : α → Stk → α} {a0 : α} {ob : Option Nat} {Ok : Stk → Prop} {Pw : World → Nat → α → Prop} {pb : Nat} (ask : EachAsk α w p b N v M ob Ok a0 Pw)
    (how : HowAt α Tryz.prog 66 #[.pointer (some ⟨pb, 0, none⟩)] f upd ob Ok N Pw) :
    Calls Tryz.prog 51 #[.pointer (some ⟨p, 0, none⟩), .int .u64 (v : Int), .func (.func 66) #[] #[.pointer (some ⟨pb, 0, none⟩)]] w (EachPost α w p b N v M ob f upd a0 Pw) := by
  obtain ⟨h, hN, hp, hv, hpo, hbo, hob, hst, hP, hok⟩ := ask
  obtain ⟨i0, hi, hz0, hz1, hz2⟩ := info_parts infoPair
  have C1 := Lib.hid (lof_calls h hN hp hv)
  have HL := Lib.hid h; have HPC := Lib.hid hp; have HV := Lib.hid hv; have HOB := Lib.hid hob; have HST := Lib.hid hst; have HP := Lib.hid hP; have HOW := Lib.hid how; have HPO := Lib.hid hpo; have HBO := Lib.hid hbo; have HI := Lib.hid hi; have HOK := Lib.hid hok; have HZ1 := Lib.hid hz1
  clear h hp hv hob hst hP how hpo hbo hok hi hz0 hz1 hz2
  go_enter Tryz.func51, Tryz.ntmps51
  go_wp2_with fail
  refine C1.out.mono ?_
  rintro e w1 ⟨pa, pn, pc, ds, rfl, hps, hds, hpn, hx1⟩
  have HPS := Lib.hid hps; have HDS := Lib.hid hds; have HX1 := Lib.hid hx1
  have HS := Lib.hid (show EachRel α w1 p b N v M ob pa pn pc ds f upd a0 Pw (.int .i64 0) w1 from ⟨0, Nat.zero_le _, rfl, by rw [List.take_zero, mapM_nil]; exact HL.out.old HX1.out, by rw [List.take_zero]; exact HST.out _ _ _ _ HP.out HX1.out.lk, HX1.out.cell HPC.out, HPS.out, Tn.refl _ _ _⟩)
  clear hps hds hx1 C1 HPS
  go_wp2_with fail
  go_loopw [13] (fun iv wr => EachRel α w1 p b N v M ob pa pn pc ds f upd a0 Pw iv wr) (fun iv _ => pn - (intOf iv).toNat)
  case atStart => exact HS.out
  case round =>
    obtain ⟨i, hin, rfl, hled, hpw, hpc, hps, htn⟩ := hrel
    have HLED := Lib.hid hled; have HPW := Lib.hid hpw; have HPCR := Lib.hid hpc; have HPSR := Lib.hid hps; have HTN := Lib.hid htn
    clear hled hpw hpc hps htn
    by_cases hkn : i = pn
    · subst hkn
      have hwhole : ds.take i = ds := List.take_of_length_le (by rw [HPSR.out.len]; exact Nat.le_refl _)
      have HW := Lib.hid hwhole
      clear hwhole
      go_wp2_with fail
      go_end0
      exact ⟨rfl, ds, HDS.out, by rw [← HW.out]; exact HLED.out, by have := HPW.out; rw [HW.out] at this; rw [HPSR.out.len]; exact this, HPCR.out, (Tn.ext HX1.out b ob).trans HTN.out (.inl rfl)⟩
    · have hlt : (i : Int) < (pn : Int) := by omega
      have hil : i < ds.length := by rw [HPSR.out.len]; omega
      obtain ⟨d, hdi⟩ : ∃ d, ds[i]? = some d := ⟨_, List.getElem?_eq_getElem hil⟩
      have hmem := (HDS.out.2 d).1 (List.mem_of_getElem? hdi)
      obtain ⟨s, hs⟩ := Option.isSome_iff_exists.1 hmem.2
      have hnot : d ∉ ds.take i := fun hm => by
        obtain ⟨j, hj, e⟩ := List.mem_iff_getElem.1 hm
        rw [List.length_take] at hj
        rw [List.getElem_take] at e
        have h1 := (List.pairwise_iff_getElem.1 HDS.out.1) j i (by omega) hil (by omega)
        rw [List.getElem?_eq_getElem hil] at hdi
        have h2 := Option.some.inj hdi
        omega
      obtain ⟨gb, hix, hcell⟩ := HPSR.out.ix (P := Tryz.prog) Tryz.underlying110 HI.out HZ1.out
      have x1 := hix i (by omega)
      obtain ⟨x2, x3⟩ := hcell i d hdi
      rw [Nat.zero_add] at x1 x2 x3
      clear hix hcell
      obtain ⟨Z, hZ⟩ : ∃ Z, wr.alloc (.cells #[.int .u64 (v : Int), .int .u64 (d : Int)] 85) = Z := ⟨_, rfl⟩
      have EZ : Ext wr Z := by rw [← hZ]; exact (Ext.refl wr).alloc _
      have hzr : Z.heap[wr.heap.size]? = some (.cells #[.int .u64 (v : Int), .int .u64 (d : Int)] 85 (0, 0)) := by rw [← hZ]; exact heap_alloc_new wr _
      obtain ⟨D, hD⟩ := HLED.out.old EZ
      obtain ⟨val, hat, hsv⟩ := hD.at_ v d s HV.out hmem.1 (by rw [mapM_at hnot]; exact hs)
      obtain ⟨a1, m1, c1, b1, n1, d1, a2, m2, c2, b2, n2, d2, rfl, h6⟩ := hsv
      have hlook : ∀ W', Ext Z W' → (Instr.lookup 72 (.map (some b)) (PairV v d) false).run Tryz.prog W' = .ok (StV a1 m1 c1 b1 n1 d1 a2 m2 c2 b2 n2 d2 s.p s.k) W' := fun W' E => by
        obtain ⟨v0, ps, hrun, hv0⟩ := (hD.old E).own.lookup lawPair Tryz.underlying72 (zeroStk W') (zd := .held stkZ) (zp := []) rfl (keyOf_pair HV.out hmem.1)
        rw [hat] at hv0
        have e : v0 = _ := (DataW.held.inj (Prod.mk.inj (Option.some.inj hv0)).1)
        rw [← e]
        exact hrun
      have HDI := Lib.hid hdi; have HMEM := Lib.hid hmem; have HSS := Lib.hid hs; have HNOT := Lib.hid hnot; have HZ := Lib.hid hZ; have HEZ := Lib.hid EZ; have HZR := Lib.hid hzr; have HD := Lib.hid hD; have H6 := Lib.hid h6; have HAT := Lib.hid hat
      have HBC := Lib.hid (fun w' (h : Ext Z w') => (show w'.cell? ⟨p, 0, none⟩ = some (.map (some b)) ∧ w'.cell? ⟨wr.heap.size, 0, none⟩ = some (.int .u64 (v : Int)) ∧ w'.cell? ⟨wr.heap.size, 1, none⟩ = some (.int .u64 (d : Int)) ∧ (Instr.lookup 72 (.map (some b)) (PairV v d) false).run Tryz.prog w' = .ok (StV a1 m1 c1 b1 n1 d1 a2 m2 c2 b2 n2 d2 s.p s.k) w'
        from ⟨h.cell (EZ.cell HPCR.out), h.cell (row2_cells hzr).1, h.cell (row2_cells hzr).2.1, hlook w' h⟩))
      clear hdi hmem hs hnot hZ EZ hzr hD h6 hat hlook
      go_wp2_with (rw [HZ.out])
      go_region_held3 (fun w' => w'.cell? ⟨p, 0, none⟩ = some (.map (some b)) ∧ w'.cell? ⟨wr.heap.size, 0, none⟩ = some (.int .u64 (v : Int)) ∧ w'.cell? ⟨wr.heap.size, 1, none⟩ = some (.int .u64 (d : Int)) ∧ (Instr.lookup 72 (.map (some b)) (PairV v d) false).run Tryz.prog w' = .ok (StV a1 m1 c1 b1 n1 d1 a2 m2 c2 b2 n2 d2 s.p s.k) w')
        (first | exact HBC.out _ (Ext.refl _).drew | exact HBC.out _ ((Ext.refl _).drew.alloc _) | exact HBC.out _ ((Ext.refl _).alloc _).drew | exact HBC.out _ ((Ext.refl _).alloc _))
        (fail)
      all_goals (
        obtain ⟨Y, hY⟩ : ∃ Y, (Z.alloc (.cells #[.slice a1 m1 c1, .slice b1 n1 d1, .slice a2 m2 c2, .slice b2 n2 d2, .int .i64 s.p, .int .i64 s.k] 78)).drew = Y := ⟨_, rfl⟩
        have EY : Ext Z Y := by rw [← hY]; exact ((Ext.refl Z).alloc _).drew
        have hyr : Y.heap[Z.heap.size]? = some (.cells #[.slice a1 m1 c1, .slice b1 n1 d1, .slice a2 m2 c2, .slice b2 n2 d2, .int .i64 s.p, .int .i64 s.k] 78 (0, 0)) := by rw [← hY]; exact heap_alloc_new Z _
        have hpwY := HST.out _ _ _ _ HPW.out (HEZ.out.trans EY).lk
        have hobY : some Z.heap.size ≠ ob := fun e => by have := (HOB.out _ _ _ HPW.out _ e.symm).2; have := HEZ.out.size; omega
        have CH := HOW.out Y Z.heap.size a1 m1 c1 b1 n1 d1 a2 m2 c2 b2 n2 d2 s i _ (by omega) (HOK.out d s HSS.out) hyr hobY (H6.out.lk EY.lk) hpwY
        rw [show (#[(Value.pointer (some ⟨Z.heap.size, 0, none⟩))] ++ #[.pointer (some ⟨pb, 0, none⟩)] : Array Value) = #[.pointer (some ⟨Z.heap.size, 0, none⟩), .pointer (some ⟨pb, 0, none⟩)] from rfl] at CH
        have HCH := Lib.hid CH; have HY := Lib.hid hY; have HEY := Lib.hid EY; have HYR := Lib.hid hyr; have HOBY := Lib.hid hobY
        have HNB := Lib.hid (HOB.out _ _ _ hpwY)
        clear CH hY EY hyr hpwY hobY
        go_wp2_with (rw [HY.out])
        refine HCH.out.mono ?_
        rintro e w5 ⟨rfl, hpw5, htn5, e1, k1, l1, g1, q1, r1, e2, k2, l2, g2, q2, r2, hr5, h65⟩
        have EZY := HEZ.out.trans HEY.out
        have hY0 := EZY.size
        have hZ0 := HEZ.out.size
        have hr0 := htn5.size
        have hY1 := (Array.getElem?_eq_some_iff.1 HYR.out).1
        have hkb : w5.heap[wr.heap.size]? = some (.cells #[.int .u64 (v : Int), .int .u64 (d : Int)] 85 (0, 0)) := by
          have hz := (Array.getElem?_eq_some_iff.1 HZR.out).1
          rw [htn5.block _ (by omega) (by omega) (fun e => by have := (HOB.out _ _ _ HPW.out _ e.symm).2; omega)]
          exact rowE HEY.out HZR.out
        have hpY := EZY.cell HPCR.out
        have hpl := World.block_lt_of_cell? wr _ HPCR.out
        have hp5 : w5.cell? ⟨p, 0, none⟩ = some (.map (some b)) := by
          rw [World.cell?_of_block (htn5.block p (by simp at hpl; omega) (by simp at hpl; omega) (fun e => HPO.out e.symm))]
          exact hpY
        have hn5 : Ln Y w5 := htn5.ln (noNum6 HYR.out) (fun o ho => (HNB.out o ho).1)
        have hbl := HD.out.own.lt
        have hD5 := (HD.out.old HEY.out).keptN hn5 (htn5.block b (by omega) (by have := HLED.out.lt; omega) (fun e => HBO.out e.symm))
        have hps5 := (HPSR.out.ln EZY.lk.ln).ln hn5
        have hT5 : Tn w1 w5 b ob := (HTN.out.trans (Tn.ext EZY b ob) (.inl rfl)).trans htn5 (.inr (by have := HTN.out.size; omega))
        have HPW5 := Lib.hid hpw5; have HR5 := Lib.hid hr5; have H65 := Lib.hid h65; have HKB := Lib.hid hkb; have HP5 := Lib.hid hp5; have HD5 := Lib.hid hD5; have HPS5 := Lib.hid hps5; have HT5 := Lib.hid hT5
        obtain ⟨f0, f1, f2, f3, f4, f5⟩ := row6_cells hr5
        obtain ⟨j1, j2, -, -⟩ := row2_cells hkb
        clear hpw5 htn5 hr5 h65 hkb hp5 hD5 hps5 hT5 hpY hpl hn5 hbl hr0 hY0 hZ0 EZY hY1
        have z1 := HP5.out
        go_wp2_with fail
        go_still_tail 6, (by kernel_rfl)
        change wpList _ _ _ _ _ w5.drew
        generalize hw6 : w5.drew = w6
        have E6 : Ext w5 w6 := by rw [← hw6]; exact (Ext.refl w5).drew
        have hD6 := HD5.out.old E6
        have hM : (mapM M v f (ds.take i)) v d = some s := by rw [mapM_at HNOT.out]; exact HSS.out
        have HMM := Lib.hid hM
        have HD6 := Lib.hid hD6
        have HE6 := Lib.hid E6
        clear hw6 f0 f1 f2 f3 f4 f5 j1 j2 z1 hD6 hM E6
        have hN6 : N < maxLen := by unfold maxLen; omega
        have hown6 := HD6.out.own
        go_wp2_with (first
          | (at_mapUpdate; refine wpList_mapUpdate_own _ rfl _ _ _ 72 rfl 85 78 lawPair Tryz.underlying72 RV b N D rfl hown6 hN6 _ _ (kl v d) rfl rfl (keyOf_pair HV.out HMEM.out.1) _ [] rfl ?_; intro w7 hown7 hg7)
          | fail)
        have htk : ds.take (i + 1) = ds.take i ++ [d] := by rw [List.take_add_one, HDI.out]; rfl
        have hL7 := HD6.out.put (N' := N) HV.out HMEM.out.1 (s := f s) ⟨e1, k1, l1, g1, q1, r1, e2, k2, l2, g2, q2, r2, rfl, H65.out.lk HE6.out.lk⟩ hown7 hg7 (by rw [HMM.out]; exact Nat.le_refl _)
        rw [mapM_step HSS.out, ← htk] at hL7
        have hK7 := HE6.out.lk.trans (HD6.out.isMapB.lk hg7)
        have HL7 := Lib.hid hL7
        have HG7 := Lib.hid (show Led w7 b N (mapM M v f (ds.take (i + 1))) ∧ Pw w7 (i + 1) ((ds.take (i + 1)).foldl (fun a d => upd a (got M v d)) a0) ∧ w7.cell? ⟨p, 0, none⟩ = some (.map (some b)) ∧ PSl w7 pa pn pc v ds ∧ Tn w1 w7 b ob from
          ⟨⟨_, hL7⟩, by
            rw [htk, List.foldl_append]
            show Pw w7 (i + 1) (upd _ (got M v d))
            rw [show got M v d = s by unfold got; rw [HSS.out]; rfl]
            exact HST.out _ _ _ _ HPW5.out hK7, hK7.cell HP5.out, HPS5.out.ln hK7.ln, HT5.out.trans ((Tn.ext HE6.out b ob).trans (Tn.one hg7 ob) (.inl rfl)) (.inl rfl)⟩)
        clear hown7 hg7 hL7 hK7 htk
        go_roundw
        case rel => exact ⟨i + 1, by omega, by go_num, HG7.out⟩
        case measure => simp only [intOf]; omega)

set_option maxHeartbeats 8000000 in
set_option maxRecDepth 100000 in
theorem each_stakes {α : Type} {w : World} {p b N v : Nat} {M : Stakes} {f : Stk → Stk} {upd : α → Stk → α} {a0 : α} {ob : Option Nat} {Ok : Stk → Prop} {Pw : World → Nat → α → Prop} {pb : Nat} (ask : EachAsk α w p b N v M ob Ok a0 Pw)
    (how : HowAt α Tryz.prog 67 #[.pointer (some ⟨pb, 0, none⟩)] f upd ob Ok N Pw) :
    Calls Tryz.prog 51 #[.pointer (some ⟨p, 0, none⟩), .int .u64 (v : Int), .func (.func 67) #[] #[.pointer (some ⟨pb, 0, none⟩)]] w (EachPost α w p b N v M ob f upd a0 Pw) := by
  obtain ⟨h, hN, hp, hv, hpo, hbo, hob, hst, hP, hok⟩ := ask
  obtain ⟨i0, hi, hz0, hz1, hz2⟩ := info_parts infoPair
  have C1 := Lib.hid (lof_calls h hN hp hv)
  have HL := Lib.hid h; have HPC := Lib.hid hp; have HV := Lib.hid hv; have HOB := Lib.hid hob; have HST := Lib.hid hst; have HP := Lib.hid hP; have HOW := Lib.hid how; have HPO := Lib.hid hpo; have HBO := Lib.hid hbo; have HI := Lib.hid hi; have HOK := Lib.hid hok; have HZ1 := Lib.hid hz1
  clear h hp hv hob hst hP how hpo hbo hok hi hz0 hz1 hz2
  go_enter Tryz.func51, Tryz.ntmps51
  go_wp2_with fail
  refine C1.out.mono ?_
  rintro e w1 ⟨pa, pn, pc, ds, rfl, hps, hds, hpn, hx1⟩
  have HPS := Lib.hid hps; have HDS := Lib.hid hds; have HX1 := Lib.hid hx1
  have HS := Lib.hid (show EachRel α w1 p b N v M ob pa pn pc ds f upd a0 Pw (.int .i64 0) w1 from ⟨0, Nat.zero_le _, rfl, by rw [List.take_zero, mapM_nil]; exact HL.out.old HX1.out, by rw [List.take_zero]; exact HST.out _ _ _ _ HP.out HX1.out.lk, HX1.out.cell HPC.out, HPS.out, Tn.refl _ _ _⟩)
  clear hps hds hx1 C1 HPS
  go_wp2_with fail
  go_loopw [13] (fun iv wr => EachRel α w1 p b N v M ob pa pn pc ds f upd a0 Pw iv wr) (fun iv _ => pn - (intOf iv).toNat)
  case atStart => exact HS.out
  case round =>
    obtain ⟨i, hin, rfl, hled, hpw, hpc, hps, htn⟩ := hrel
    have HLED := Lib.hid hled; have HPW := Lib.hid hpw; have HPCR := Lib.hid hpc; have HPSR := Lib.hid hps; have HTN := Lib.hid htn
    clear hled hpw hpc hps htn
    by_cases hkn : i = pn
    · subst hkn
      have hwhole : ds.take i = ds := List.take_of_length_le (by rw [HPSR.out.len]; exact Nat.le_refl _)
      have HW := Lib.hid hwhole
      clear hwhole
      go_wp2_with fail
      go_end0
      exact ⟨rfl, ds, HDS.out, by rw [← HW.out]; exact HLED.out, by have := HPW.out; rw [HW.out] at this; rw [HPSR.out.len]; exact this, HPCR.out, (Tn.ext HX1.out b ob).trans HTN.out (.inl rfl)⟩
    · have hlt : (i : Int) < (pn : Int) := by omega
      have hil : i < ds.length := by rw [HPSR.out.len]; omega
      obtain ⟨d, hdi⟩ : ∃ d, ds[i]? = some d := ⟨_, List.getElem?_eq_getElem hil⟩
      have hmem := (HDS.out.2 d).1 (List.mem_of_getElem? hdi)
      obtain ⟨s, hs⟩ := Option.isSome_iff_exists.1 hmem.2
      have hnot : d ∉ ds.take i := fun hm => by
        obtain ⟨j, hj, e⟩ := List.mem_iff_getElem.1 hm
        rw [List.length_take] at hj
        rw [List.getElem_take] at e
        have h1 := (List.pairwise_iff_getElem.1 HDS.out.1) j i (by omega) hil (by omega)
        rw [List.getElem?_eq_getElem hil] at hdi
        have h2 := Option.some.inj hdi
        omega
      obtain ⟨gb, hix, hcell⟩ := HPSR.out.ix (P := Tryz.prog) Tryz.underlying110 HI.out HZ1.out
      have x1 := hix i (by omega)
      obtain ⟨x2, x3⟩ := hcell i d hdi
      rw [Nat.zero_add] at x1 x2 x3
      clear hix hcell
      obtain ⟨Z, hZ⟩ : ∃ Z, wr.alloc (.cells #[.int .u64 (v : Int), .int .u64 (d : Int)] 85) = Z := ⟨_, rfl⟩
      have EZ : Ext wr Z := by rw [← hZ]; exact (Ext.refl wr).alloc _
      have hzr : Z.heap[wr.heap.size]? = some (.cells #[.int .u64 (v : Int), .int .u64 (d : Int)] 85 (0, 0)) := by rw [← hZ]; exact heap_alloc_new wr _
      obtain ⟨D, hD⟩ := HLED.out.old EZ
      obtain ⟨val, hat, hsv⟩ := hD.at_ v d s HV.out hmem.1 (by rw [mapM_at hnot]; exact hs)
      obtain ⟨a1, m1, c1, b1, n1, d1, a2, m2, c2, b2, n2, d2, rfl, h6⟩ := hsv
      have hlook : ∀ W', Ext Z W' → (Instr.lookup 72 (.map (some b)) (PairV v d) false).run Tryz.prog W' = .ok (StV a1 m1 c1 b1 n1 d1 a2 m2 c2 b2 n2 d2 s.p s.k) W' := fun W' E => by
        obtain ⟨v0, ps, hrun, hv0⟩ := (hD.old E).own.lookup lawPair Tryz.underlying72 (zeroStk W') (zd := .held stkZ) (zp := []) rfl (keyOf_pair HV.out hmem.1)
        rw [hat] at hv0
        have e : v0 = _ := (DataW.held.inj (Prod.mk.inj (Option.some.inj hv0)).1)
        rw [← e]
        exact hrun
      have HDI := Lib.hid hdi; have HMEM := Lib.hid hmem; have HSS := Lib.hid hs; have HNOT := Lib.hid hnot; have HZ := Lib.hid hZ; have HEZ := Lib.hid EZ; have HZR := Lib.hid hzr; have HD := Lib.hid hD; have H6 := Lib.hid h6; have HAT := Lib.hid hat
      have HBC := Lib.hid (fun w' (h : Ext Z w') => (show w'.cell? ⟨p, 0, none⟩ = some (.map (some b)) ∧ w'.cell? ⟨wr.heap.size, 0, none⟩ = some (.int .u64 (v : Int)) ∧ w'.cell? ⟨wr.heap.size, 1, none⟩ = some (.int .u64 (d : Int)) ∧ (Instr.lookup 72 (.map (some b)) (PairV v d) false).run Tryz.prog w' = .ok (StV a1 m1 c1 b1 n1 d1 a2 m2 c2 b2 n2 d2 s.p s.k) w'
        from ⟨h.cell (EZ.cell HPCR.out), h.cell (row2_cells hzr).1, h.cell (row2_cells hzr).2.1, hlook w' h⟩))
      clear hdi hmem hs hnot hZ EZ hzr hD h6 hat hlook
      go_wp2_with (rw [HZ.out])
      go_region_held3 (fun w' => w'.cell? ⟨p, 0, none⟩ = some (.map (some b)) ∧ w'.cell? ⟨wr.heap.size, 0, none⟩ = some (.int .u64 (v : Int)) ∧ w'.cell? ⟨wr.heap.size, 1, none⟩ = some (.int .u64 (d : Int)) ∧ (Instr.lookup 72 (.map (some b)) (PairV v d) false).run Tryz.prog w' = .ok (StV a1 m1 c1 b1 n1 d1 a2 m2 c2 b2 n2 d2 s.p s.k) w')
        (first | exact HBC.out _ (Ext.refl _).drew | exact HBC.out _ ((Ext.refl _).drew.alloc _) | exact HBC.out _ ((Ext.refl _).alloc _).drew | exact HBC.out _ ((Ext.refl _).alloc _))
        (fail)
      all_goals (
        obtain ⟨Y, hY⟩ : ∃ Y, (Z.alloc (.cells #[.slice a1 m1 c1, .slice b1 n1 d1, .slice a2 m2 c2, .slice b2 n2 d2, .int .i64 s.p, .int .i64 s.k] 78)).drew = Y := ⟨_, rfl⟩
        have EY : Ext Z Y := by rw [← hY]; exact ((Ext.refl Z).alloc _).drew
        have hyr : Y.heap[Z.heap.size]? = some (.cells #[.slice a1 m1 c1, .slice b1 n1 d1, .slice a2 m2 c2, .slice b2 n2 d2, .int .i64 s.p, .int .i64 s.k] 78 (0, 0)) := by rw [← hY]; exact heap_alloc_new Z _
        have hpwY := HST.out _ _ _ _ HPW.out (HEZ.out.trans EY).lk
        have hobY : some Z.heap.size ≠ ob := fun e => by have := (HOB.out _ _ _ HPW.out _ e.symm).2; have := HEZ.out.size; omega
        have CH := HOW.out Y Z.heap.size a1 m1 c1 b1 n1 d1 a2 m2 c2 b2 n2 d2 s i _ (by omega) (HOK.out d s HSS.out) hyr hobY (H6.out.lk EY.lk) hpwY
        rw [show (#[(Value.pointer (some ⟨Z.heap.size, 0, none⟩))] ++ #[.pointer (some ⟨pb, 0, none⟩)] : Array Value) = #[.pointer (some ⟨Z.heap.size, 0, none⟩), .pointer (some ⟨pb, 0, none⟩)] from rfl] at CH
        have HCH := Lib.hid CH; have HY := Lib.hid hY; have HEY := Lib.hid EY; have HYR := Lib.hid hyr; have HOBY := Lib.hid hobY
        have HNB := Lib.hid (HOB.out _ _ _ hpwY)
        clear CH hY EY hyr hpwY hobY
        go_wp2_with (rw [HY.out])
        refine HCH.out.mono ?_
        rintro e w5 ⟨rfl, hpw5, htn5, e1, k1, l1, g1, q1, r1, e2, k2, l2, g2, q2, r2, hr5, h65⟩
        have EZY := HEZ.out.trans HEY.out
        have hY0 := EZY.size
        have hZ0 := HEZ.out.size
        have hr0 := htn5.size
        have hY1 := (Array.getElem?_eq_some_iff.1 HYR.out).1
        have hkb : w5.heap[wr.heap.size]? = some (.cells #[.int .u64 (v : Int), .int .u64 (d : Int)] 85 (0, 0)) := by
          have hz := (Array.getElem?_eq_some_iff.1 HZR.out).1
          rw [htn5.block _ (by omega) (by omega) (fun e => by have := (HOB.out _ _ _ HPW.out _ e.symm).2; omega)]
          exact rowE HEY.out HZR.out
        have hpY := EZY.cell HPCR.out
        have hpl := World.block_lt_of_cell? wr _ HPCR.out
        have hp5 : w5.cell? ⟨p, 0, none⟩ = some (.map (some b)) := by
          rw [World.cell?_of_block (htn5.block p (by simp at hpl; omega) (by simp at hpl; omega) (fun e => HPO.out e.symm))]
          exact hpY
        have hn5 : Ln Y w5 := htn5.ln (noNum6 HYR.out) (fun o ho => (HNB.out o ho).1)
        have hbl := HD.out.own.lt
        have hD5 := (HD.out.old HEY.out).keptN hn5 (htn5.block b (by omega) (by have := HLED.out.lt; omega) (fun e => HBO.out e.symm))
        have hps5 := (HPSR.out.ln EZY.lk.ln).ln hn5
        have hT5 : Tn w1 w5 b ob := (HTN.out.trans (Tn.ext EZY b ob) (.inl rfl)).trans htn5 (.inr (by have := HTN.out.size; omega))
        have HPW5 := Lib.hid hpw5; have HR5 := Lib.hid hr5; have H65 := Lib.hid h65; have HKB := Lib.hid hkb; have HP5 := Lib.hid hp5; have HD5 := Lib.hid hD5; have HPS5 := Lib.hid hps5; have HT5 := Lib.hid hT5
        obtain ⟨f0, f1, f2, f3, f4, f5⟩ := row6_cells hr5
        obtain ⟨j1, j2, -, -⟩ := row2_cells hkb
        clear hpw5 htn5 hr5 h65 hkb hp5 hD5 hps5 hT5 hpY hpl hn5 hbl hr0 hY0 hZ0 EZY hY1
        have z1 := HP5.out
        go_wp2_with fail
        go_still_tail 6, (by kernel_rfl)
        change wpList _ _ _ _ _ w5.drew
        generalize hw6 : w5.drew = w6
        have E6 : Ext w5 w6 := by rw [← hw6]; exact (Ext.refl w5).drew
        have hD6 := HD5.out.old E6
        have hM : (mapM M v f (ds.take i)) v d = some s := by rw [mapM_at HNOT.out]; exact HSS.out
        have HMM := Lib.hid hM
        have HD6 := Lib.hid hD6
        have HE6 := Lib.hid E6
        clear hw6 f0 f1 f2 f3 f4 f5 j1 j2 z1 hD6 hM E6
        have hN6 : N < maxLen := by unfold maxLen; omega
        have hown6 := HD6.out.own
        go_wp2_with (first
          | (at_mapUpdate; refine wpList_mapUpdate_own _ rfl _ _ _ 72 rfl 85 78 lawPair Tryz.underlying72 RV b N D rfl hown6 hN6 _ _ (kl v d) rfl rfl (keyOf_pair HV.out HMEM.out.1) _ [] rfl ?_; intro w7 hown7 hg7)
          | fail)
        have htk : ds.take (i + 1) = ds.take i ++ [d] := by rw [List.take_add_one, HDI.out]; rfl
        have hL7 := HD6.out.put (N' := N) HV.out HMEM.out.1 (s := f s) ⟨e1, k1, l1, g1, q1, r1, e2, k2, l2, g2, q2, r2, rfl, H65.out.lk HE6.out.lk⟩ hown7 hg7 (by rw [HMM.out]; exact Nat.le_refl _)
        rw [mapM_step HSS.out, ← htk] at hL7
        have hK7 := HE6.out.lk.trans (HD6.out.isMapB.lk hg7)
        have HL7 := Lib.hid hL7
        have HG7 := Lib.hid (show Led w7 b N (mapM M v f (ds.take (i + 1))) ∧ Pw w7 (i + 1) ((ds.take (i + 1)).foldl (fun a d => upd a (got M v d)) a0) ∧ w7.cell? ⟨p, 0, none⟩ = some (.map (some b)) ∧ PSl w7 pa pn pc v ds ∧ Tn w1 w7 b ob from
          ⟨⟨_, hL7⟩, by
            rw [htk, List.foldl_append]
            show Pw w7 (i + 1) (upd _ (got M v d))
            rw [show got M v d = s by unfold got; rw [HSS.out]; rfl]
            exact HST.out _ _ _ _ HPW5.out hK7, hK7.cell HP5.out, HPS5.out.ln hK7.ln, HT5.out.trans ((Tn.ext HE6.out b ob).trans (Tn.one hg7 ob) (.inl rfl)) (.inl rfl)⟩)
        clear hown7 hg7 hL7 hK7 htk
        go_roundw
        case rel => exact ⟨i + 1, by omega, by go_num, HG7.out⟩
        case measure => simp only [intOf]; omega)

set_option maxHeartbeats 8000000 in
set_option maxRecDepth 100000 in
theorem each_owes {α : Type} {w : World} {p b N v : Nat} {M : Stakes} {f : Stk → Stk} {upd : α → Stk → α} {a0 : α} {ob : Option Nat} {Ok : Stk → Prop} {Pw : World → Nat → α → Prop} {pb : Nat} (ask : EachAsk α w p b N v M ob Ok a0 Pw)
    (how : HowAt α Tryz.prog 68 #[.pointer (some ⟨pb, 0, none⟩)] f upd ob Ok N Pw) :
    Calls Tryz.prog 51 #[.pointer (some ⟨p, 0, none⟩), .int .u64 (v : Int), .func (.func 68) #[] #[.pointer (some ⟨pb, 0, none⟩)]] w (EachPost α w p b N v M ob f upd a0 Pw) := by
  obtain ⟨h, hN, hp, hv, hpo, hbo, hob, hst, hP, hok⟩ := ask
  obtain ⟨i0, hi, hz0, hz1, hz2⟩ := info_parts infoPair
  have C1 := Lib.hid (lof_calls h hN hp hv)
  have HL := Lib.hid h; have HPC := Lib.hid hp; have HV := Lib.hid hv; have HOB := Lib.hid hob; have HST := Lib.hid hst; have HP := Lib.hid hP; have HOW := Lib.hid how; have HPO := Lib.hid hpo; have HBO := Lib.hid hbo; have HI := Lib.hid hi; have HOK := Lib.hid hok; have HZ1 := Lib.hid hz1
  clear h hp hv hob hst hP how hpo hbo hok hi hz0 hz1 hz2
  go_enter Tryz.func51, Tryz.ntmps51
  go_wp2_with fail
  refine C1.out.mono ?_
  rintro e w1 ⟨pa, pn, pc, ds, rfl, hps, hds, hpn, hx1⟩
  have HPS := Lib.hid hps; have HDS := Lib.hid hds; have HX1 := Lib.hid hx1
  have HS := Lib.hid (show EachRel α w1 p b N v M ob pa pn pc ds f upd a0 Pw (.int .i64 0) w1 from ⟨0, Nat.zero_le _, rfl, by rw [List.take_zero, mapM_nil]; exact HL.out.old HX1.out, by rw [List.take_zero]; exact HST.out _ _ _ _ HP.out HX1.out.lk, HX1.out.cell HPC.out, HPS.out, Tn.refl _ _ _⟩)
  clear hps hds hx1 C1 HPS
  go_wp2_with fail
  go_loopw [13] (fun iv wr => EachRel α w1 p b N v M ob pa pn pc ds f upd a0 Pw iv wr) (fun iv _ => pn - (intOf iv).toNat)
  case atStart => exact HS.out
  case round =>
    obtain ⟨i, hin, rfl, hled, hpw, hpc, hps, htn⟩ := hrel
    have HLED := Lib.hid hled; have HPW := Lib.hid hpw; have HPCR := Lib.hid hpc; have HPSR := Lib.hid hps; have HTN := Lib.hid htn
    clear hled hpw hpc hps htn
    by_cases hkn : i = pn
    · subst hkn
      have hwhole : ds.take i = ds := List.take_of_length_le (by rw [HPSR.out.len]; exact Nat.le_refl _)
      have HW := Lib.hid hwhole
      clear hwhole
      go_wp2_with fail
      go_end0
      exact ⟨rfl, ds, HDS.out, by rw [← HW.out]; exact HLED.out, by have := HPW.out; rw [HW.out] at this; rw [HPSR.out.len]; exact this, HPCR.out, (Tn.ext HX1.out b ob).trans HTN.out (.inl rfl)⟩
    · have hlt : (i : Int) < (pn : Int) := by omega
      have hil : i < ds.length := by rw [HPSR.out.len]; omega
      obtain ⟨d, hdi⟩ : ∃ d, ds[i]? = some d := ⟨_, List.getElem?_eq_getElem hil⟩
      have hmem := (HDS.out.2 d).1 (List.mem_of_getElem? hdi)
      obtain ⟨s, hs⟩ := Option.isSome_iff_exists.1 hmem.2
      have hnot : d ∉ ds.take i := fun hm => by
        obtain ⟨j, hj, e⟩ := List.mem_iff_getElem.1 hm
        rw [List.length_take] at hj
        rw [List.getElem_take] at e
        have h1 := (List.pairwise_iff_getElem.1 HDS.out.1) j i (by omega) hil (by omega)
        rw [List.getElem?_eq_getElem hil] at hdi
        have h2 := Option.some.inj hdi
        omega
      obtain ⟨gb, hix, hcell⟩ := HPSR.out.ix (P := Tryz.prog) Tryz.underlying110 HI.out HZ1.out
      have x1 := hix i (by omega)
      obtain ⟨x2, x3⟩ := hcell i d hdi
      rw [Nat.zero_add] at x1 x2 x3
      clear hix hcell
      obtain ⟨Z, hZ⟩ : ∃ Z, wr.alloc (.cells #[.int .u64 (v : Int), .int .u64 (d : Int)] 85) = Z := ⟨_, rfl⟩
      have EZ : Ext wr Z := by rw [← hZ]; exact (Ext.refl wr).alloc _
      have hzr : Z.heap[wr.heap.size]? = some (.cells #[.int .u64 (v : Int), .int .u64 (d : Int)] 85 (0, 0)) := by rw [← hZ]; exact heap_alloc_new wr _
      obtain ⟨D, hD⟩ := HLED.out.old EZ
      obtain ⟨val, hat, hsv⟩ := hD.at_ v d s HV.out hmem.1 (by rw [mapM_at hnot]; exact hs)
      obtain ⟨a1, m1, c1, b1, n1, d1, a2, m2, c2, b2, n2, d2, rfl, h6⟩ := hsv
      have hlook : ∀ W', Ext Z W' → (Instr.lookup 72 (.map (some b)) (PairV v d) false).run Tryz.prog W' = .ok (StV a1 m1 c1 b1 n1 d1 a2 m2 c2 b2 n2 d2 s.p s.k) W' := fun W' E => by
        obtain ⟨v0, ps, hrun, hv0⟩ := (hD.old E).own.lookup lawPair Tryz.underlying72 (zeroStk W') (zd := .held stkZ) (zp := []) rfl (keyOf_pair HV.out hmem.1)
        rw [hat] at hv0
        have e : v0 = _ := (DataW.held.inj (Prod.mk.inj (Option.some.inj hv0)).1)
        rw [← e]
        exact hrun
      have HDI := Lib.hid hdi; have HMEM := Lib.hid hmem; have HSS := Lib.hid hs; have HNOT := Lib.hid hnot; have HZ := Lib.hid hZ; have HEZ := Lib.hid EZ; have HZR := Lib.hid hzr; have HD := Lib.hid hD; have H6 := Lib.hid h6; have HAT := Lib.hid hat
      have HBC := Lib.hid (fun w' (h : Ext Z w') => (show w'.cell? ⟨p, 0, none⟩ = some (.map (some b)) ∧ w'.cell? ⟨wr.heap.size, 0, none⟩ = some (.int .u64 (v : Int)) ∧ w'.cell? ⟨wr.heap.size, 1, none⟩ = some (.int .u64 (d : Int)) ∧ (Instr.lookup 72 (.map (some b)) (PairV v d) false).run Tryz.prog w' = .ok (StV a1 m1 c1 b1 n1 d1 a2 m2 c2 b2 n2 d2 s.p s.k) w'
        from ⟨h.cell (EZ.cell HPCR.out), h.cell (row2_cells hzr).1, h.cell (row2_cells hzr).2.1, hlook w' h⟩))
      clear hdi hmem hs hnot hZ EZ hzr hD h6 hat hlook
      go_wp2_with (rw [HZ.out])
      go_region_held3 (fun w' => w'.cell? ⟨p, 0, none⟩ = some (.map (some b)) ∧ w'.cell? ⟨wr.heap.size, 0, none⟩ = some (.int .u64 (v : Int)) ∧ w'.cell? ⟨wr.heap.size, 1, none⟩ = some (.int .u64 (d : Int)) ∧ (Instr.lookup 72 (.map (some b)) (PairV v d) false).run Tryz.prog w' = .ok (StV a1 m1 c1 b1 n1 d1 a2 m2 c2 b2 n2 d2 s.p s.k) w')
        (first | exact HBC.out _ (Ext.refl _).drew | exact HBC.out _ ((Ext.refl _).drew.alloc _) | exact HBC.out _ ((Ext.refl _).alloc _).drew | exact HBC.out _ ((Ext.refl _).alloc _))
        (fail)
      all_goals (
        obtain ⟨Y, hY⟩ : ∃ Y, (Z.alloc (.cells #[.slice a1 m1 c1, .slice b1 n1 d1, .slice a2 m2 c2, .slice b2 n2 d2, .int .i64 s.p, .int .i64 s.k] 78)).drew = Y := ⟨_, rfl⟩
        have EY : Ext Z Y := by rw [← hY]; exact ((Ext.refl Z).alloc _).drew
        have hyr : Y.heap[Z.heap.size]? = some (.cells #[.slice a1 m1 c1, .slice b1 n1 d1, .slice a2 m2 c2, .slice b2 n2 d2, .int .i64 s.p, .int .i64 s.k] 78 (0, 0)) := by rw [← hY]; exact heap_alloc_new Z _
        have hpwY := HST.out _ _ _ _ HPW.out (HEZ.out.trans EY).lk
        have hobY : some Z.heap.size ≠ ob := fun e => by have := (HOB.out _ _ _ HPW.out _ e.symm).2; have := HEZ.out.size; omega
        have CH := HOW.out Y Z.heap.size a1 m1 c1 b1 n1 d1 a2 m2 c2 b2 n2 d2 s i _ (by omega) (HOK.out d s HSS.out) hyr hobY (H6.out.lk EY.lk) hpwY
        rw [show (#[(Value.pointer (some ⟨Z.heap.size, 0, none⟩))] ++ #[.pointer (some ⟨pb, 0, none⟩)] : Array Value) = #[.pointer (some ⟨Z.heap.size, 0, none⟩), .pointer (some ⟨pb, 0, none⟩)] from rfl] at CH
        have HCH := Lib.hid CH; have HY := Lib.hid hY; have HEY := Lib.hid EY; have HYR := Lib.hid hyr; have HOBY := Lib.hid hobY
        have HNB := Lib.hid (HOB.out _ _ _ hpwY)
        clear CH hY EY hyr hpwY hobY
        go_wp2_with (rw [HY.out])
        refine HCH.out.mono ?_
        rintro e w5 ⟨rfl, hpw5, htn5, e1, k1, l1, g1, q1, r1, e2, k2, l2, g2, q2, r2, hr5, h65⟩
        have EZY := HEZ.out.trans HEY.out
        have hY0 := EZY.size
        have hZ0 := HEZ.out.size
        have hr0 := htn5.size
        have hY1 := (Array.getElem?_eq_some_iff.1 HYR.out).1
        have hkb : w5.heap[wr.heap.size]? = some (.cells #[.int .u64 (v : Int), .int .u64 (d : Int)] 85 (0, 0)) := by
          have hz := (Array.getElem?_eq_some_iff.1 HZR.out).1
          rw [htn5.block _ (by omega) (by omega) (fun e => by have := (HOB.out _ _ _ HPW.out _ e.symm).2; omega)]
          exact rowE HEY.out HZR.out
        have hpY := EZY.cell HPCR.out
        have hpl := World.block_lt_of_cell? wr _ HPCR.out
        have hp5 : w5.cell? ⟨p, 0, none⟩ = some (.map (some b)) := by
          rw [World.cell?_of_block (htn5.block p (by simp at hpl; omega) (by simp at hpl; omega) (fun e => HPO.out e.symm))]
          exact hpY
        have hn5 : Ln Y w5 := htn5.ln (noNum6 HYR.out) (fun o ho => (HNB.out o ho).1)
        have hbl := HD.out.own.lt
        have hD5 := (HD.out.old HEY.out).keptN hn5 (htn5.block b (by omega) (by have := HLED.out.lt; omega) (fun e => HBO.out e.symm))
        have hps5 := (HPSR.out.ln EZY.lk.ln).ln hn5
        have hT5 : Tn w1 w5 b ob := (HTN.out.trans (Tn.ext EZY b ob) (.inl rfl)).trans htn5 (.inr (by have := HTN.out.size; omega))
        have HPW5 := Lib.hid hpw5; have HR5 := Lib.hid hr5; have H65 := Lib.hid h65; have HKB := Lib.hid hkb; have HP5 := Lib.hid hp5; have HD5 := Lib.hid hD5; have HPS5 := Lib.hid hps5; have HT5 := Lib.hid hT5
        obtain ⟨f0, f1, f2, f3, f4, f5⟩ := row6_cells hr5
        obtain ⟨j1, j2, -, -⟩ := row2_cells hkb
        clear hpw5 htn5 hr5 h65 hkb hp5 hD5 hps5 hT5 hpY hpl hn5 hbl hr0 hY0 hZ0 EZY hY1
        have z1 := HP5.out
        go_wp2_with fail
        go_still_tail 6, (by kernel_rfl)
        change wpList _ _ _ _ _ w5.drew
        generalize hw6 : w5.drew = w6
        have E6 : Ext w5 w6 := by rw [← hw6]; exact (Ext.refl w5).drew
        have hD6 := HD5.out.old E6
        have hM : (mapM M v f (ds.take i)) v d = some s := by rw [mapM_at HNOT.out]; exact HSS.out
        have HMM := Lib.hid hM
        have HD6 := Lib.hid hD6
        have HE6 := Lib.hid E6
        clear hw6 f0 f1 f2 f3 f4 f5 j1 j2 z1 hD6 hM E6
        have hN6 : N < maxLen := by unfold maxLen; omega
        have hown6 := HD6.out.own
        go_wp2_with (first
          | (at_mapUpdate; refine wpList_mapUpdate_own _ rfl _ _ _ 72 rfl 85 78 lawPair Tryz.underlying72 RV b N D rfl hown6 hN6 _ _ (kl v d) rfl rfl (keyOf_pair HV.out HMEM.out.1) _ [] rfl ?_; intro w7 hown7 hg7)
          | fail)
        have htk : ds.take (i + 1) = ds.take i ++ [d] := by rw [List.take_add_one, HDI.out]; rfl
        have hL7 := HD6.out.put (N' := N) HV.out HMEM.out.1 (s := f s) ⟨e1, k1, l1, g1, q1, r1, e2, k2, l2, g2, q2, r2, rfl, H65.out.lk HE6.out.lk⟩ hown7 hg7 (by rw [HMM.out]; exact Nat.le_refl _)
        rw [mapM_step HSS.out, ← htk] at hL7
        have hK7 := HE6.out.lk.trans (HD6.out.isMapB.lk hg7)
        have HL7 := Lib.hid hL7
        have HG7 := Lib.hid (show Led w7 b N (mapM M v f (ds.take (i + 1))) ∧ Pw w7 (i + 1) ((ds.take (i + 1)).foldl (fun a d => upd a (got M v d)) a0) ∧ w7.cell? ⟨p, 0, none⟩ = some (.map (some b)) ∧ PSl w7 pa pn pc v ds ∧ Tn w1 w7 b ob from
          ⟨⟨_, hL7⟩, by
            rw [htk, List.foldl_append]
            show Pw w7 (i + 1) (upd _ (got M v d))
            rw [show got M v d = s by unfold got; rw [HSS.out]; rfl]
            exact HST.out _ _ _ _ HPW5.out hK7, hK7.cell HP5.out, HPS5.out.ln hK7.ln, HT5.out.trans ((Tn.ext HE6.out b ob).trans (Tn.one hg7 ob) (.inl rfl)) (.inl rfl)⟩)
        clear hown7 hg7 hL7 hK7 htk
        go_roundw
        case rel => exact ⟨i + 1, by omega, by go_num, HG7.out⟩
        case measure => simp only [intOf]; omega)


end Go.Proofs.YtimcnhlcepemjaaGreatDoor
