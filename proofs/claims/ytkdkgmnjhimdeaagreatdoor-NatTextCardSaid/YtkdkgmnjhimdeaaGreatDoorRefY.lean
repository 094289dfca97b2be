/- gleanref1.FromBytes, Bytes; what FromBytes refuses. -/
import Derived.Test.YtkdkgmnjhimdeaaGreatDoorFromB
import Derived.Test.YtkdkgmnjhimdeaaGreatDoorRefM
namespace Go.Proofs.YtkdkgmnjhimdeaaGreatDoor
open Go.RowKit

def cells8 (ys : List Nat) : List Value := ys.map fun x : Nat => Value.int .u8 (x : Int)
theorem append_row_slB' {P : Program} (w : World) {ops : Array Oper} {rest : List Oper} {o : Oper} {act : Act} {Q : Exit → Act → World → Prop} (hgd : o.guard = none) (s x : Operand) (t : TypeId)
    (ho : o.op = .call { callee := .builtin .append, args := #[s, x], argTypes := #[t, t] }) (e : TypeId) (i : TypeInfo) (h1 : P.underlying t = some (.slice e)) (h2 : P.info? e = some i)
    (h3 : i.zero = some (.int .u8 0)) (h4 : i.size = 1) (h5 : i.bytes = 1) (B : Nat) (v : Value) (k : Nat) (zs : List Nat) (hs : act.eval s = v) (hrow : w.ownsRow B e 1 v k (cells8 zs)) (hB : B ≤ w.heap.size)
    (a : Option Addr) (n c : Nat) (xs : List Nat) (hx : act.eval x = .slice a n c) (hsl : SlB w a n c xs) (hn : k + n ≤ 1099511627776) (_hbz : Bd 256 zs)
    (hK : ∀ v' w', w'.ownsRow B e 1 v' (k + n) (cells8 (zs ++ xs)) → w.grownBy w' v.ownBlock → wpList P ops Q rest (act.put o.dst v') w') :
    wpList P ops Q (o :: rest) act w := by
  cases a with
  | none =>
    obtain rfl : n = 0 := hsl.none_len
    obtain rfl : xs = [] := List.eq_nil_of_length_eq_zero hsl.len
    have hc : c = 0 := by
      rcases hsl.at_ with hh | ⟨b, off, h, _⟩
      · first | exact hh.2.2 | exact hh.2
      · cases h
    subst hc
    refine wpList_plain hgd fun K hK' => ?_
    have hr := run_append_owned_none (P := P) w B t o.type e i 1 h1 h2 v k (cells8 zs) hrow
    unfold Oper.wp execOp
    simp only [ho, resolve, invoke, builtin, Sem.run_bind, Sem.run_pure, Result.andThen_ok, List.map_toArray, List.map_cons, List.map_nil, hs, hx, hr]
    exact hK' _ _ (hK v w (by simpa using hrow) (grownBy_refl _ _))
  | some ad =>
    have hcells : ∀ (j : Nat) u, (cells8 xs)[j]? = some u → w.cell? (ad.add j) = some u := by
      intro j u hu
      unfold cells8 at hu
      rw [List.getElem?_map] at hu
      have hj : j < xs.length := by
        rcases Nat.lt_or_ge j xs.length with h | h
        · exact h
        · rw [List.getElem?_eq_none h] at hu; cases hu
      rw [List.getElem?_eq_getElem hj] at hu
      simp only [Option.map_some, Option.some.injEq] at hu
      subst hu
      rcases hsl.at_ with hh | ⟨b, off, h, hc⟩
      · have := hsl.len
        have h0 : n = 0 := by first | exact hh.1 | exact hh.2.1
        omega
      · cases h
        have hadd : (⟨b, off, none⟩ : Addr).add j = ⟨b, off + j, none⟩ := by unfold Addr.add; split <;> simp_all
        rw [hadd, hc j (by rw [← hsl.len]; exact hj), getD_of_lt hj]
    refine wpList_append_own w hgd s x t ho B e i (.int .u8 0) 1 1 h1 h2 h3 h4 h5 rfl (by omega) v k (cells8 zs) hs hrow ad n c (cells8 xs) hx (by simp [cells8, hsl.len]) hcells (oneCell_u8 xs) (by unfold maxLen; omega) (by omega) hB ?_
    intro v' w' hown hgrow _
    exact hK v' w' (by simpa [cells8] using hown) hgrow

set_option maxHeartbeats 4000000 in
set_option maxRecDepth 100000 in
theorem rfrombytes_ok {a : Option Addr} {n c : Nat} {bs : List Nat} {w : World} (ha : SlB w a n c bs) (hn : n ≤ 1000000000) (hz : ¬ (bs ≠ [] ∧ bs.getD 0 0 = 0)) :
    Calls Tryz.prog 44 #[.slice a n c] w (New2 w (2 * n) (lim (nv 256 bs.reverse)) 0) := by
  obtain ⟨i0, hi, hz0, hs, hby⟩ := info_parts info64
  have H1 := Lib.hid hi; have H2 := Lib.hid hz0; have H3 := Lib.hid hs; have H4 := Lib.hid hby
  clear hi hz0 hs hby
  obtain ⟨i8, hi, hz0, hs, hby⟩ := info_parts infoU8
  have K1 := Lib.hid hi; have K3 := Lib.hid hs
  clear hi hz0 hs hby
  obtain ⟨M, hM⟩ : ∃ M, (n + 7) / 8 = M := ⟨_, rfl⟩
  have HM := Lib.hid hM
  have m2 : ((n : Int) + 7).tdiv 8 = (M : Int) := by rw [Int.tdiv_eq_ediv_of_nonneg (by omega)]; omega
  have hMb : M ≤ 1000000000 := by omega
  have wM : IntKind.i64.wrap (M : Int) = (M : Int) := IntWalk.i64_in _ (by omega)
  have HL := Lib.hid ha.len
  have HBD := Lib.hid (show Bd 256 bs.reverse from fun x hx => ha.bd x (List.mem_reverse.1 hx))
  have HA := Lib.hid ha
  have q1 := Lib.hid (fun (h : 0 < n) => show bs.getD 0 0 ≠ 0 from fun h0 => hz ⟨fun e => by rw [e] at h0; have := ha.len; rw [e] at this; simp at this; omega, h0⟩)
  have finish : Hid (∀ (o : Option Addr) (os : List Nat) (wr : World), Own w.heap.size wr o M M os → FbInv bs.reverse os M n → Calls Tryz.prog 28 #[.slice o M M] wr (New wr (2 * M) (lim (nv 256 bs.reverse)))) := Lib.hid (fun o os wr ho hinv => by
    have hv : val os = nv 256 bs.reverse := by
      have := hinv.eq
      rw [List.take_of_length_le (by rw [List.length_reverse, HL.out]; exact Nat.le_refl _)] at this
      exact this
    have h1 := rnorm_calls ho.sl (by omega)
    rwa [hv] at h1)
  have HMn := Lib.hid (show M ≤ n by omega)
  clear ha hz hM
  have start : ∃ (b0 : Option Nat), (n = 0 ∧ b0 = none) ∨ (0 < n ∧ ∃ y, b0 = some y) := by
    rcases Nat.eq_zero_or_pos n with h | h
    · exact ⟨none, .inl ⟨h, rfl⟩⟩
    · exact ⟨some 0, .inr ⟨h, 0, rfl⟩⟩
  clear start
  have hfirst : Hid (0 < n → ∃ (b off y : Nat), a = some ⟨b, off, none⟩ ∧ (∀ w' : World, (Instr.indexAt 50 (.slice a n c) (.int .i64 0)).run Tryz.prog w' = .ok (.pointer (some ⟨b, off, none⟩)) w') ∧ w.cell? ⟨b, off, none⟩ = some (.int .u8 (y : Int)) ∧ ((y : Int) == 0) = false) := Lib.hid (fun h0 => by
    obtain ⟨b, off, hix, hc, ha0⟩ := HA.out.ix (P := Tryz.prog) Tryz.underlying50 K1.out K3.out
    refine ⟨b, off, bs.getD 0 0, ha0 h0, ?_, ?_, ?_⟩
    · exact hix 0 h0
    · exact hc 0 h0
    · have := q1.out h0; rw [beq_eq_false_iff_ne]; omega)
  rcases Nat.eq_zero_or_pos n with h0 | h0
  · subst h0
    obtain rfl : bs = [] := List.eq_nil_of_length_eq_zero HL.out
    clear hfirst q1 finish
    go_enter Tryz.func44, Tryz.ntmps44
    go_wp2_with (at_make; refine make_sl _ rfl _ _ _ rfl _ _ Tryz.underlying23 H1.out H2.out H3.out H4.out _ _ rfl rfl 0 (by omega) (by omega) (by omega) ?_)
    intro o w1 hown hext
    go_wp2_with fail
    go_loopw [5] (fun iv wr => iv = .int .i64 0 ∧ wr = w1) (fun iv _ => 0)
    case atStart => exact ⟨rfl, rfl⟩
    case round =>
      obtain ⟨rfl, rfl⟩ := hrel
      have HO := Lib.hid (rnorm_calls hown.sl (by omega))
      go_wp2_with fail
      refine HO.out.mono ?_
      rintro e w3 ⟨o3, n3, c3, rfl, hown3, hext3, hn3⟩
      go_wp2_with fail
      go_ret2
      exact ⟨o3, _, _, rfl, hown3.mono hext.size, hext.trans hext3, by omega⟩
  · have g1 : ((0 : Int) < (n : Int)) := by omega
    obtain ⟨b0, off0, y0, ha0, hi0, hc0, hy0⟩ := hfirst.out h0
    clear ha0
    go_enter Tryz.func44, Tryz.ntmps44
    go_wp2_with (at_make; refine make_sl _ rfl _ _ _ rfl _ _ Tryz.underlying23 H1.out H2.out H3.out H4.out _ _ rfl rfl M (by omega) (by omega) (by have := HM.out; omega) ?_)
    intro o w1 hown hext
    go_wp2_with fail
    go_loopw [5] (fun iv wr => FbRel w o n M bs.reverse iv wr) (fun iv _ => n - (intOf iv).toNat)
    case atStart => exact ⟨0, List.replicate M 0, by omega, rfl, hown, ⟨List.length_replicate .., by rw [nv_replicate]; rfl⟩, hext⟩
    case round =>
      obtain ⟨k, os, hk, rfl, hown', hinv, hex⟩ := hrel
      have HOWN := Lib.hid hown'; have HINV := Lib.hid hinv; have HEX := Lib.hid hex
      clear hown' hinv hex
      by_cases hkn : k = n
      · subst hkn
        have F1 := Lib.hid (finish.out o os wr HOWN.out HINV.out)
        go_wp2_with fail
        refine F1.out.mono ?_
        rintro e w3 ⟨o3, n3, c3, rfl, hown3, hext3, hn3⟩
        go_wp2_with fail
        go_ret2
        exact ⟨o3, _, _, rfl, hown3.mono HEX.out.size, HEX.out.trans hext3, by have := HMn.out; omega⟩
      · have hlt : (k : Int) < (n : Int) := by omega
        obtain ⟨ba, oa, hixa, hca, -⟩ := (HA.out.old HEX.out).ix (P := Tryz.prog) Tryz.underlying50 K1.out K3.out
        obtain ⟨bo, oo, hixo, hco, hao⟩ := HOWN.out.sl.ix (P := Tryz.prog) Tryz.underlying23 H1.out H3.out
        have hjM : k / 8 < M := by have := HM.out; omega
        have HTOP := Lib.hid (HINV.out.top HBD.out hjM)
        have HST := Lib.hid (HINV.out.step hjM)
        have hx8 := HBD.out.getD (by decide) k
        have x1 := hixa (n - 1 - k) (by omega)
        have x2 := hca (n - 1 - k) (by omega)
        rw [← getD_reverse HL.out (by omega)] at x2
        rw [show ((n - 1 - k : Nat) : Int) = (n : Int) - 1 - (k : Int) by omega] at x1
        have x3 := hixo (k / 8) hjM
        have x4 := hco (k / 8) hjM
        have x5 := HOWN.out.free (hao (by omega)) (oo + k / 8)
        have HAO := Lib.hid (hao (by omega))
        clear hixa hca hixo hco hao
        obtain ⟨t, ht⟩ : ∃ t, k % 8 = t := ⟨_, rfl⟩
        obtain ⟨j, hj⟩ : ∃ j, k / 8 = j := ⟨_, rfl⟩
        have ht8 : t < 8 := by omega
        have wj : IntKind.i64.wrap (j : Int) = (j : Int) := IntWalk.i64_in _ (by omega)
        have wt : IntKind.i64.wrap (8 * (t : Int)) = 8 * (t : Int) := IntWalk.i64_in _ (by omega)
        have f2 : (k : Int).tdiv 8 = (j : Int) := by rw [Int.tdiv_eq_ediv_of_nonneg (by omega)]; omega
        have f4 : (k : Int).tmod 8 = (t : Int) := by rw [Int.tmod_eq_emod_of_nonneg (by omega)]; omega
        rw [ht] at HTOP HST
        rw [hj] at x3 x4 x5 HTOP HST hjM
        have HT := Lib.hid ht; have HJ := Lib.hid hj
        clear ht hj
        generalize bs.reverse.getD k 0 = x at *
        obtain ⟨z, hz⟩ : ∃ z, os.getD j 0 = z := ⟨_, rfl⟩
        rw [hz] at x4 HTOP HST
        have HZ := Lib.hid hz
        clear hz
        obtain ⟨s, hs⟩ : ∃ s, x * 256 ^ t = s := ⟨_, rfl⟩
        have hsB : z + s < B64 := by rw [← hs]; exact fb_lt HTOP.out hx8 ht8
        have hor0 : z ||| s = z + s := by rw [← hs]; exact fb_or HTOP.out
        rw [hs] at HST
        have hw1 : IntKind.u64.wrap ((x : Int) * 2 ^ (8 * t)) = (s : Int) := by
          rw [show (x : Int) * 2 ^ (8 * t) = (s : Int) by rw [← hs, show 256 ^ t = 2 ^ (8 * t) by rw [Nat.pow_mul]]; simp]
          rw [B64_eq] at hsB
          exact IntWalk.u64_in _ (by omega)
        have hs64 : s < 18446744073709551616 := by rw [B64_eq] at hsB; omega
        have hz64 : z < 18446744073709551616 := by rw [B64_eq] at hsB; omega
        have hor : bits BinOp.or IntKind.u64 (z : Int) (s : Int) = ((z + s : Nat) : Int) := by
          rw [bits_or_u64_nat z s (by omega) (by omega), hor0]
        obtain ⟨v, hv⟩ : ∃ v, z + s = v := ⟨_, rfl⟩
        rw [hv] at hor hsB HST
        have HSTO := Lib.hid (HOWN.out.store HAO.out j v hjM hsB)
        have HVB := Lib.hid hsB
        clear hor0 hv hs hsB
        go_wp2_with fail
        go_region
        go_wp2_with fail
        go_roundw
        case rel => exact ⟨k + 1, os.set j v, by omega, by go_num, HSTO.out.1.old (Ext.refl _).drew, HST.out, (Ext.grown' HEX.out HOWN.out (Nat.le_refl _) HSTO.out.2).drew⟩
        case measure => simp only [intOf]; omega


set_option maxHeartbeats 1000000 in
set_option maxRecDepth 100000 in
theorem frombytes_no {a : Option Addr} {n c : Nat} {bs : List Nat} {w : World} (ha : SlB w a n c bs) (hz : bs ≠ [] ∧ bs.getD 0 0 = 0) :
    Calls Tryz.prog 43 #[.slice a n c] w (New2 w 0 [] 13) := by
  obtain ⟨i8, hi, hz0, hs, hby⟩ := info_parts infoU8
  have hn : 0 < n := by rw [← ha.len]; exact List.length_pos_iff.2 hz.1
  obtain ⟨b, off, hix, hc, ha0⟩ := ha.ix (P := Tryz.prog) Tryz.underlying50 hi hs
  have x1 : ∀ w' : World, (Instr.indexAt 50 (.slice a n c) (.int .i64 0)).run Tryz.prog w' = .ok (.pointer (some ⟨b, off, none⟩)) w' := hix 0 hn
  have x2 : w.cell? ⟨b, off, none⟩ = some (.int .u8 0) := by
    have := hc 0 hn
    rw [hz.2] at this
    exact this
  have g1 : (0 : Int) < (n : Int) := by omega
  clear hi hz0 hs hby hix hc ha0 ha hz
  go_enter Tryz.func43, Tryz.ntmps43
  go_wp2_with fail
  go_ret2
  exact ⟨none, 0, 0, rfl, Own.nil _ _, Ext.refl _, Nat.le_refl _⟩

set_option maxHeartbeats 1000000 in
set_option maxRecDepth 100000 in
theorem rfrombytes_no {a : Option Addr} {n c : Nat} {bs : List Nat} {w : World} (ha : SlB w a n c bs) (hz : bs ≠ [] ∧ bs.getD 0 0 = 0) :
    Calls Tryz.prog 44 #[.slice a n c] w (New2 w 0 [] 13) := by
  obtain ⟨i8, hi, hz0, hs, hby⟩ := info_parts infoU8
  have hn : 0 < n := by rw [← ha.len]; exact List.length_pos_iff.2 hz.1
  obtain ⟨b, off, hix, hc, ha0⟩ := ha.ix (P := Tryz.prog) Tryz.underlying50 hi hs
  have x1 : ∀ w' : World, (Instr.indexAt 50 (.slice a n c) (.int .i64 0)).run Tryz.prog w' = .ok (.pointer (some ⟨b, off, none⟩)) w' := hix 0 hn
  have x2 : w.cell? ⟨b, off, none⟩ = some (.int .u8 0) := by
    have := hc 0 hn
    rw [hz.2] at this
    exact this
  have g1 : (0 : Int) < (n : Int) := by omega
  clear hi hz0 hs hby hix hc ha0 ha hz
  go_enter Tryz.func44, Tryz.ntmps44
  go_wp2_with fail
  go_ret2
  exact ⟨none, 0, 0, rfl, Own.nil _ _, Ext.refl _, Nat.le_refl _⟩

/-! gleanref1.Bytes. -/
theorem bytesOf_push {P c : Nat} (hc : c < 256) (h : P ≠ 0 ∨ c ≠ 0) : bytesOf (P * 256 + c) = bytesOf P ++ [c] := by
  have hb : Bd 256 (c :: digs 256 P) := Bd.cons hc (bd_digs (by decide) P)
  have hn : Nrm (c :: digs 256 P) := by
    have h2 := nrm_digs (b := 256) (by decide) P
    cases hd : digs 256 P with
    | nil =>
      have hP : P = 0 := (digs_nil (by decide)).1 hd
      have : c ≠ 0 := by
        rcases h with h | h
        · exact absurd hP h
        · exact h
      simpa [Nrm] using this
    | cons y ys =>
      rw [hd] at h2
      unfold Nrm at h2 ⊢
      rw [List.getLast?_cons_cons]
      exact h2
  have e := digs_unique (b := 256) (by decide) (n := P * 256 + c) hb hn (by simp only [nv]; rw [nv_digs (by decide)]; omega)
  unfold bytesOf
  rw [← e, List.reverse_cons]
theorem byte_next (X i q : Nat) (_hq : q < 4) : X / (B32 ^ i * 256 ^ q) = X / (B32 ^ i * 256 ^ (q + 1)) * 256 + X / (B32 ^ i * 256 ^ q) % 256 := by
  have e : B32 ^ i * 256 ^ (q + 1) = B32 ^ i * 256 ^ q * 256 := by rw [Nat.pow_succ, Nat.mul_assoc]
  rw [e, ← Nat.div_div_eq_div_mul X (B32 ^ i * 256 ^ q) 256]
  omega
theorem byte_of_dig (X i q : Nat) (hq : q < 4) : (dig X).getD i 0 / 2 ^ (8 * q) % 256 = X / (B32 ^ i * 256 ^ q) % 256 := by
  rw [getD_digit B32_pos (bd_dig X) i, show nv B32 (dig X) = X from rval_dig X]
  have e : B32 = 256 ^ q * 256 ^ (4 - q) := by
    rw [← Nat.pow_add, show q + (4 - q) = 4 by omega]; decide
  have e2 : 256 ^ (4 - q) = 256 * 256 ^ (4 - q - 1) := by
    rw [← Nat.pow_succ']; congr 1; omega
  have e3 : 2 ^ (8 * q) = 256 ^ q := by rw [Nat.pow_mul]
  conv => lhs; rw [show X / B32 ^ i % B32 = X / B32 ^ i % (256 ^ q * 256 ^ (4 - q)) by rw [← e]]
  rw [e3, Nat.mod_mul_right_div_self, e2, Nat.mod_mul_right_mod, Nat.div_div_eq_div_mul]
theorem litB1_at (w : World) (x : Nat) (hx : x < 256) : SlB (w.alloc (.cells #[.int .u8 (x : Int)] 5)) (some ⟨w.heap.size, 0, none⟩) 1 1 [x] := by
  have hc : (w.alloc (.cells #[.int .u8 (x : Int)] 5 (0, 0))).heap[w.heap.size]? = some (.cells #[.int .u8 (x : Int)] 5 (0, 0)) := heap_alloc_new w _
  refine ⟨rfl, Nat.le_refl _, by decide, Bd.cons hx (Bd.nil _), .inr ⟨_, _, rfl, ?_⟩⟩
  intro i hi
  obtain rfl : i = 0 := by omega
  rw [cell_of_row _ _ _ _ _ _ hc]; rfl
/-- What the bytes that are out spell. -/
def RByOut (w1 : World) (P : Nat) (ov : Value) (wr : World) : Prop := ∃ N : Nat, N = (bytesOf P).length ∧ wr.ownsRow w1.heap.size 5 1 ov N (cells8 (bytesOf P)) ∧ Ext w1 wr
def RByRel (w1 : World) (X M : Nat) (ov iv : Value) (wr : World) : Prop := ∃ j : Nat, j ≤ M ∧ iv = .int .i64 ((j : Int) - 1) ∧ RByOut w1 (X / B32 ^ j) ov wr
def RByRel2 (w1 : World) (X i : Nat) (ov kv : Value) (wr : World) : Prop := ∃ r : Nat, r ≤ 4 ∧ kv = .int .i64 (8 * (r : Int) - 8) ∧ RByOut w1 (X / (B32 ^ i * 256 ^ r)) ov wr

set_option maxHeartbeats 8000000 in
set_option maxRecDepth 100000 in
theorem rbytes_calls {a : Option Addr} {n c : Nat} {xs : List Nat} {w : World} (h : Sl w a n c xs) (hn : n ≤ 1000000) :
    Calls Tryz.prog 47 #[.slice a n c] w (NewB w (8 * n) (bytesOf (val xs))) := by
  obtain ⟨i0, hi, hz0, hs, hby⟩ := info_parts info64
  have H1 := Lib.hid hi; have H3 := Lib.hid hs
  clear hi hz0 hs hby
  obtain ⟨i8, hi, hz0, hs, hby⟩ := info_parts infoU8
  have K1 := Lib.hid hi; have K2 := Lib.hid hz0; have K3 := Lib.hid hs; have K4 := Lib.hid hby
  clear hi hz0 hs hby
  have HC := Lib.hid (digits_calls h (by omega))
  have HLN := Lib.hid (show ∀ P, P ≤ val xs → (bytesOf P).length ≤ 8 * n from fun P hP => by
    unfold bytesOf
    rw [List.length_reverse]
    refine digs_len_le (by decide) ?_
    have b1 := nv_lt h.bd
    rw [h.len, pow_B64_8] at b1
    exact Nat.lt_of_le_of_lt hP b1)
  clear h
  generalize val xs = X at *
  go_enter Tryz.func47, Tryz.ntmps47
  go_wp2_with fail
  refine HC.out.mono ?_
  rintro e w1 ⟨o, M, co, rfl, hown, hext, hM⟩
  have HO := Lib.hid hown.sl; have HE := Lib.hid hext
  have HXM := Lib.hid (show X / B32 ^ M = 0 from Nat.div_eq_of_lt (by
    have := digs_lt_pow B32_two X
    rw [show (digs B32 X).length = M from hown.sl.len] at this
    exact this))
  have hM2 : M ≤ 2000000 := by omega
  clear hown hext hM
  go_wp2_with fail
  go_loopw [4, 5] (fun ov iv wr => RByRel w1 X M ov iv wr) (fun _ iv _ => (intOf iv + 1).toNat)
  case atStart => exact ⟨M, Nat.le_refl _, rfl, 0, by rw [HXM.out]; rfl, by rw [HXM.out]; exact World.ownsRow_nil _ _ _ _, Ext.refl _⟩
  case round =>
    obtain ⟨j, hj, rfl, N, hN, hrow, hex⟩ := hrel
    have HN := Lib.hid hN; have HROW := Lib.hid hrow; have HEX := Lib.hid hex
    obtain ⟨ra, rc, hvr⟩ := row_slice' hrow
    subst hvr
    clear hN hrow hex
    cases j with
    | zero =>
      have g1 : ¬ ((0 : Int) ≤ ((0 : Nat) : Int) - 1) := by omega
      have hXX : X / B32 ^ 0 = X := by rw [Nat.pow_zero, Nat.div_one]
      have hrow := HROW.out; have hNN := HN.out
      rw [hXX] at hrow hNN
      obtain ⟨a2, c2, hv2, ho2⟩ := OwnB.of_row (xs := bytesOf X) hrow (bytesOf_bd X)
      injection hv2 with q1 q2 q3
      subst q1 q3
      have HO2 := Lib.hid ho2
      have hle := HLN.out X (Nat.le_refl _)
      have HS := Lib.hid HE.out.size
      have HNN := Lib.hid hNN
      clear hrow ho2 hXX hNN
      go_wp2_with fail
      go_ret
      exact ⟨ra, N, rc, rfl, ⟨HO2.out.sl, (HO2.out.mono HS.out).row⟩, HE.out.trans HEX.out, by have := HNN.out; omega⟩
    | succ i =>
      rw [show ((i + 1 : Nat) : Int) - 1 = (i : Int) by omega]
      have hi0 : (0 : Int) ≤ (i : Int) := by omega
      have hiM : i < M := by omega
      have e0 : B32 ^ (i + 1) = B32 ^ i * 256 ^ 4 := by rw [Nat.pow_succ]; rfl
      have HST := Lib.hid (show RByRel2 w1 X i (.slice ra N rc) (.int .i64 24) wr from ⟨4, Nat.le_refl _, rfl, N, by rw [← e0]; exact HN.out, by rw [← e0]; exact HROW.out, HEX.out⟩)
      clear e0
      go_wp2_with fail
      go_loopw [4, 6] (fun ov kv wr => RByRel2 w1 X i ov kv wr) (fun _ kv _ => (intOf kv + 8).toNat)
      case atStart => exact HST.out
      case round =>
        obtain ⟨r, hr, rfl, N2, hN2, hrow2, hex2⟩ := hrel
        have HN2 := Lib.hid hN2; have HROW2 := Lib.hid hrow2; have HEX2 := Lib.hid hex2
        obtain ⟨rb, rd, hvr⟩ := row_slice' hrow2
        subst hvr
        clear hN2 hrow2 hex2
        cases r with
        | zero =>
          have g1 : ¬ ((0 : Int) ≤ 8 * ((0 : Nat) : Int) - 8) := by omega
          have e1 : B32 ^ i * 256 ^ 0 = B32 ^ i := by rw [Nat.pow_zero, Nat.mul_one]
          have hN3 := HN2.out; have hrow3 := HROW2.out
          rw [e1] at hN3 hrow3
          have HREL := Lib.hid (show RByRel w1 X M (.slice rb N2 rd) (.int .i64 ((i : Int) - 1)) wr from ⟨i, by omega, rfl, N2, hN3, hrow3, HEX2.out⟩)
          clear hN3 hrow3 e1
          go_wp2_with fail
          go_roundw
          case rel => exact HREL.out
          case measure => simp only [intOf]; omega
        | succ q =>
          obtain ⟨s, hs⟩ : ∃ s, 8 * q = s := ⟨_, rfl⟩
          have hks : 8 * ((q + 1 : Nat) : Int) - 8 = (s : Int) := by omega
          rw [hks]
          have hs24 : s ≤ 24 := by omega
          have hs0 : (0 : Int) ≤ (s : Int) := by omega
          obtain ⟨bo, oo, hix, hc, -⟩ := (HO.out.old HEX2.out).ix (P := Tryz.prog) Tryz.underlying22 H1.out H3.out
          have x1 := hix i hiM
          have x2 := hc i hiM
          have hb := byte_of_dig X i q (by omega)
          have hnx := byte_next X i q (by omega)
          rw [← hb, hs] at hnx
          have hu := (bd_dig X).getD B32_pos i
          have hu64 : (dig X).getD i 0 < 18446744073709551616 := Nat.lt_of_lt_of_le hu (by decide)
          clear hix hc hb hu
          generalize (dig X).getD i 0 = u at *
          obtain ⟨t, ht⟩ : ∃ t, u / 2 ^ s = t := ⟨_, rfl⟩
          have htu : t ≤ u := by rw [← ht]; exact Nat.div_le_self _ _
          have hw1 : (u : Int) / 2 ^ s = (t : Int) := by rw [← ht]; simp
          have ht64 : t < 18446744073709551616 := by omega
          rw [ht] at hnx
          obtain ⟨v, hv⟩ : ∃ v, t % 256 = v := ⟨_, rfl⟩
          have hv8 : v < 256 := by rw [← hv]; exact Nat.mod_lt _ (by decide)
          have hw2 : IntKind.u8.wrap (t : Int) = (v : Int) := by
            rw [← hv, IntKind.wrap_u8]; omega
          rw [hv] at hnx
          obtain ⟨P, hP⟩ : ∃ P, X / (B32 ^ i * 256 ^ (q + 1)) = P := ⟨_, rfl⟩
          rw [hP] at hnx HN2 HROW2
          have HNX := Lib.hid hnx
          have hPX : P ≤ X := by rw [← hP]; exact Nat.div_le_self _ _
          have hN2b : N2 ≤ 8 * n := by rw [HN2.out]; exact HLN.out P hPX
          have hP0 : N2 = 0 → P = 0 := fun h => by
            have h1 := HN2.out
            rw [h] at h1
            have h2 : bytesOf P = [] := List.eq_nil_of_length_eq_zero h1.symm
            unfold bytesOf at h2
            exact (digs_nil (by decide)).1 (List.reverse_eq_nil_iff.1 h2)
          have HP0 := Lib.hid hP0
          have HSQ := Lib.hid hs
          clear ht hv hP hnx htu hPX hP0 hs hks
          by_cases hN0 : N2 = 0
          · have HPZ := Lib.hid (HP0.out hN0)
            subst hN0
            by_cases hv0 : v = 0
            · subst hv0
              have hz2 : X / (B32 ^ i * 256 ^ q) = 0 := by rw [HNX.out, HPZ.out]
              have HREL := Lib.hid (show RByOut w1 (X / (B32 ^ i * 256 ^ q)) (.slice rb 0 rd) wr from ⟨0, by rw [hz2]; rfl, by rw [hz2]; have := HROW2.out; rw [HPZ.out] at this; exact this, HEX2.out⟩)
              clear hz2
              go_wp2_with fail
              go_roundw
              case rel => exact ⟨q, by omega, by rw [← HSQ.out]; go_num, HREL.out⟩
              case measure => simp only [intOf]; omega
            · have g2 : ((v : Int) == 0) = false := by rw [beq_eq_false_iff_ne]; omega
              have HPU := Lib.hid (bytesOf_push (P := P) hv8 (.inr hv0))
              obtain ⟨Z, hZ⟩ : ∃ Z, wr.alloc (.cells #[.int .u8 (v : Int)] 5) = Z := ⟨_, rfl⟩
              have SZ := Lib.hid (show SlB Z (some ⟨wr.heap.size, 0, none⟩) 1 1 [v] by rw [← hZ]; exact litB1_at _ v hv8)
              have EZ := Lib.hid (show Ext w1 Z by rw [← hZ]; exact HEX2.out.alloc _)
              have RZ := Lib.hid (show Z.ownsRow w1.heap.size 5 1 (.slice rb 0 rd) 0 (cells8 (bytesOf P)) by rw [← hZ]; exact World.ownsRow.alloc HROW2.out _)
              have HZ := Lib.hid hZ
              clear hZ
              go_wp2_with (first | (at_builtin; refine append_row_slB' _ rfl _ _ _ rfl _ _ Tryz.underlying50 K1.out K2.out K3.out K4.out w1.heap.size _ _ _ rfl RZ.out EZ.out.size _ _ _ _ rfl SZ.out (by omega) (bytesOf_bd P) ?_) | rw [HZ.out])
              intro v5 w5 o5 g5
              have E5 := Lib.hid (Below.grown EZ.out g5 EZ.out.size (fun k h => (World.ownsRow.lt HROW2.out k h).1))
              have O5 := Lib.hid o5
              obtain ⟨rg, rh, hvr⟩ := row_slice' o5
              subst hvr
              clear o5 g5
              go_wp2_with fail
              go_roundw
              case rel => exact ⟨q, by omega, by rw [← HSQ.out]; go_num, 0 + 1, by rw [HNX.out, HPU.out, List.length_append, ← HN2.out]; rfl, by rw [HNX.out, HPU.out]; exact O5.out, E5.out⟩
              case measure => simp only [intOf]; omega
          · have g1 : (0 : Int) < (N2 : Int) := by omega
            have HPU := Lib.hid (bytesOf_push (P := P) hv8 (.inl (fun h => hN0 (by rw [HN2.out, h]; rfl))))
            obtain ⟨Z, hZ⟩ : ∃ Z, wr.alloc (.cells #[.int .u8 (v : Int)] 5) = Z := ⟨_, rfl⟩
            have SZ := Lib.hid (show SlB Z (some ⟨wr.heap.size, 0, none⟩) 1 1 [v] by rw [← hZ]; exact litB1_at _ v hv8)
            have EZ := Lib.hid (show Ext w1 Z by rw [← hZ]; exact HEX2.out.alloc _)
            have RZ := Lib.hid (show Z.ownsRow w1.heap.size 5 1 (.slice rb N2 rd) N2 (cells8 (bytesOf P)) by rw [← hZ]; exact World.ownsRow.alloc HROW2.out _)
            have HZ := Lib.hid hZ
            clear hZ
            go_wp2_with (first | (at_builtin; refine append_row_slB' _ rfl _ _ _ rfl _ _ Tryz.underlying50 K1.out K2.out K3.out K4.out w1.heap.size _ _ _ rfl RZ.out EZ.out.size _ _ _ _ rfl SZ.out (by omega) (bytesOf_bd P) ?_) | rw [HZ.out])
            intro v5 w5 o5 g5
            have E5 := Lib.hid (Below.grown EZ.out g5 EZ.out.size (fun k h => (World.ownsRow.lt HROW2.out k h).1))
            have O5 := Lib.hid o5
            obtain ⟨rg, rh, hvr⟩ := row_slice' o5
            subst hvr
            clear o5 g5
            go_wp2_with fail
            go_roundw
            case rel => exact ⟨q, by omega, by rw [← HSQ.out]; go_num, N2 + 1, by rw [HNX.out, HPU.out, List.length_append, ← HN2.out]; rfl, by rw [HNX.out, HPU.out]; exact O5.out, E5.out⟩
            case measure => simp only [intOf]; omega

end Go.Proofs.YtkdkgmnjhimdeaaGreatDoor
