/- math/bits.Mul64, nat.Mul. -/
import Derived.Test.YtifoflicflodcaaGreatDoorSub
import Derived.Shelf.Bits.Mul64
namespace Go.Proofs.YtifoflicflodcaaGreatDoor
open Go.RowKit

def mulH (x y : Nat) : Nat := x * y / B64
def mulL (x y : Nat) : Nat := x * y % B64
theorem mulL_lt (x y : Nat) : mulL x y < B64 := Nat.mod_lt _ B64_pos
theorem mulH_lt {x y : Nat} (hx : x < B64) (hy : y < B64) : mulH x y < B64 := by
  unfold mulH; rw [Nat.div_lt_iff_lt_mul B64_pos]; exact mul_lt_sq hx hy
theorem mul_eq (x y : Nat) : mulL x y + B64 * mulH x y = x * y := Nat.mod_add_div _ _

set_option maxHeartbeats 1000000 in
set_option maxRecDepth 100000 in
theorem mul64_calls (x y : Nat) (hx : x < B64) (hy : y < B64) (w : World) :
    Calls Tryz.prog 74 #[.int .u64 (x : Int), .int .u64 (y : Int)] w (Ret (.tuple #[.int .u64 (mulH x y : Nat), .int .u64 (mulL x y : Nat)]) w) := by
  unfold mulH mulL
  rw [B64_eq] at *
  obtain ⟨bd, bt, bw, hhi⟩ := Lib.mul64_hi x y hx hy
  have ba := Lib.half_mul_le (a := x / 4294967296) (b := y / 4294967296) (by omega) (by omega)
  have bb := Lib.half_mul_le (a := x / 4294967296) (b := y % 4294967296) (by omega) (by omega)
  have bc := Lib.half_mul_le (a := x % 4294967296) (b := y / 4294967296) (by omega) (by omega)
  have ba' : x / 4294967296 * (y / 4294967296) < 18446744073709551616 := by omega
  have bb' : x / 4294967296 * (y % 4294967296) < 18446744073709551616 := by omega
  have bc' : x % 4294967296 * (y / 4294967296) < 18446744073709551616 := by omega
  have bh1 : x / 4294967296 * (y / 4294967296) + (x / 4294967296 * (y % 4294967296) + x % 4294967296 * (y % 4294967296) / 4294967296) / 4294967296 < 18446744073709551616 := by omega
  have bh : x / 4294967296 * (y / 4294967296) + (x / 4294967296 * (y % 4294967296) + x % 4294967296 * (y % 4294967296) / 4294967296) / 4294967296 + ((x / 4294967296 * (y % 4294967296) + x % 4294967296 * (y % 4294967296) / 4294967296) % 4294967296 + x % 4294967296 * (y / 4294967296)) / 4294967296 < 18446744073709551616 := by omega
  go_enter Tryz.func74, Tryz.ntmps74
  go_wp2
  simp only [Mul64.maskN x hx, Mul64.maskN y hy, Mul64.divN, Mul64.mulN, Mul64.addN, Mul64.wrapN _ bd, Mul64.wrapN _ bb', Mul64.wrapN _ bt, Mul64.maskN _ bt, Mul64.wrapN _ bc', Mul64.wrapN _ bw, Mul64.wrapN _ ba', Mul64.wrapN _ bh1, Mul64.wrapN _ bh, Mul64.wrapM (x * y)]
  rw [hhi]
  go_ret2
  exact ⟨rfl, rfl⟩

/-- What the outer loop of a product keeps. -/
def MulRel (w : World) (o : Option Addr) (A E : Nat) (us vs : List Nat) (iv : Value) (wr : World) : Prop :=
  ∃ (k : Nat) (os : List Nat), k ≤ A ∧ iv = .int .i64 k ∧ Own w.heap.size wr o (A + E) (A + E) os ∧ Ext w wr ∧ nv B64 (os.take (k + E)) = nv B64 (us.take k) * nv B64 vs
/-- What its inner loop keeps. -/
def MulRel2 (w : World) (o : Option Addr) (A E k u : Nat) (vs old : List Nat) (cv jv : Value) (wr : World) : Prop :=
  ∃ (j cr : Nat) (os : List Nat), j ≤ E ∧ jv = .int .i64 j ∧ cv = .int .u64 cr ∧ cr < B64 ∧ Own w.heap.size wr o (A + E) (A + E) os ∧ Ext w wr ∧ os.drop (k + j) = old.drop (k + j) ∧
    nv B64 (os.take (k + j)) + B64 ^ (k + j) * cr = nv B64 (old.take (k + j)) + B64 ^ k * u * nv B64 (vs.take j)

theorem mul_round {b p O q r c o uv s c' : Nat} (h : r + p * c = O + q) (hs : s + b * c' = uv + o + c) : r + p * s + p * b * c' = (O + p * o) + (q + p * uv) := by
  have e : p * (s + b * c') = p * (uv + o + c) := by rw [hs]
  rw [Nat.mul_add, Nat.mul_add, Nat.mul_add, ← Nat.mul_assoc] at e
  omega
theorem mul_step {b k j u V v : Nat} : b ^ k * u * (V + b ^ j * v) = b ^ k * u * V + b ^ (k + j) * (u * v) := by
  rw [Nat.mul_add, Nat.pow_add]
  congr 1
  rw [Nat.mul_assoc, Nat.mul_assoc, Nat.mul_left_comm u]
theorem carry_parts {u v o cr h l s1 c1 s2 c2 : Nat} (hu : u < B64) (hv : v < B64) (ho : o < B64) (hc : cr < B64) (e1 : l + B64 * h = u * v) (e2 : s1 + B64 * c1 = l + o + 0) (e3 : s2 + B64 * c2 = s1 + cr + 0) :
    s2 + B64 * (h + c1 + c2) = u * v + o + cr ∧ h + c1 + c2 < B64 := by
  have h1 : s2 + B64 * (h + c1 + c2) = u * v + o + cr := by rw [Nat.mul_add, Nat.mul_add]; omega
  refine ⟨h1, ?_⟩
  have h2 := mul_add_add_lt hu hv ho hc
  rw [← h1] at h2
  exact Nat.lt_of_mul_lt_mul_left (a := B64) (by omega)
theorem mul_outer {b A E k : Nat} {us vs old os : List Nat} {u cr : Nat} (hu : us.getD k 0 = u) (hvl : vs.length = E) (hol : os.length = A + E) (hk : k < A) (ih : nv b (old.take (k + E)) = nv b (us.take k) * nv b vs)
    (h : nv b (os.take (k + E)) + b ^ (k + E) * cr = nv b (old.take (k + E)) + b ^ k * u * nv b (vs.take E)) :
    nv b ((os.set (k + E) cr).take (k + 1 + E)) = nv b (us.take (k + 1)) * nv b vs := by
  rw [show k + 1 + E = (k + E) + 1 by omega, nv_take_set b os (k + E) cr (by omega), h, ih, nv_take_of_le b vs E (by omega), nv_take_succ', hu, Nat.add_mul]

set_option maxHeartbeats 2000000 in
set_option maxRecDepth 100000 in
theorem mul_calls {a b : Option Addr} {m n c d : Nat} {xs ys : List Nat} {w : World} (ha : Sl w a m c xs) (hb : Sl w b n d ys) (hm : m ≤ 1000000000) (hn : n ≤ 1000000000) :
    Calls Tryz.prog 43 #[.slice a m c, .slice b n d] w (New w (m + n) (lim (val xs * val ys))) := by
  obtain ⟨i0, hi, hz0, hs, hby⟩ := info_parts info64
  have ca := trimmed_calls ha
  have cb := trimmed_calls hb
  have ha' := ha.trimmed
  have hb' := hb.trimmed
  have hla := ha.trimmed_len
  have hlb := hb.trimmed_len
  have hva := val_lim (val xs)
  have hvb := val_lim (val ys)
  generalize val xs = X at *
  generalize val ys = Y at *
  generalize lim X = us at *
  generalize lim Y = vs at *
  obtain ⟨A, hA⟩ : ∃ A, us.length = A := ⟨_, rfl⟩
  obtain ⟨E, hE⟩ : ∃ E, vs.length = E := ⟨_, rfl⟩
  rw [hA] at ca ha' hla
  rw [hE] at cb hb' hlb
  have CA := Lib.hid ca; have CB := Lib.hid cb
  have HA := Lib.hid hA; have HE := Lib.hid hE; have HVA := Lib.hid hva; have HVB := Lib.hid hvb
  have H1 := Lib.hid hi; have H2 := Lib.hid hz0; have H3 := Lib.hid hs; have H4 := Lib.hid hby
  clear ca cb hA hE hva hvb hi hz0 hs hby
  go_enter Tryz.func43, Tryz.ntmps43
  go_wp2_with fail
  refine CA.out.mono ?_
  rintro e w' ⟨rfl, rfl⟩
  go_wp2_with fail
  refine CB.out.mono ?_
  rintro e w' ⟨rfl, rfl⟩
  go_wp2_with (at_make; refine make_sl _ rfl _ _ _ rfl _ _ Tryz.underlying23 H1.out H2.out H3.out H4.out _ _ rfl rfl (A + E) (by omega) (by omega) (by omega) ?_)
  intro o w1 ho hext
  go_wp2_with fail
  go_loopw [24] (fun iv wr => MulRel w o A E us vs iv wr) (fun iv _ => A - (intOf iv).toNat)
  case atStart => exact ⟨0, _, by omega, rfl, ho, hext, by simp [List.take_replicate, nv_replicate]⟩
  case round =>
    obtain ⟨k, old, hk, rfl, hown, hex, hval⟩ := hrel
    have HV := Lib.hid hval
    clear hval
    by_cases hlt : k < A
    · obtain ⟨wo, rfl⟩ : ∃ wo : World, wo = wr := ⟨_, rfl⟩
      have q1 := ha'.bd.getD B64_pos k
      obtain ⟨u, hu⟩ : ∃ u, us.getD k 0 = u := ⟨_, rfl⟩
      rw [hu] at q1
      have HU := Lib.hid hu
      clear hu
      go_wp2_with fail
      go_loopw [7, 29] (fun cv jv wr => MulRel2 w o A E k u vs old cv jv wr) (fun _ jv _ => E - (intOf jv).toNat)
      case atStart => exact ⟨0, 0, old, by omega, rfl, rfl, B64_pos, hown, hex, rfl, by simp⟩
      case round =>
        obtain ⟨j, cr, os, hj, rfl, rfl, hcr, hown2, hex2, hdr, hval2⟩ := hrel
        have HV2 := Lib.hid hval2
        have HD := Lib.hid hdr
        clear hval2 hdr
        by_cases hlt2 : j < E
        · obtain ⟨bo, oo, hixo, hco, hao⟩ := hown2.sl.ix (P := Tryz.prog) Tryz.underlying23 H1.out H3.out
          obtain ⟨ba, oa, hixa, hca, -⟩ := (ha'.old hex2).ix (P := Tryz.prog) Tryz.underlying23 H1.out H3.out
          obtain ⟨bb, ob, hixb, hcb, -⟩ := (hb'.old hex2).ix (P := Tryz.prog) Tryz.underlying23 H1.out H3.out
          have x1 := hixa k hlt
          have x2 := hca k hlt
          rw [HU.out] at x2
          have x3 := hixb j hlt2
          have x4 := hcb j hlt2
          have x5 := hixo (k + j) (by omega)
          rw [show ((k + j : Nat) : Int) = (k : Int) + (j : Int) by omega] at x5
          have x6 := hco (k + j) (by omega)
          have x7 := hown2.free (hao (by omega)) (oo + (k + j))
          have HO := Lib.hid (hao (by omega))
          have p2 := hb'.bd.getD B64_pos j
          have p3 := hown2.sl.bd.getD B64_pos (k + j)
          have HTY := Lib.hid (nv_take_succ' B64 vs j)
          have HTO := Lib.hid (nv_take_succ' B64 old (k + j))
          rw [← getD_of_drop HD.out] at HTO
          clear hixa hca hixb hcb hixo hco hao
          generalize vs.getD j 0 = v at *
          generalize os.getD (k + j) 0 = z at *
          have cm := mul64_calls u v q1 p2
          have e1 := mul_eq u v
          have hl1 := mulL_lt u v
          generalize mulH u v = h at *
          generalize mulL u v = l at *
          have x8 := add64_run0 l z
          have e2 := addS_eq l z 0
          generalize addS l z 0 = s1 at *
          generalize addC l z 0 = c1 at *
          have x9 := add64_run0 s1 cr
          have e3 := addS_eq s1 cr 0
          have hs2 := addS_lt s1 cr 0
          generalize addS s1 cr 0 = s2 at *
          generalize addC s1 cr 0 = c2 at *
          obtain ⟨hsum, hbig⟩ := carry_parts q1 p2 p3 hcr e1 e2 e3
          have hbig2 : h + c1 + c2 < 18446744073709551616 := hbig
          have HSUM := Lib.hid hsum
          have CM := Lib.hid cm
          clear e1 e2 e3 hsum cm
          have HS := Lib.hid (fun n : Nat => (hown2.old ((Ext.refl _).drewN n)).store HO.out (k + j) s2 (by omega) hs2)
          go_wp2_with fail
          go_quiet ((go_at_call 74; exact Ret.quiet (CM.out _)))
          go_wp2_with fail
          go_roundw
          case rel =>
            refine ⟨j + 1, h + c1 + c2, os.set (k + j) s2, by omega, by go_num, rfl, hbig, (HS.out _).1, ?_, ?_, ?_⟩
            · exact (hex2.drewN _).grown' (hown2.old ((Ext.refl _).drewN _)) (Nat.le_refl _) (HS.out _).2
            · rw [← Nat.add_assoc, drop_set_lo _ _ _ _ (by omega)]; exact drop_succ_of_drop HD.out
            · rw [← Nat.add_assoc, HTO.out, HTY.out, nv_take_set _ _ _ _ (by rw [hown2.sl.len]; omega), Nat.pow_succ, mul_step]
              exact mul_round HV2.out HSUM.out
          case measure => simp [intOf]; omega
        · obtain rfl : j = E := by omega
          obtain ⟨bo, oo, hixo, hco, hao⟩ := hown2.sl.ix (P := Tryz.prog) Tryz.underlying23 H1.out H3.out
          have x5 := hixo (k + j) (by omega)
          rw [show ((k + j : Nat) : Int) = (k : Int) + (j : Int) by omega] at x5
          have x6 := hco (k + j) (by omega)
          have x7 := hown2.free (hao (by omega)) (oo + (k + j))
          have HO := Lib.hid (hao (by omega))
          have HW := Lib.hid (mul_outer HU.out HE.out hown2.sl.len hlt HV.out HV2.out)
          clear hixo hco hao
          generalize os.getD (k + j) 0 = z at *
          have HS := Lib.hid (hown2.store HO.out (k + j) cr (by omega) hcr)
          go_wp2_with fail
          go_roundw
          case rel =>
            exact ⟨k + 1, os.set (k + j) cr, by omega, by go_num, HS.out.1, hex2.grown' hown2 (Nat.le_refl _) HS.out.2, HW.out⟩
          case measure => simp [intOf]; omega
    · obtain rfl : k = A := by omega
      have CT := Lib.hid (trimmed_calls hown.sl)
      have hv : val old = X * Y := by
        have := HV.out
        rw [nv_take_of_le B64 old _ (by rw [hown.sl.len]; omega), nv_take_of_le B64 us _ (by rw [HA.out]; omega)] at this
        rw [← HVA.out, ← HVB.out]; exact this
      have HW := Lib.hid hv
      clear hv
      go_wp2_with fail
      refine CT.out.mono ?_
      rintro e w' ⟨rfl, rfl⟩
      go_wp2_with fail
      go_ret
      have hlen := hown.sl.trimmed_len
      have hfin := hown.trimmed
      rw [HW.out] at hlen hfin
      refine ⟨o, _, _, ?_, hfin, hex, by omega⟩
      rw [HW.out]; rfl

end Go.Proofs.YtifoflicflodcaaGreatDoor
