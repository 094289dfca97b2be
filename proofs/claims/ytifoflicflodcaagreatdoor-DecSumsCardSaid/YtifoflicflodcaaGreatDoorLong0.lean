/- The long quotient, its plain law: what one digit's step keeps. -/
import Derived.Test.YtifoflicflodcaaGreatDoorGuess
import Derived.Test.YtifoflicflodcaaGreatDoorTake
namespace Go.Proofs.YtifoflicflodcaaGreatDoor
open Go.RowKit

/-- A part of a slice. -/
theorem Sl.sub {w : World} {a : Option Addr} {n c : Nat} {xs : List Nat} (h : Sl w a n c xs) (j m d : Nat) (hj : j + m ≤ n) (hmd : m ≤ d) (hd : d ≤ c) : Sl w (a.map (·.add j)) m d ((xs.drop j).take m) := by
  refine ⟨by rw [List.length_take, List.length_drop, h.len]; omega, hmd, Nat.le_trans hd h.big, (h.bd.drop j).take m, ?_⟩
  rcases h.at_ with ⟨h2, h3⟩ | ⟨b, off, rfl, hc⟩
  · exact .inl ⟨by omega, by omega⟩
  · refine .inr ⟨b, off + j, ?_, fun i hi => ?_⟩
    · simp only [Option.map_some, Addr.add]
      split
      · rename_i h0; subst h0; rfl
      · rfl
    · rw [Nat.add_assoc, hc (j + i) (by omega)]
      congr 3
      rw [List.getD_eq_getElem?_getD, List.getD_eq_getElem?_getD, List.getElem?_take, if_pos hi, List.getElem?_drop]
theorem map_add_blk (a : Option Addr) (j : Nat) : blk (a.map (·.add j)) = blk a := by
  cases a with
  | none => rfl
  | some p => simp only [blk, Option.map_some, Addr.add]; split <;> rfl
theorem Own.sub {B : Nat} {w : World} {a : Option Addr} {n c : Nat} {xs : List Nat} (h : Own B w a n c xs) (j m d : Nat) (hj : j + m ≤ n) (hmd : m ≤ d) (hd : d ≤ c) : Own B w (a.map (·.add j)) m d ((xs.drop j).take m) := by
  refine ⟨h.sl.sub j m d hj hmd hd, ?_⟩
  rcases h.row with rfl | ⟨b, off, cur, e, rfl, hB, hh⟩
  · exact .inl rfl
  · refine .inr ⟨b, off + j, cur, e, ?_, hB, hh⟩
    simp only [Option.map_some, Addr.add]
    split
    · rename_i h0; subst h0; rfl
    · rfl
/-- A part has been written: the whole reads anew. -/
theorem Own.splice {B : Nat} {w w' : World} {a : Option Addr} {n c : Nat} {xs os : List Nat} (h : Own B w a n c xs) (j m : Nat) (hm : 0 < m) (hj : j + m ≤ n) (h' : Own B w' (a.map (·.add j)) m m os) (ho : Only w w' (a.map (·.add j)) m) :
    Own B w' a n c (xs.take j ++ os ++ xs.drop (j + m)) := by
  have hol := h'.sl.len
  rcases h.sl.at_ with ⟨h2, _⟩ | ⟨b, off, rfl, hc⟩
  · omega
  have ha : (some (⟨b, off, none⟩ : Addr)).map (·.add j) = some ⟨b, off + j, none⟩ := by
    simp only [Option.map_some, Addr.add]
    split
    · rename_i h0; subst h0; rfl
    · rfl
  rw [ha] at h' ho
  have hlen : (xs.take j ++ os ++ xs.drop (j + m)).length = n := by
    rw [List.length_append, List.length_append, List.length_take, List.length_drop, h.sl.len, hol]; omega
  refine ⟨⟨hlen, h.sl.cap, h.sl.big, ((h.sl.bd.take j).append h'.sl.bd).append (h.sl.bd.drop _), .inr ⟨b, off, rfl, fun i hi => ?_⟩⟩, ?_⟩
  · by_cases h1 : i < j
    · rw [ho _ (fun b' off' k e hk e2 => by cases e; injection e2 with e3 e4; omega), hc i hi]
      congr 3
      rw [List.getD_eq_getElem?_getD, List.getD_eq_getElem?_getD, List.append_assoc, List.getElem?_append_left (by rw [List.length_take, h.sl.len]; omega), List.getElem?_take, if_pos h1]
    · by_cases h2 : i < j + m
      · rcases h'.sl.at_ with ⟨h3, _⟩ | ⟨b', off', h3, hc'⟩
        · omega
        · cases h3
          have := hc' (i - j) (by omega)
          rw [show off + j + (i - j) = off + i by omega] at this
          rw [this]
          congr 3
          rw [List.getD_eq_getElem?_getD, List.getD_eq_getElem?_getD, List.getElem?_append_left (by rw [List.length_append, List.length_take, h.sl.len, hol]; omega), List.getElem?_append_right (by rw [List.length_take, h.sl.len]; omega), List.length_take, h.sl.len, Nat.min_eq_left (by omega)]
      · rw [ho _ (fun b' off' k e hk e2 => by cases e; injection e2 with e3 e4; omega), hc i hi]
        congr 3
        rw [List.getD_eq_getElem?_getD, List.getD_eq_getElem?_getD, List.getElem?_append_right (by rw [List.length_append, List.length_take, h.sl.len, hol]; omega), List.length_append, List.length_take, h.sl.len, hol, Nat.min_eq_left (by omega), List.getElem?_drop]
        congr 2
        omega
  · rcases h'.row with h3 | ⟨b', off', cur, e, h3, hB, hh⟩
    · cases h3
    · cases h3
      exact .inr ⟨b, off, cur, e, rfl, hB, hh⟩

/-- 'a[j:h:h]'. -/
theorem sliceAt_mid {P : Program} {T E : TypeId} {i : TypeInfo} (hT : P.underlying T = some (.slice E)) (hi : P.info? E = some i) (hs : i.size = 1) (a : Option Addr) (n c j h : Nat) (hjh : j < h) (hh : h ≤ c) (w : World) :
    (Instr.sliceAt T (.slice a n c) (some (.int .i64 (j : Int))) (some (.int .i64 (h : Int))) (some (.int .i64 (h : Int)))).run P w = .ok (.slice (a.map (·.add j)) (h - j) (h - j)) w := by
  have hr := run_sizeOf hi w
  rw [hs] at hr
  have h1 : (0 : Int) ≤ (h : Int) ∧ (h : Int) ≤ (c : Int) := ⟨by omega, by omega⟩
  have h2 : (0 : Int) ≤ (j : Int) ∧ (j : Int) ≤ (h : Int) := ⟨by omega, by omega⟩
  have h3 : j ≤ h := by omega
  have h4 : ¬ h = j := by omega
  simp [Instr.sliceAt, Instr.slice, run_underlying hT, Instr.sliceBounds, Instr.sliceBound, asIntOf, hh, hr, h3, h4]

/-! What is left, digit by digit. -/

/-- A row whose value is below a place has nothing from there on. -/
theorem nv_take_of_lt {b : Nat} {xs : List Nat} {n : Nat} (h : nv b xs < b ^ n) : nv b (xs.take n) = nv b xs := by
  by_cases hn : n ≤ xs.length
  · have e := nv_take_drop b xs n hn
    have hz : nv b (xs.drop n) = 0 := by
      rcases Nat.eq_zero_or_pos (nv b (xs.drop n)) with h0 | h0
      · exact h0
      · exfalso
        have h2 : b ^ n * 1 ≤ b ^ n * nv b (xs.drop n) := Nat.mul_le_mul_left _ h0
        omega
    rw [hz, Nat.mul_zero, Nat.add_zero] at e
    exact e.symm
  · rw [List.take_of_length_le (by omega)]
/-- The value of a row from place n on. -/
theorem nv_drop_div {b : Nat} {xs : List Nat} (n : Nat) (hx : Bd b xs) (hn : n ≤ xs.length) : nv b (xs.drop n) = nv b xs / b ^ n := by
  have e := nv_take_drop b xs n hn
  have h := nv_lt (hx.take n)
  rw [List.length_take, Nat.min_eq_left hn] at h
  exact (div_unique (by rw [e]; exact Nat.add_comm _ _) h).1

/-- The digit that is guessed is the quotient's, or one more. -/
theorem guess_good {S Y P n : Nat} (hP : P = B64 ^ n) (hY : B64 * P ≤ Y) (hS : S < B64 * Y) :
    S / Y ≤ guessG (S / P) (Y / P) ∧ guessG (S / P) (Y / P) ≤ S / Y + 1 ∧ guessG (S / P) (Y / P) < B64 := by
  have hb := B64_pos
  have hPp : 0 < P := by rw [hP]; exact Nat.pow_pos hb
  have hYp : 0 < Y := Nat.lt_of_lt_of_le (Nat.mul_pos hb hPp) hY
  have hV : B64 ≤ Y / P := (Nat.le_div_iff_mul_le hPp).2 hY
  have hTd := Nat.div_add_mod S P
  have hVd := Nat.div_add_mod Y P
  have hTm := Nat.mod_lt S hPp
  have hVm := Nat.mod_lt Y hPp
  have hTV : S / P / (Y / P) ≤ Y / P := by
    refine Nat.le_trans ?_ hV
    apply Nat.le_of_lt_succ
    rw [Nat.div_lt_iff_lt_mul (by omega), Nat.div_lt_iff_lt_mul hPp]
    refine Nat.lt_of_lt_of_le hS ?_
    have h1 : B64 * Y ≤ B64 * ((Y / P + 1) * P) := Nat.mul_le_mul_left _ (by rw [Nat.add_mul, Nat.mul_comm (Y / P)]; omega)
    refine Nat.le_trans h1 ?_
    rw [← Nat.mul_assoc]
    refine Nat.mul_le_mul_right P ?_
    rw [Nat.succ_mul, Nat.mul_add, Nat.mul_one]
    omega
  have hg := guess_bounds (P := P) (T := S / P) (V := Y / P) (a := S) (d := Y) (lo := S % P) (lo' := Y % P) (by rw [Nat.mul_comm]; exact hTd.symm) hTm (by rw [Nat.mul_comm]; exact hVd.symm) hVm (by omega) hTV hPp
  have hq : S / Y < B64 := by rw [Nat.div_lt_iff_lt_mul hYp]; exact hS
  unfold guessG
  omega

theorem nv_drop_getD (b : Nat) (xs : List Nat) (k : Nat) : nv b (xs.drop k) = xs.getD k 0 + b * nv b (xs.drop (k + 1)) := by
  by_cases hk : k < xs.length
  · exact nv_drop_succ b xs k hk
  · rw [List.drop_of_length_le (by omega), List.drop_of_length_le (by omega), getD_of_ge (by omega)]; simp
theorem getD_seg (xs : List Nat) (j m i : Nat) (h : i < m) : ((xs.drop j).take m).getD i 0 = xs.getD (j + i) 0 := by
  rw [List.getD_eq_getElem?_getD, List.getD_eq_getElem?_getD, List.getElem?_take, if_pos h, List.getElem?_drop]

/-- What holds of the shifted divisor and the shifted number ahead of the loop. -/
theorem long_setup {us vs R0 : List Nat} {A n s v : Nat} (hu : us.length = A) (hv : vs.length = n) (bu : Bd B64 us) (bv : Bd B64 vs) (bR : Bd B64 R0) (hR : R0.length = A + 1) (hn : 2 ≤ n) (hnA : n ≤ A) (hvv : vs.getD (n - 1) 0 = v) (hv0 : v ≠ 0)
    (hs : s < 64) (ht : v * 2 ^ s < B64) (hR0 : val R0 = val us * 2 ^ s) :
    val vs * 2 ^ s < B64 ^ n ∧ B64 * B64 ^ (n - 2) ≤ val vs * 2 ^ s ∧ nv B64 (R0.drop (A - n + 1)) < val vs * 2 ^ s := by
  have hb := B64_pos
  have hps : 0 < 2 ^ s := Nat.two_pow_pos s
  have e1 : n = (n - 1) + 1 := by omega
  have e2 : val vs = nv B64 (vs.take (n - 1)) + B64 ^ (n - 1) * v := by
    have := nv_take_succ' B64 vs (n - 1)
    rw [← e1, List.take_of_length_le (by omega), hvv] at this
    exact this
  have h1 := nv_lt (bv.take (n - 1))
  rw [List.length_take, Nat.min_eq_left (by omega)] at h1
  have e3 : B64 = 2 ^ (64 - s) * 2 ^ s := by rw [← Nat.pow_add, show 64 - s + s = 64 by omega]; rfl
  have h2 : v < 2 ^ (64 - s) := by
    rw [e3] at ht
    exact Nat.lt_of_mul_lt_mul_right ht
  have h3 : (v + 1) * 2 ^ s ≤ B64 := by rw [e3]; exact Nat.mul_le_mul_right _ h2
  have hp : 0 < B64 ^ (n - 1) := Nat.pow_pos hb
  have hlow : B64 ^ (n - 1) ≤ val vs := by
    rw [e2]
    have : B64 ^ (n - 1) * 1 ≤ B64 ^ (n - 1) * v := Nat.mul_le_mul_left _ (by omega)
    omega
  refine ⟨?_, ?_, ?_⟩
  · have h4 : val vs < B64 ^ (n - 1) * (v + 1) := by rw [e2, Nat.mul_add]; omega
    have h5 : val vs * 2 ^ s < B64 ^ (n - 1) * (v + 1) * 2 ^ s := Nat.mul_lt_mul_of_pos_right h4 hps
    have h6 : B64 ^ (n - 1) * (v + 1) * 2 ^ s ≤ B64 ^ (n - 1) * B64 := by rw [Nat.mul_assoc]; exact Nat.mul_le_mul_left _ h3
    have e4 : B64 ^ n = B64 ^ (n - 1) * B64 := by conv => lhs; rw [e1, Nat.pow_succ]
    omega
  · have e5 : B64 * B64 ^ (n - 2) = B64 ^ (n - 1) := by rw [Nat.mul_comm, ← Nat.pow_succ]; congr 1; omega
    rw [e5]
    refine Nat.le_trans hlow ?_
    exact Nat.le_mul_of_pos_right _ hps
  · rw [nv_drop_div _ bR (by omega)]
    have hX := nv_lt bu
    rw [hu] at hX
    rw [Nat.div_lt_iff_lt_mul (Nat.pow_pos hb)]
    have h7 : nv B64 R0 = val us * 2 ^ s := hR0
    rw [h7]
    have h8 : val us * 2 ^ s < B64 ^ A * 2 ^ s := Nat.mul_lt_mul_of_pos_right hX hps
    have e6 : B64 ^ A = B64 ^ (n - 1) * B64 ^ (A - n + 1) := by rw [← Nat.pow_add]; congr 1; omega
    have h9 : B64 ^ (n - 1) * B64 ^ (A - n + 1) * 2 ^ s ≤ val vs * 2 ^ s * B64 ^ (A - n + 1) := by
      rw [Nat.mul_assoc, Nat.mul_comm (B64 ^ (A - n + 1)), ← Nat.mul_assoc]
      exact Nat.mul_le_mul_right _ (Nat.mul_le_mul_right _ hlow)
    rw [e6] at h8
    omega

/-- One digit: the three highest limbs, the two of the divisor, the quotient. -/
theorem long_digit {rs bs : List Nat} {A n j D : Nat} (hr : rs.length = A + 1) (hb : bs.length = n) (br : Bd B64 rs) (bb : Bd B64 bs) (hn : 2 ≤ n) (hj : j + n ≤ A) (hD : nv B64 bs = D) (hDn : D < B64 ^ n) (hlow : B64 * B64 ^ (n - 2) ≤ D)
    (hrem : nv B64 (rs.drop (j + 1)) < D) :
    nv B64 ((rs.drop j).take (n + 1)) = nv B64 (rs.drop j) ∧ nv B64 (rs.drop j) < B64 * D ∧
      (rs.getD (j + n) 0 * B64 + rs.getD (j + n - 1) 0) * B64 + rs.getD (j + n - 2) 0 = nv B64 (rs.drop j) / B64 ^ (n - 2) ∧ bs.getD (n - 1) 0 * B64 + bs.getD (n - 2) 0 = D / B64 ^ (n - 2) ∧
      rs.getD (j + n) 0 ≤ bs.getD (n - 1) 0 ∧ 0 < bs.getD (n - 1) 0 ∧ nv B64 (rs.drop (j + n + 1)) = 0 := by
  have hbp := B64_pos
  have hS : nv B64 (rs.drop j) < B64 * D := by
    rw [nv_drop_getD]
    have h1 := br.getD hbp j
    have h2 : B64 * (nv B64 (rs.drop (j + 1)) + 1) ≤ B64 * D := Nat.mul_le_mul_left _ hrem
    rw [Nat.mul_add] at h2
    omega
  have hSn : nv B64 (rs.drop j) < B64 ^ (n + 1) := by
    refine Nat.lt_of_lt_of_le hS ?_
    rw [Nat.pow_succ, Nat.mul_comm]
    exact Nat.mul_le_mul_right _ (Nat.le_of_lt hDn)
  have hseg := nv_take_of_lt hSn
  have hsl : ((rs.drop j).take (n + 1)).length = n + 1 := by rw [List.length_take, List.length_drop, hr]; omega
  have hT := nv_drop_div (n - 2) ((br.drop j).take (n + 1)) (by omega)
  have hV := nv_drop_div (n - 2) bb (by omega)
  have hT2 := nv_drop_div n ((br.drop j).take (n + 1)) (by omega)
  have hV2 := nv_drop_div (n - 1) bb (by omega)
  rw [hseg] at hT hT2
  rw [hD] at hV hV2
  have d3 : nv B64 (((rs.drop j).take (n + 1)).drop (n + 1)) = 0 := by rw [List.drop_of_length_le (by omega)]; rfl
  have d0 := nv_drop_getD B64 ((rs.drop j).take (n + 1)) n
  have d1 := nv_drop_getD B64 ((rs.drop j).take (n + 1)) (n - 1)
  have d2 := nv_drop_getD B64 ((rs.drop j).take (n + 1)) (n - 2)
  rw [show n - 1 + 1 = n by omega] at d1
  rw [show n - 2 + 1 = n - 1 by omega] at d2
  rw [getD_seg _ _ _ _ (by omega)] at d0 d1 d2
  rw [d3] at d0
  replace d0 : nv B64 (((rs.drop j).take (n + 1)).drop n) = rs.getD (j + n) 0 := d0
  have f1 := nv_drop_getD B64 bs (n - 1)
  have f2 := nv_drop_getD B64 bs (n - 2)
  have f3 : nv B64 (bs.drop n) = 0 := by rw [List.drop_of_length_le (by omega)]; rfl
  rw [show n - 1 + 1 = n by omega, f3, Nat.mul_zero, Nat.add_zero] at f1
  rw [show n - 2 + 1 = n - 1 by omega] at f2
  rw [d0] at d1 hT2
  rw [d1] at d2
  rw [f1] at f2 hV2
  rw [show j + (n - 1) = j + n - 1 by omega] at d2
  rw [show j + (n - 2) = j + n - 2 by omega] at d2
  refine ⟨hseg, hS, ?_, ?_, ?_, ?_, ?_⟩
  · rw [← hT, d2, Nat.add_mul, Nat.mul_comm B64, Nat.add_mul, Nat.mul_comm B64 (rs.getD (j + n) 0)]; omega
  · rw [← hV, f2, Nat.mul_comm B64]; omega
  · rw [hT2, hV2]
    apply Nat.le_of_lt_succ
    rw [Nat.div_lt_iff_lt_mul (Nat.pow_pos hbp)]
    have e4 : B64 ^ n = B64 ^ (n - 1) * B64 := by conv => lhs; rw [show n = (n - 1) + 1 by omega, Nat.pow_succ]
    have h1 := Nat.div_add_mod D (B64 ^ (n - 1))
    have h2 := Nat.mod_lt D (Nat.pow_pos hbp : 0 < B64 ^ (n - 1))
    have h3 : B64 * D ≤ B64 * (B64 ^ (n - 1) * (D / B64 ^ (n - 1) + 1)) := Nat.mul_le_mul_left _ (by rw [Nat.mul_add]; omega)
    have h4 : B64 * (B64 ^ (n - 1) * (D / B64 ^ (n - 1) + 1)) = (D / B64 ^ (n - 1)).succ * B64 ^ n := by
      rw [e4, Nat.succ_eq_add_one, ← Nat.mul_assoc, Nat.mul_comm B64, Nat.mul_comm]
    omega
  · rw [hV2]
    have e5 : B64 * B64 ^ (n - 2) = B64 ^ (n - 1) := by rw [Nat.mul_comm, ← Nat.pow_succ]; congr 1; omega
    rw [e5] at hlow
    exact Nat.div_pos hlow (Nat.pow_pos hbp)
  · have e := nv_take_drop B64 (rs.drop j) (n + 1) (by rw [List.length_drop, hr]; omega)
    rw [hseg, List.drop_drop] at e
    have hz : B64 ^ (n + 1) * nv B64 (rs.drop (j + (n + 1))) = 0 := by omega
    rcases Nat.mul_eq_zero.1 hz with h | h
    · have := Nat.pow_pos (n := n + 1) hbp; omega
    · exact h

/-- What is left behind the digit. -/
theorem long_next {rs os ns R0 : List Nat} {j m D O q S : Nat} (hS : nv B64 (rs.drop j) = S) (hos : nv B64 ns = S - q * D) (hq : S / D = q) (hD : 0 < D) (hz : nv B64 (rs.drop (j + m)) = 0)
    (hj : j < os.length) (hO : nv B64 (os.drop (j + 1)) = O) (htk : rs.take (j + 1) = R0.take (j + 1)) (hjr2 : j < rs.length) (h : O * D + nv B64 (rs.drop (j + 1)) = nv B64 (R0.drop (j + 1))) :
    (rs.take j ++ ns ++ rs.drop (j + m)).take j = R0.take j ∧ nv B64 ((rs.take j ++ ns ++ rs.drop (j + m)).drop j) < D ∧
      nv B64 ((os.set j q).drop j) * D + nv B64 ((rs.take j ++ ns ++ rs.drop (j + m)).drop j) = nv B64 (R0.drop j) := by
  have hl : (rs.take j).length = j := by rw [List.length_take]; omega
  have e1 : (rs.take j ++ ns ++ rs.drop (j + m)).take j = rs.take j := by
    rw [List.append_assoc, List.take_append_of_le_length (by omega), List.take_of_length_le (by omega)]
  have e2 : (rs.take j ++ ns ++ rs.drop (j + m)).drop j = ns ++ rs.drop (j + m) := by
    rw [List.append_assoc, List.drop_append_of_le_length (by omega), List.drop_of_length_le (by omega), List.nil_append]
  have e3 : nv B64 (ns ++ rs.drop (j + m)) = S % D := by
    rw [nv_append, hz, Nat.mul_zero, Nat.add_zero, hos]
    have := Nat.div_add_mod S D
    rw [hq, Nat.mul_comm] at this
    omega
  have e4 : rs.getD j 0 = R0.getD j 0 := by
    have := congrArg (fun l => l.getD j 0) htk
    simpa [List.getD_eq_getElem?_getD, List.getElem?_take] using this
  refine ⟨?_, ?_, ?_⟩
  · rw [e1]
    have := congrArg (List.take j) htk
    rwa [List.take_take, List.take_take, Nat.min_eq_left (by omega)] at this
  · rw [e2, e3]; exact Nat.mod_lt _ hD
  · rw [e2, e3, drop_set_self _ _ _ hj, nv_cons, hO, nv_drop_getD B64 R0 j, ← h, ← e4]
    have h1 := nv_drop_getD B64 rs j
    rw [hS] at h1
    have h2 := Nat.div_add_mod S D
    rw [hq, Nat.mul_comm] at h2
    rw [Nat.add_mul, Nat.mul_add, Nat.mul_assoc]
    omega

end Go.Proofs.YtifoflicflodcaaGreatDoor
