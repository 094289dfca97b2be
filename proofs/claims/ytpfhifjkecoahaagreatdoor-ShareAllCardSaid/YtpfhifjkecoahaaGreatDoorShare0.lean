/- share.Cut, share.by. -/
import Derived.Test.YtpfhifjkecoahaaGreatDoorTrunc
import Derived.Test.YtpfhifjkecoahaaGreatDoorRound3
import Derived.Test.YtpfhifjkecoahaaGreatDoorPow10
import Derived.Test.YtpfhifjkecoahaaGreatDoorDSub
namespace Go.Proofs.YtpfhifjkecoahaaGreatDoor
open Go.RowKit

theorem cut_lt {n p : Nat} (hn : n < B64) : n * min p 10000 / 10000 < B64 := by
  rw [Nat.div_lt_iff_lt_mul (by omega)]
  have : n * min p 10000 ≤ n * 10000 := Nat.mul_le_mul_left n (by omega)
  have : n * 10000 < B64 * 10000 := Nat.mul_lt_mul_of_pos_right hn (by omega)
  omega

set_option maxHeartbeats 2000000 in
set_option maxRecDepth 100000 in
theorem cut_calls (n p : Nat) (hn : n < B64) (hp : p < B64) (w : World) :
    Calls Tryz.prog 16 #[.int .u64 (n : Int), .int .u64 (p : Int)] w (RetE (.int .u64 (n * min p 10000 / 10000 : Nat)) w) := by
  have hq : min p 10000 < B64 := by rw [B64_eq] at *; omega
  have HN := Lib.hid hn
  have HQ := Lib.hid hq
  have HCUT := Lib.hid (cut_lt (p := p) hn)
  have hmin : (min (p : Int) 10000) = ((min p 10000 : Nat) : Int) := by omega
  generalize min p 10000 = q at *
  clear hn hp hq
  go_enter Tryz.func16, Tryz.ntmps16
  go_wp2_with fail
  refine (of_calls n HN.out _).mono ?_
  rintro e w1 ⟨o1, n1, c1, rfl, hown1, hext1, hno1⟩
  go_wp2_with fail
  refine (of_calls q HQ.out _).mono ?_
  rintro e w2 ⟨o2, n2, c2, rfl, hown2, hext2, hno2⟩
  go_wp2_with fail
  refine (of_calls 10000 (by decide) _).mono ?_
  rintro e w3 ⟨o3, n3, c3, rfl, hown3, hext3, hno3⟩
  have CM := muldiv_calls ((hown1.sl.old hext2).old hext3) (hown2.sl.old hext3) hown3.sl (by omega) (by omega) (by omega)
  rw [val_lim, val_lim, val_lim] at CM
  unfold quoL remL divE at CM
  rw [if_neg (by decide), if_neg (by decide), if_neg (by decide)] at CM
  have HCM := Lib.hid CM
  clear CM
  go_wp2_with fail
  refine HCM.out.mono ?_
  rintro e w4 ⟨a1, d1, L1, a2, d2, L2, rfl, hown4, hown5, hext4, -⟩
  have CS := small_calls hown4.sl
  rw [val_lim, smallV_lt HCUT.out] at CS
  have HCS := Lib.hid CS
  clear CS
  go_wp2_with fail
  refine HCS.out.mono ?_
  rintro e w5 ⟨rfl, rfl⟩
  go_wp2_with fail
  go_ret
  exact ⟨rfl, ((hext1.trans hext2).trans hext3).trans hext4⟩

/-- The closure over a variable. -/
abbrev ByV (p : Nat) : Value := .func (.func 52) #[] #[.pointer (some ⟨p, 0, none⟩)]

set_option maxHeartbeats 1000000 in
set_option maxRecDepth 100000 in
theorem by_calls (up : Bool) (w : World) :
    Calls Tryz.prog 25 #[.bool up] w (fun e w' => e = .returned (ByV w.heap.size) ∧ w' = w.alloc (.cells #[.bool up] 4)) := by
  go_enter Tryz.func25, Tryz.ntmps25
  go_wp2_with fail
  go_ret
  exact ⟨rfl, rfl⟩

set_option maxHeartbeats 4000000 in
set_option maxRecDepth 100000 in
theorem by1_calls {a b e : Option Addr} {m n l c d f : Nat} {xs ys zs : List Nat} {w : World} {up : Bool} {p : Addr} (ha : Sl w a m c xs) (hb : Sl w b n d ys) (he : Sl w e l f zs)
    (hp : w.cell? p = some (.bool up)) (hm : m ≤ 200000000) (hn : n ≤ 200000000) (hl : l ≤ 200000000) :
    Calls Tryz.prog 52 #[DecV a m c, DecV b n d, DecV e l f, .pointer (some p)] w (NewD w (m + n + 2) (rdL up (val xs * val ys) (val zs))) := by
  have EX := W3_ext w (.slice a m c) (.slice b n d) (.slice e l f)
  have hz := W3_size w (.slice a m c) (.slice b n d) (.slice e l f)
  have E4 := EX.alloc (.cells #[.slice none 0 0] 26)
  have hp4 := E4.cell hp
  simp only [W3, W2] at hp4
  clear hp
  cases up
  · have CM := Lib.hid (dmuldiv_calls (ha.old E4) (hb.old E4) (he.old E4) hm hn hl)
    have HEX := Lib.hid EX
    have HZ := Lib.hid hz
    clear ha hb he EX hz
    go_enter Tryz.func52, Tryz.ntmps52
    go_wp2_with fail
    refine CM.out.mono ?_
    rintro e w2 ⟨o2, no2, co2, rfl, hown2, hext2, hno2⟩
    have hext3 := hext2.trans ((Ext.refl w2).alloc (.cells #[.slice o2 no2 co2] 26))
    obtain ⟨k1, k2⟩ := box_at HZ.out hext3
    obtain ⟨f1, f2, f3⟩ := box_fin HEX.out HZ.out hext3 (.slice o2 no2 co2)
    have hown3 := hown2.old ((Ext.refl w2).alloc (.cells #[.slice o2 no2 co2] 26))
    go_wp2_with fail
    try simp only [Exit.inBlock, Exit.then]
    refine bodyPost_ret (results_box1 rfl _ _ _ _ rfl (load_dec f2)) rfl ?_
    exact ⟨o2, no2, co2, rfl, f3 hown3, f1, hno2⟩
  · have CM := Lib.hid (dmuldivup_calls (ha.old E4) (hb.old E4) (he.old E4) hm hn hl)
    have HEX := Lib.hid EX
    have HZ := Lib.hid hz
    clear ha hb he EX hz
    go_enter Tryz.func52, Tryz.ntmps52
    go_wp2_with fail
    refine CM.out.mono ?_
    rintro e w2 ⟨o2, no2, co2, rfl, hown2, hext2, hno2⟩
    have hext3 := hext2.trans ((Ext.refl w2).alloc (.cells #[.slice o2 no2 co2] 26))
    obtain ⟨k1, k2⟩ := box_at HZ.out hext3
    obtain ⟨f1, f2, f3⟩ := box_fin HEX.out HZ.out hext3 (.slice o2 no2 co2)
    have hown3 := hown2.old ((Ext.refl w2).alloc (.cells #[.slice o2 no2 co2] 26))
    go_wp2_with fail
    try simp only [Exit.inBlock, Exit.then]
    refine bodyPost_ret (results_box1 rfl _ _ _ _ rfl (load_dec f2)) rfl ?_
    exact ⟨o2, no2, co2, rfl, f3 hown3, f1, hno2⟩

end Go.Proofs.YtpfhifjkecoahaaGreatDoor
