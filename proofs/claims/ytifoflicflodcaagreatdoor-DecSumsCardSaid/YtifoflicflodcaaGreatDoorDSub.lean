/- dec.Sub. -/
import Derived.Test.YtifoflicflodcaaGreatDoorDec
namespace Go.Proofs.YtifoflicflodcaaGreatDoor
open Go.RowKit

/-- A difference that is none. -/
def dsubL (X Y : Nat) : List Nat := if X < Y then [] else lim (X - Y)
def dsubE (X Y : Nat) : Int := if X < Y then 20 else 0

set_option maxHeartbeats 1000000 in
set_option maxRecDepth 100000 in
theorem dsub_calls {a b : Option Addr} {m n c d : Nat} {xs ys : List Nat} {w : World} (ha : Sl w a m c xs) (hb : Sl w b n d ys) (hm : m ≤ 900000000) (hn : n ≤ 900000000) :
    Calls Tryz.prog 10 #[DecV a m c, DecV b n d] w (NewDE w m (dsubL (val xs) (val ys)) (dsubE (val xs) (val ys))) := by
  have E2 := W2_ext w (.slice a m c) (.slice b n d)
  have E3 := E2.alloc (.cells #[.slice none 0 0] 25)
  have hz := W2_size w (.slice a m c) (.slice b n d)
  unfold dsubL dsubE
  by_cases hlt : val xs < val ys
  · rw [if_pos hlt, if_pos hlt]
    have CA := Lib.hid (sub_calls_lt (ha.old E3) (hb.old E3) (by omega) (by omega) hlt)
    clear hlt
    go_enter Tryz.func10, Tryz.ntmps10
    go_wp2_with fail
    refine CA.out.mono ?_
    rintro e w2 ⟨o2, no2, co2, rfl, hown2, hext2, hno2⟩
    obtain ⟨k1, k2⟩ := box_at hz hext2
    obtain ⟨f1, f2, f3⟩ := box_fin E2 hz hext2 (.slice none 0 0)
    go_wp2_with fail
    try simp only [Exit.inBlock, Exit.then]
    refine bodyPost_ret (results_box2 rfl _ _ _ _ rfl (load_dec f2)) rfl ?_
    exact ⟨none, 0, 0, rfl, Own.nil _ _, f1, by omega⟩
  · rw [if_neg hlt, if_neg hlt]
    have CA := Lib.hid (sub_calls_ge (ha.old E3) (hb.old E3) (by omega) (by omega) (by omega))
    clear hlt
    go_enter Tryz.func10, Tryz.ntmps10
    go_wp2_with fail
    refine CA.out.mono ?_
    rintro e w2 ⟨o2, no2, co2, rfl, hown2, hext2, hno2⟩
    obtain ⟨k1, k2⟩ := box_at hz hext2
    obtain ⟨f1, f2, f3⟩ := box_fin E2 hz hext2 (.slice o2 no2 co2)
    go_wp2_with fail
    try simp only [Exit.inBlock, Exit.then]
    refine bodyPost_ret (results_box2 rfl _ _ _ _ rfl (load_dec f2)) rfl ?_
    exact ⟨o2, no2, co2, rfl, f3 hown2, f1, by omega⟩

end Go.Proofs.YtifoflicflodcaaGreatDoor
