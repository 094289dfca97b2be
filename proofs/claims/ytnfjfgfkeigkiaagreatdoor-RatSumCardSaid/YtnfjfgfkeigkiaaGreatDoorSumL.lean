/- gleanlaw3.RatSum: the walk. -/
import Derived.Test.YtnfjfgfkeigkiaaGreatDoorRefT
namespace Go.Proofs.YtnfjfgfkeigkiaaGreatDoor
open Go.RowKit

set_option maxHeartbeats 4000000 in
set_option maxRecDepth 100000 in
theorem ratsum_law {a : Option Addr} {n c : Nat} {vs : List (Part × Part)} {ps : List (Nat × Nat)} {w : World} (ha : RSl w a n c vs) (hv : RVal0 w vs ps) (htab : Tab w) (htz : TzTab w) :
    Calls Tryz.prog 4 #[.slice a n c] w (RetE (.bool true) w) := by
  obtain ⟨i0, hi, hs⟩ := infoRat'
  have HI := Lib.hid hi; have HS := Lib.hid hs
  have HA := Lib.hid ha; have HV := Lib.hid hv; have HTZ := Lib.hid htz
  have CK := Lib.hid (knownR_calls w htab htz)
  have hcap := ha.cap
  have hbig := ha.big
  clear hi hs ha hv htab htz
  go_enter Tryz.func4, Tryz.ntmps4
  go_wp2_with fail
  refine CK.out.mono ?_
  rintro e w1 ⟨rfl, hext1⟩
  have E1 := Lib.hid hext1
  clear hext1
  by_cases hn : n ≤ 12
  rotate_left
  · have g1 : (12 : Int) < (n : Int) := by omega
    go_wp2_with fail
    go_ret
    exact ⟨rfl, E1.out⟩
  have g1 : ¬ (12 : Int) < (n : Int) := by omega
  have HSM := Lib.hid (smallR_calls (HA.out.old E1.out))
  by_cases h12 : vs.all twelveR = true
  rotate_left
  · rw [Bool.eq_false_iff.2 h12] at HSM
    go_wp2_with fail
    refine HSM.out.mono ?_
    rintro e w2 ⟨rfl, rfl⟩
    go_wp2_with fail
    go_ret
    exact ⟨rfl, E1.out⟩
  have HP := Lib.hid (HV.out.small E1.out h12)
  rw [h12] at HSM
  clear h12 HV
  have C1 := Lib.hid (rsum_calls (HA.out.old E1.out) (by omega) HP.out (HTZ.out.old E1.out))
  have C2 := Lib.hid (fun w2 (h : Ext w1 w2) => frsum_calls ((HA.out.old E1.out).old h) (by omega) (HP.out.old h))
  go_wp2_with fail
  refine HSM.out.mono ?_
  rintro e w2 ⟨rfl, rfl⟩
  go_wp2_with fail
  refine C1.out.mono ?_
  rintro e w2 ⟨a2, l2, c2, b2, m2, d2, rfl, oa2, ob2, hext2, hl2, hm2⟩
  have C3 := Lib.hid (C2.out w2 hext2)
  have OA := Lib.hid oa2.sl; have OB := Lib.hid ob2.sl; have E2 := Lib.hid (E1.out.trans hext2)
  clear oa2 ob2 hext2
  go_wp2_with fail
  refine C3.out.mono ?_
  rintro e w3 ⟨a3, l3, c3, b3, m3, d3, rfl, oa3, ob3, hext3, hl3, hm3⟩
  have C4 := Lib.hid (hrat_at (OA.out.old hext3) (OB.out.old hext3) oa3.sl ob3.sl (by omega) (by omega) (by omega) (by omega))
  have E3 := Lib.hid (E2.out.trans hext3)
  clear oa3 ob3 hext3
  go_wp2_with fail
  refine C4.out.mono ?_
  rintro e w4 ⟨rfl, hext4⟩
  go_wp2_with fail
  go_ret
  exact ⟨rfl, E3.out.trans hext4⟩

end Go.Proofs.YtnfjfgfkeigkiaaGreatDoor
