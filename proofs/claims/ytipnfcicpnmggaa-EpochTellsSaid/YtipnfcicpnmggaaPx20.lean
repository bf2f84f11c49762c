-- Written by a program of this session over the kit's print of the translation. Lean checks it.
import Derived.Test.YtipnfcicpnmggaaPx0
import Derived.Test.YtipnfcicpnmggaaPx5
import Derived.Test.YtipnfcicpnmggaaPx6
import Derived.Test.YtipnfcicpnmggaaPx7
import Derived.Test.YtipnfcicpnmggaaPx8
import Derived.Test.YtipnfcicpnmggaaPx10
import Derived.Test.YtipnfcicpnmggaaPx11
import Derived.Test.YtipnfcicpnmggaaPx13
import Derived.Test.YtipnfcicpnmggaaPx14
import Derived.Test.YtipnfcicpnmggaaPx15
import Derived.Test.YtipnfcicpnmggaaPx16
import Derived.Test.YtipnfcicpnmggaaPx17
import Derived.Test.YtipnfcicpnmggaaPx18
import Derived.Test.YtipnfcicpnmggaaPx19
-- shorter
namespace Go.Proofs.Ytipnfcicpnmggaa.P
open Go.RowKit Go.Proofs.YtipnfcicpnmggaaW.PrintWords Go.Proofs.YtipnfcicpnmggaaW.PrintLast Go.Proofs.YtipnfcicpnmggaaW.PrintMore
attribute [local go_sem] max2_int min2_int max_two min_two max_three min_three max_four min_four   -- for this text's walks alone
set_option linter.unusedVariables false
set_option linter.unusedSimpArgs false

/-! ### drydocklaw17_EpochTells: function 3 -/
mutual
def drydocklaw17_EpochTells.j0 : Nat → Int → Int → Bool → Bool → Int → Int → Int → Int → Int → List (S43) → Option (Bool)
  | 0, _, _, _, _, _, _, _, _, _, _ => none
  | k + 1, x1, x2, x7, x38, x327000, x327001, x327002, x327003, x327004, x327005 => if x38 = true then (some x7) else ((drydockref17_Own.f x327000 x327001 x327002 x327003 x327004 x327005).bind fun bt328 => ((epoch_Enter.f k x327000 x327001 x327002 x327003 x327004 x327005 x1).bind fun bt337 => ((drydockref17_Enter.f k x327000 x327001 x327002 x327003 x327004 x327005 x1).bind fun bt347 => ((drydockref17_Same.f k bt337.1 bt337.2.1 bt337.2.2.1 bt337.2.2.2.1 bt337.2.2.2.2.1 bt337.2.2.2.2.2.1 bt347.1 bt347.2.1 bt347.2.2.1 bt347.2.2.2.1 bt347.2.2.2.2.1 bt347.2.2.2.2.2.1).bind fun t357 => (if t357 = true then (drydocklaw17_EpochTells.j1 k x1 x2 (bt337.2.2.2.2.2.2 == bt347.2.2.2.2.2.2) x327000 x327001 x327002 x327003 x327004 x327005 bt328.1 bt328.2.1 bt328.2.2.1 bt328.2.2.2.1 bt328.2.2.2.2.1 bt328.2.2.2.2.2) else (drydocklaw17_EpochTells.j1 k x1 x2 false x327000 x327001 x327002 x327003 x327004 x327005 bt328.1 bt328.2.1 bt328.2.2.1 bt328.2.2.2.1 bt328.2.2.2.2.1 bt328.2.2.2.2.2))))))
def drydocklaw17_EpochTells.j1 : Nat → Int → Int → Bool → Int → Int → Int → Int → Int → List (S43) → Int → Int → Int → Int → Int → List (S43) → Option (Bool)
  | 0, _, _, _, _, _, _, _, _, _, _, _, _, _, _, _ => none
  | k + 1, x1, x2, x13, x327000, x327001, x327002, x327003, x327004, x327005, x337000, x337001, x337002, x337003, x337004, x337005 => (epoch_Leave.f k x327000 x327001 x327002 x327003 x327004 x327005 x1).bind fun bt358 => ((drydockref17_Leave.f k x327000 x327001 x327002 x327003 x327004 x327005 x1).bind fun bt368 => ((drydockref17_Same.f k bt358.1 bt358.2.1 bt358.2.2.1 bt358.2.2.2.1 bt358.2.2.2.2.1 bt358.2.2.2.2.2.1 bt368.1 bt368.2.1 bt368.2.2.1 bt368.2.2.2.1 bt368.2.2.2.2.1 bt368.2.2.2.2.2.1).bind fun t378 => (if t378 = true then (drydocklaw17_EpochTells.j2 k x2 x13 (bt358.2.2.2.2.2.2 == bt368.2.2.2.2.2.2) x327000 x327001 x327002 x327003 x327004 x327005 x337000 x337001 x337002 x337003 x337004 x337005) else (drydocklaw17_EpochTells.j2 k x2 x13 false x327000 x327001 x327002 x327003 x327004 x327005 x337000 x337001 x337002 x337003 x337004 x337005))))
def drydocklaw17_EpochTells.j2 : Nat → Int → Bool → Bool → Int → Int → Int → Int → Int → List (S43) → Int → Int → Int → Int → Int → List (S43) → Option (Bool)
  | 0, _, _, _, _, _, _, _, _, _, _, _, _, _, _, _ => none
  | k + 1, x2, x13, x18, x327000, x327001, x327002, x327003, x327004, x327005, x337000, x337001, x337002, x337003, x337004, x337005 => (epoch_Retire.f k x327000 x327001 x327002 x327003 x327004 x327005 x2).bind fun bt379 => ((drydockref17_Retire.f k x327000 x327001 x327002 x327003 x327004 x327005 x2).bind fun bt389 => ((drydockref17_Same.f k bt379.1 bt379.2.1 bt379.2.2.1 bt379.2.2.2.1 bt379.2.2.2.2.1 bt379.2.2.2.2.2.1 bt389.1 bt389.2.1 bt389.2.2.1 bt389.2.2.2.1 bt389.2.2.2.2.1 bt389.2.2.2.2.2.1).bind fun t399 => (if t399 = true then (drydocklaw17_EpochTells.j3 k x13 x18 (bt379.2.2.2.2.2.2 == bt389.2.2.2.2.2.2) x327000 x327001 x327002 x327003 x327004 x327005 x337000 x337001 x337002 x337003 x337004 x337005) else (drydocklaw17_EpochTells.j3 k x13 x18 false x327000 x327001 x327002 x327003 x327004 x327005 x337000 x337001 x337002 x337003 x337004 x337005))))
def drydocklaw17_EpochTells.j3 : Nat → Bool → Bool → Bool → Int → Int → Int → Int → Int → List (S43) → Int → Int → Int → Int → Int → List (S43) → Option (Bool)
  | 0, _, _, _, _, _, _, _, _, _, _, _, _, _, _, _ => none
  | k + 1, x13, x18, x23, x327000, x327001, x327002, x327003, x327004, x327005, x337000, x337001, x337002, x337003, x337004, x337005 => (epoch_Clear.f k x327000 x327001 x327002 x327003 x327004 x327005).bind fun bt400 => ((drydockref17_Clear.f k x327000 x327001 x327002 x327003 x327004 x327005).bind fun bt412 => ((drydockref17_Same.f k bt400.1 bt400.2.1 bt400.2.2.1 bt400.2.2.2.1 bt400.2.2.2.2.1 bt400.2.2.2.2.2.1 bt412.1 bt412.2.1 bt412.2.2.1 bt412.2.2.2.1 bt412.2.2.2.2.1 bt412.2.2.2.2.2.1).bind fun t424 => (if t424 = true then ((drydockref01_Ints.f k bt400.2.2.2.2.2.2 bt412.2.2.2.2.2.2).bind fun t425 => (drydocklaw17_EpochTells.j4 k x13 x18 x23 t425 x327000 x327001 x327002 x327003 x327004 x327005 x337000 x337001 x337002 x337003 x337004 x337005)) else (drydocklaw17_EpochTells.j4 k x13 x18 x23 false x327000 x327001 x327002 x327003 x327004 x327005 x337000 x337001 x337002 x337003 x337004 x337005))))
def drydocklaw17_EpochTells.j4 : Nat → Bool → Bool → Bool → Bool → Int → Int → Int → Int → Int → List (S43) → Int → Int → Int → Int → Int → List (S43) → Option (Bool)
  | 0, _, _, _, _, _, _, _, _, _, _, _, _, _, _, _, _ => none
  | k + 1, x13, x18, x23, x28, x327000, x327001, x327002, x327003, x327004, x327005, x337000, x337001, x337002, x337003, x337004, x337005 => (epoch_Ready.f k x327000 x327001 x327002 x327003 x327004 x327005).bind fun t426 => ((drydockref17_Ready.f k x327000 x327001 x327002 x327003 x327004 x327005).bind fun t429 => ((drydockref01_Ints.f k t426 t429).bind fun t432 => (if x13 = true then (if x18 = true then (if x23 = true then (if x28 = true then (if t432 = true then ((drydockref17_Same.f k x327000 x327001 x327002 x327003 x327004 x327005 x337000 x337001 x337002 x337003 x337004 x337005).bind fun t433 => (if t433 = true then ((epoch_May.f k x327000 x327001 x327002 x327003 x327004 x327005).bind fun t434 => ((drydockref17_May.f k x327000 x327001 x327002 x327003 x327004 x327005).bind fun t435 => (some (t434 == t435)))) else (none))) else (none)) else (none)) else (none)) else (none)) else (none))))
end
def drydocklaw17_EpochTells.f (k : Nat) (a0_0 : Int) (a0_1 : Int) (a0_2 : Int) (a0_3 : Int) (a0_4 : Int) (l0_5 : List (S43)) (a1 : Int) (a2 : Int) : Option (Bool) := (drydocklaw17_awake.f k).bind fun t327 => (if t327 = true then (drydocklaw17_EpochTells.j0 k a1 a2 t327 (decide ((l0_5.length : Int) > 40)) a0_0 a0_1 a0_2 a0_3 a0_4 l0_5) else (drydocklaw17_EpochTells.j0 k a1 a2 t327 true a0_0 a0_1 a0_2 a0_3 a0_4 l0_5))
theorem drydocklaw17_EpochTells.mono_l : ∀ k, (∀ y0 y1 y2 y3 y4 y5 y6 y7 y8 y9, LeO (drydocklaw17_EpochTells.j0 k y0 y1 y2 y3 y4 y5 y6 y7 y8 y9) (drydocklaw17_EpochTells.j0 (k + 1) y0 y1 y2 y3 y4 y5 y6 y7 y8 y9)) ∧ (∀ y0 y1 y2 y3 y4 y5 y6 y7 y8 y9 y10 y11 y12 y13 y14, LeO (drydocklaw17_EpochTells.j1 k y0 y1 y2 y3 y4 y5 y6 y7 y8 y9 y10 y11 y12 y13 y14) (drydocklaw17_EpochTells.j1 (k + 1) y0 y1 y2 y3 y4 y5 y6 y7 y8 y9 y10 y11 y12 y13 y14)) ∧ (∀ y0 y1 y2 y3 y4 y5 y6 y7 y8 y9 y10 y11 y12 y13 y14, LeO (drydocklaw17_EpochTells.j2 k y0 y1 y2 y3 y4 y5 y6 y7 y8 y9 y10 y11 y12 y13 y14) (drydocklaw17_EpochTells.j2 (k + 1) y0 y1 y2 y3 y4 y5 y6 y7 y8 y9 y10 y11 y12 y13 y14)) ∧ (∀ y0 y1 y2 y3 y4 y5 y6 y7 y8 y9 y10 y11 y12 y13 y14, LeO (drydocklaw17_EpochTells.j3 k y0 y1 y2 y3 y4 y5 y6 y7 y8 y9 y10 y11 y12 y13 y14) (drydocklaw17_EpochTells.j3 (k + 1) y0 y1 y2 y3 y4 y5 y6 y7 y8 y9 y10 y11 y12 y13 y14)) ∧ (∀ y0 y1 y2 y3 y4 y5 y6 y7 y8 y9 y10 y11 y12 y13 y14 y15, LeO (drydocklaw17_EpochTells.j4 k y0 y1 y2 y3 y4 y5 y6 y7 y8 y9 y10 y11 y12 y13 y14 y15) (drydocklaw17_EpochTells.j4 (k + 1) y0 y1 y2 y3 y4 y5 y6 y7 y8 y9 y10 y11 y12 y13 y14 y15))
  | 0 => ⟨fun _ _ _ _ _ _ _ _ _ _ r h => by simp [drydocklaw17_EpochTells.j0] at h, fun _ _ _ _ _ _ _ _ _ _ _ _ _ _ _ r h => by simp [drydocklaw17_EpochTells.j1] at h, fun _ _ _ _ _ _ _ _ _ _ _ _ _ _ _ r h => by simp [drydocklaw17_EpochTells.j2] at h, fun _ _ _ _ _ _ _ _ _ _ _ _ _ _ _ r h => by simp [drydocklaw17_EpochTells.j3] at h, fun _ _ _ _ _ _ _ _ _ _ _ _ _ _ _ _ r h => by simp [drydocklaw17_EpochTells.j4] at h⟩
  | k + 1 => by
    obtain ⟨ih0, ih1, ih2, ih3, ih4⟩ := drydocklaw17_EpochTells.mono_l k
    refine ⟨?_, ?_, ?_, ?_, ?_⟩
    · intro y0 y1 y2 y3 y4 y5 y6 y7 y8 y9
      unfold drydocklaw17_EpochTells.j0
      repeat' first
      | (with_reducible exact ih0 _ _ _ _ _ _ _ _ _ _)
      | (with_reducible exact ih1 _ _ _ _ _ _ _ _ _ _ _ _ _ _ _)
      | (with_reducible exact ih2 _ _ _ _ _ _ _ _ _ _ _ _ _ _ _)
      | (with_reducible exact ih3 _ _ _ _ _ _ _ _ _ _ _ _ _ _ _)
      | (with_reducible exact ih4 _ _ _ _ _ _ _ _ _ _ _ _ _ _ _ _)
      | (with_reducible exact drydocklaw17_awake.mono _)
      | (with_reducible exact drydockref01_Ints.mono _ _ _)
      | (with_reducible exact drydockref17_Clear.mono _ _ _ _ _ _ _)
      | (with_reducible exact drydockref17_Enter.mono _ _ _ _ _ _ _ _)
      | (with_reducible exact drydockref17_Leave.mono _ _ _ _ _ _ _ _)
      | (with_reducible exact drydockref17_May.mono _ _ _ _ _ _ _)
      | (with_reducible exact drydockref17_Ready.mono _ _ _ _ _ _ _)
      | (with_reducible exact drydockref17_Retire.mono _ _ _ _ _ _ _ _)
      | (with_reducible exact drydockref17_Same.mono _ _ _ _ _ _ _ _ _ _ _ _ _)
      | (with_reducible exact epoch_Clear.mono _ _ _ _ _ _ _)
      | (with_reducible exact epoch_Enter.mono _ _ _ _ _ _ _ _)
      | (with_reducible exact epoch_Leave.mono _ _ _ _ _ _ _ _)
      | (with_reducible exact epoch_May.mono _ _ _ _ _ _ _)
      | (with_reducible exact epoch_Ready.mono _ _ _ _ _ _ _)
      | (with_reducible exact epoch_Retire.mono _ _ _ _ _ _ _ _)
      | (with_reducible exact LeO.refl _)
      | (with_reducible exact LeO.none _)
      | (with_reducible refine LeO.ite ?_ ?_)
      | (with_reducible refine LeO.bind ?_ (fun _ => ?_))
      | exact ih0 _ _ _ _ _ _ _ _ _ _
      | exact ih1 _ _ _ _ _ _ _ _ _ _ _ _ _ _ _
      | exact ih2 _ _ _ _ _ _ _ _ _ _ _ _ _ _ _
      | exact ih3 _ _ _ _ _ _ _ _ _ _ _ _ _ _ _
      | exact ih4 _ _ _ _ _ _ _ _ _ _ _ _ _ _ _ _
      | exact drydocklaw17_awake.mono _
      | exact drydockref01_Ints.mono _ _ _
      | exact drydockref17_Clear.mono _ _ _ _ _ _ _
      | exact drydockref17_Enter.mono _ _ _ _ _ _ _ _
      | exact drydockref17_Leave.mono _ _ _ _ _ _ _ _
      | exact drydockref17_May.mono _ _ _ _ _ _ _
      | exact drydockref17_Ready.mono _ _ _ _ _ _ _
      | exact drydockref17_Retire.mono _ _ _ _ _ _ _ _
      | exact drydockref17_Same.mono _ _ _ _ _ _ _ _ _ _ _ _ _
      | exact epoch_Clear.mono _ _ _ _ _ _ _
      | exact epoch_Enter.mono _ _ _ _ _ _ _ _
      | exact epoch_Leave.mono _ _ _ _ _ _ _ _
      | exact epoch_May.mono _ _ _ _ _ _ _
      | exact epoch_Ready.mono _ _ _ _ _ _ _
      | exact epoch_Retire.mono _ _ _ _ _ _ _ _
      | exact LeO.none _
      | refine LeO.ite ?_ ?_
      | refine LeO.bind ?_ (fun _ => ?_)
    · intro y0 y1 y2 y3 y4 y5 y6 y7 y8 y9 y10 y11 y12 y13 y14
      unfold drydocklaw17_EpochTells.j1
      repeat' first
      | (with_reducible exact ih0 _ _ _ _ _ _ _ _ _ _)
      | (with_reducible exact ih1 _ _ _ _ _ _ _ _ _ _ _ _ _ _ _)
      | (with_reducible exact ih2 _ _ _ _ _ _ _ _ _ _ _ _ _ _ _)
      | (with_reducible exact ih3 _ _ _ _ _ _ _ _ _ _ _ _ _ _ _)
      | (with_reducible exact ih4 _ _ _ _ _ _ _ _ _ _ _ _ _ _ _ _)
      | (with_reducible exact drydocklaw17_awake.mono _)
      | (with_reducible exact drydockref01_Ints.mono _ _ _)
      | (with_reducible exact drydockref17_Clear.mono _ _ _ _ _ _ _)
      | (with_reducible exact drydockref17_Enter.mono _ _ _ _ _ _ _ _)
      | (with_reducible exact drydockref17_Leave.mono _ _ _ _ _ _ _ _)
      | (with_reducible exact drydockref17_May.mono _ _ _ _ _ _ _)
      | (with_reducible exact drydockref17_Ready.mono _ _ _ _ _ _ _)
      | (with_reducible exact drydockref17_Retire.mono _ _ _ _ _ _ _ _)
      | (with_reducible exact drydockref17_Same.mono _ _ _ _ _ _ _ _ _ _ _ _ _)
      | (with_reducible exact epoch_Clear.mono _ _ _ _ _ _ _)
      | (with_reducible exact epoch_Enter.mono _ _ _ _ _ _ _ _)
      | (with_reducible exact epoch_Leave.mono _ _ _ _ _ _ _ _)
      | (with_reducible exact epoch_May.mono _ _ _ _ _ _ _)
      | (with_reducible exact epoch_Ready.mono _ _ _ _ _ _ _)
      | (with_reducible exact epoch_Retire.mono _ _ _ _ _ _ _ _)
      | (with_reducible exact LeO.refl _)
      | (with_reducible exact LeO.none _)
      | (with_reducible refine LeO.ite ?_ ?_)
      | (with_reducible refine LeO.bind ?_ (fun _ => ?_))
      | exact ih0 _ _ _ _ _ _ _ _ _ _
      | exact ih1 _ _ _ _ _ _ _ _ _ _ _ _ _ _ _
      | exact ih2 _ _ _ _ _ _ _ _ _ _ _ _ _ _ _
      | exact ih3 _ _ _ _ _ _ _ _ _ _ _ _ _ _ _
      | exact ih4 _ _ _ _ _ _ _ _ _ _ _ _ _ _ _ _
      | exact drydocklaw17_awake.mono _
      | exact drydockref01_Ints.mono _ _ _
      | exact drydockref17_Clear.mono _ _ _ _ _ _ _
      | exact drydockref17_Enter.mono _ _ _ _ _ _ _ _
      | exact drydockref17_Leave.mono _ _ _ _ _ _ _ _
      | exact drydockref17_May.mono _ _ _ _ _ _ _
      | exact drydockref17_Ready.mono _ _ _ _ _ _ _
      | exact drydockref17_Retire.mono _ _ _ _ _ _ _ _
      | exact drydockref17_Same.mono _ _ _ _ _ _ _ _ _ _ _ _ _
      | exact epoch_Clear.mono _ _ _ _ _ _ _
      | exact epoch_Enter.mono _ _ _ _ _ _ _ _
      | exact epoch_Leave.mono _ _ _ _ _ _ _ _
      | exact epoch_May.mono _ _ _ _ _ _ _
      | exact epoch_Ready.mono _ _ _ _ _ _ _
      | exact epoch_Retire.mono _ _ _ _ _ _ _ _
      | exact LeO.none _
      | refine LeO.ite ?_ ?_
      | refine LeO.bind ?_ (fun _ => ?_)
    · intro y0 y1 y2 y3 y4 y5 y6 y7 y8 y9 y10 y11 y12 y13 y14
      unfold drydocklaw17_EpochTells.j2
      repeat' first
      | (with_reducible exact ih0 _ _ _ _ _ _ _ _ _ _)
      | (with_reducible exact ih1 _ _ _ _ _ _ _ _ _ _ _ _ _ _ _)
      | (with_reducible exact ih2 _ _ _ _ _ _ _ _ _ _ _ _ _ _ _)
      | (with_reducible exact ih3 _ _ _ _ _ _ _ _ _ _ _ _ _ _ _)
      | (with_reducible exact ih4 _ _ _ _ _ _ _ _ _ _ _ _ _ _ _ _)
      | (with_reducible exact drydocklaw17_awake.mono _)
      | (with_reducible exact drydockref01_Ints.mono _ _ _)
      | (with_reducible exact drydockref17_Clear.mono _ _ _ _ _ _ _)
      | (with_reducible exact drydockref17_Enter.mono _ _ _ _ _ _ _ _)
      | (with_reducible exact drydockref17_Leave.mono _ _ _ _ _ _ _ _)
      | (with_reducible exact drydockref17_May.mono _ _ _ _ _ _ _)
      | (with_reducible exact drydockref17_Ready.mono _ _ _ _ _ _ _)
      | (with_reducible exact drydockref17_Retire.mono _ _ _ _ _ _ _ _)
      | (with_reducible exact drydockref17_Same.mono _ _ _ _ _ _ _ _ _ _ _ _ _)
      | (with_reducible exact epoch_Clear.mono _ _ _ _ _ _ _)
      | (with_reducible exact epoch_Enter.mono _ _ _ _ _ _ _ _)
      | (with_reducible exact epoch_Leave.mono _ _ _ _ _ _ _ _)
      | (with_reducible exact epoch_May.mono _ _ _ _ _ _ _)
      | (with_reducible exact epoch_Ready.mono _ _ _ _ _ _ _)
      | (with_reducible exact epoch_Retire.mono _ _ _ _ _ _ _ _)
      | (with_reducible exact LeO.refl _)
      | (with_reducible exact LeO.none _)
      | (with_reducible refine LeO.ite ?_ ?_)
      | (with_reducible refine LeO.bind ?_ (fun _ => ?_))
      | exact ih0 _ _ _ _ _ _ _ _ _ _
      | exact ih1 _ _ _ _ _ _ _ _ _ _ _ _ _ _ _
      | exact ih2 _ _ _ _ _ _ _ _ _ _ _ _ _ _ _
      | exact ih3 _ _ _ _ _ _ _ _ _ _ _ _ _ _ _
      | exact ih4 _ _ _ _ _ _ _ _ _ _ _ _ _ _ _ _
      | exact drydocklaw17_awake.mono _
      | exact drydockref01_Ints.mono _ _ _
      | exact drydockref17_Clear.mono _ _ _ _ _ _ _
      | exact drydockref17_Enter.mono _ _ _ _ _ _ _ _
      | exact drydockref17_Leave.mono _ _ _ _ _ _ _ _
      | exact drydockref17_May.mono _ _ _ _ _ _ _
      | exact drydockref17_Ready.mono _ _ _ _ _ _ _
      | exact drydockref17_Retire.mono _ _ _ _ _ _ _ _
      | exact drydockref17_Same.mono _ _ _ _ _ _ _ _ _ _ _ _ _
      | exact epoch_Clear.mono _ _ _ _ _ _ _
      | exact epoch_Enter.mono _ _ _ _ _ _ _ _
      | exact epoch_Leave.mono _ _ _ _ _ _ _ _
      | exact epoch_May.mono _ _ _ _ _ _ _
      | exact epoch_Ready.mono _ _ _ _ _ _ _
      | exact epoch_Retire.mono _ _ _ _ _ _ _ _
      | exact LeO.none _
      | refine LeO.ite ?_ ?_
      | refine LeO.bind ?_ (fun _ => ?_)
    · intro y0 y1 y2 y3 y4 y5 y6 y7 y8 y9 y10 y11 y12 y13 y14
      unfold drydocklaw17_EpochTells.j3
      repeat' first
      | (with_reducible exact ih0 _ _ _ _ _ _ _ _ _ _)
      | (with_reducible exact ih1 _ _ _ _ _ _ _ _ _ _ _ _ _ _ _)
      | (with_reducible exact ih2 _ _ _ _ _ _ _ _ _ _ _ _ _ _ _)
      | (with_reducible exact ih3 _ _ _ _ _ _ _ _ _ _ _ _ _ _ _)
      | (with_reducible exact ih4 _ _ _ _ _ _ _ _ _ _ _ _ _ _ _ _)
      | (with_reducible exact drydocklaw17_awake.mono _)
      | (with_reducible exact drydockref01_Ints.mono _ _ _)
      | (with_reducible exact drydockref17_Clear.mono _ _ _ _ _ _ _)
      | (with_reducible exact drydockref17_Enter.mono _ _ _ _ _ _ _ _)
      | (with_reducible exact drydockref17_Leave.mono _ _ _ _ _ _ _ _)
      | (with_reducible exact drydockref17_May.mono _ _ _ _ _ _ _)
      | (with_reducible exact drydockref17_Ready.mono _ _ _ _ _ _ _)
      | (with_reducible exact drydockref17_Retire.mono _ _ _ _ _ _ _ _)
      | (with_reducible exact drydockref17_Same.mono _ _ _ _ _ _ _ _ _ _ _ _ _)
      | (with_reducible exact epoch_Clear.mono _ _ _ _ _ _ _)
      | (with_reducible exact epoch_Enter.mono _ _ _ _ _ _ _ _)
      | (with_reducible exact epoch_Leave.mono _ _ _ _ _ _ _ _)
      | (with_reducible exact epoch_May.mono _ _ _ _ _ _ _)
      | (with_reducible exact epoch_Ready.mono _ _ _ _ _ _ _)
      | (with_reducible exact epoch_Retire.mono _ _ _ _ _ _ _ _)
      | (with_reducible exact LeO.refl _)
      | (with_reducible exact LeO.none _)
      | (with_reducible refine LeO.ite ?_ ?_)
      | (with_reducible refine LeO.bind ?_ (fun _ => ?_))
      | exact ih0 _ _ _ _ _ _ _ _ _ _
      | exact ih1 _ _ _ _ _ _ _ _ _ _ _ _ _ _ _
      | exact ih2 _ _ _ _ _ _ _ _ _ _ _ _ _ _ _
      | exact ih3 _ _ _ _ _ _ _ _ _ _ _ _ _ _ _
      | exact ih4 _ _ _ _ _ _ _ _ _ _ _ _ _ _ _ _
      | exact drydocklaw17_awake.mono _
      | exact drydockref01_Ints.mono _ _ _
      | exact drydockref17_Clear.mono _ _ _ _ _ _ _
      | exact drydockref17_Enter.mono _ _ _ _ _ _ _ _
      | exact drydockref17_Leave.mono _ _ _ _ _ _ _ _
      | exact drydockref17_May.mono _ _ _ _ _ _ _
      | exact drydockref17_Ready.mono _ _ _ _ _ _ _
      | exact drydockref17_Retire.mono _ _ _ _ _ _ _ _
      | exact drydockref17_Same.mono _ _ _ _ _ _ _ _ _ _ _ _ _
      | exact epoch_Clear.mono _ _ _ _ _ _ _
      | exact epoch_Enter.mono _ _ _ _ _ _ _ _
      | exact epoch_Leave.mono _ _ _ _ _ _ _ _
      | exact epoch_May.mono _ _ _ _ _ _ _
      | exact epoch_Ready.mono _ _ _ _ _ _ _
      | exact epoch_Retire.mono _ _ _ _ _ _ _ _
      | exact LeO.none _
      | refine LeO.ite ?_ ?_
      | refine LeO.bind ?_ (fun _ => ?_)
    · intro y0 y1 y2 y3 y4 y5 y6 y7 y8 y9 y10 y11 y12 y13 y14 y15
      unfold drydocklaw17_EpochTells.j4
      repeat' first
      | (with_reducible exact ih0 _ _ _ _ _ _ _ _ _ _)
      | (with_reducible exact ih1 _ _ _ _ _ _ _ _ _ _ _ _ _ _ _)
      | (with_reducible exact ih2 _ _ _ _ _ _ _ _ _ _ _ _ _ _ _)
      | (with_reducible exact ih3 _ _ _ _ _ _ _ _ _ _ _ _ _ _ _)
      | (with_reducible exact ih4 _ _ _ _ _ _ _ _ _ _ _ _ _ _ _ _)
      | (with_reducible exact drydocklaw17_awake.mono _)
      | (with_reducible exact drydockref01_Ints.mono _ _ _)
      | (with_reducible exact drydockref17_Clear.mono _ _ _ _ _ _ _)
      | (with_reducible exact drydockref17_Enter.mono _ _ _ _ _ _ _ _)
      | (with_reducible exact drydockref17_Leave.mono _ _ _ _ _ _ _ _)
      | (with_reducible exact drydockref17_May.mono _ _ _ _ _ _ _)
      | (with_reducible exact drydockref17_Ready.mono _ _ _ _ _ _ _)
      | (with_reducible exact drydockref17_Retire.mono _ _ _ _ _ _ _ _)
      | (with_reducible exact drydockref17_Same.mono _ _ _ _ _ _ _ _ _ _ _ _ _)
      | (with_reducible exact epoch_Clear.mono _ _ _ _ _ _ _)
      | (with_reducible exact epoch_Enter.mono _ _ _ _ _ _ _ _)
      | (with_reducible exact epoch_Leave.mono _ _ _ _ _ _ _ _)
      | (with_reducible exact epoch_May.mono _ _ _ _ _ _ _)
      | (with_reducible exact epoch_Ready.mono _ _ _ _ _ _ _)
      | (with_reducible exact epoch_Retire.mono _ _ _ _ _ _ _ _)
      | (with_reducible exact LeO.refl _)
      | (with_reducible exact LeO.none _)
      | (with_reducible refine LeO.ite ?_ ?_)
      | (with_reducible refine LeO.bind ?_ (fun _ => ?_))
      | exact ih0 _ _ _ _ _ _ _ _ _ _
      | exact ih1 _ _ _ _ _ _ _ _ _ _ _ _ _ _ _
      | exact ih2 _ _ _ _ _ _ _ _ _ _ _ _ _ _ _
      | exact ih3 _ _ _ _ _ _ _ _ _ _ _ _ _ _ _
      | exact ih4 _ _ _ _ _ _ _ _ _ _ _ _ _ _ _ _
      | exact drydocklaw17_awake.mono _
      | exact drydockref01_Ints.mono _ _ _
      | exact drydockref17_Clear.mono _ _ _ _ _ _ _
      | exact drydockref17_Enter.mono _ _ _ _ _ _ _ _
      | exact drydockref17_Leave.mono _ _ _ _ _ _ _ _
      | exact drydockref17_May.mono _ _ _ _ _ _ _
      | exact drydockref17_Ready.mono _ _ _ _ _ _ _
      | exact drydockref17_Retire.mono _ _ _ _ _ _ _ _
      | exact drydockref17_Same.mono _ _ _ _ _ _ _ _ _ _ _ _ _
      | exact epoch_Clear.mono _ _ _ _ _ _ _
      | exact epoch_Enter.mono _ _ _ _ _ _ _ _
      | exact epoch_Leave.mono _ _ _ _ _ _ _ _
      | exact epoch_May.mono _ _ _ _ _ _ _
      | exact epoch_Ready.mono _ _ _ _ _ _ _
      | exact epoch_Retire.mono _ _ _ _ _ _ _ _
      | exact LeO.none _
      | refine LeO.ite ?_ ?_
      | refine LeO.bind ?_ (fun _ => ?_)
theorem drydocklaw17_EpochTells.mono : ∀ a0 a1 a2 a3 a4 a5 a6 a7 k, LeO (drydocklaw17_EpochTells.f k a0 a1 a2 a3 a4 a5 a6 a7) (drydocklaw17_EpochTells.f (k + 1) a0 a1 a2 a3 a4 a5 a6 a7) := by
 intro a0 a1 a2 a3 a4 a5 a6 a7 k
 obtain ⟨ih0, ih1, ih2, ih3, ih4⟩ := drydocklaw17_EpochTells.mono_l k
 unfold drydocklaw17_EpochTells.f
 repeat' first
  | (with_reducible exact ih0 _ _ _ _ _ _ _ _ _ _)
  | (with_reducible exact ih1 _ _ _ _ _ _ _ _ _ _ _ _ _ _ _)
  | (with_reducible exact ih2 _ _ _ _ _ _ _ _ _ _ _ _ _ _ _)
  | (with_reducible exact ih3 _ _ _ _ _ _ _ _ _ _ _ _ _ _ _)
  | (with_reducible exact ih4 _ _ _ _ _ _ _ _ _ _ _ _ _ _ _ _)
  | (with_reducible exact drydocklaw17_awake.mono _)
  | (with_reducible exact drydockref01_Ints.mono _ _ _)
  | (with_reducible exact drydockref17_Clear.mono _ _ _ _ _ _ _)
  | (with_reducible exact drydockref17_Enter.mono _ _ _ _ _ _ _ _)
  | (with_reducible exact drydockref17_Leave.mono _ _ _ _ _ _ _ _)
  | (with_reducible exact drydockref17_May.mono _ _ _ _ _ _ _)
  | (with_reducible exact drydockref17_Ready.mono _ _ _ _ _ _ _)
  | (with_reducible exact drydockref17_Retire.mono _ _ _ _ _ _ _ _)
  | (with_reducible exact drydockref17_Same.mono _ _ _ _ _ _ _ _ _ _ _ _ _)
  | (with_reducible exact epoch_Clear.mono _ _ _ _ _ _ _)
  | (with_reducible exact epoch_Enter.mono _ _ _ _ _ _ _ _)
  | (with_reducible exact epoch_Leave.mono _ _ _ _ _ _ _ _)
  | (with_reducible exact epoch_May.mono _ _ _ _ _ _ _)
  | (with_reducible exact epoch_Ready.mono _ _ _ _ _ _ _)
  | (with_reducible exact epoch_Retire.mono _ _ _ _ _ _ _ _)
  | (with_reducible exact LeO.refl _)
  | (with_reducible exact LeO.none _)
  | (with_reducible refine LeO.ite ?_ ?_)
  | (with_reducible refine LeO.bind ?_ (fun _ => ?_))
  | exact ih0 _ _ _ _ _ _ _ _ _ _
  | exact ih1 _ _ _ _ _ _ _ _ _ _ _ _ _ _ _
  | exact ih2 _ _ _ _ _ _ _ _ _ _ _ _ _ _ _
  | exact ih3 _ _ _ _ _ _ _ _ _ _ _ _ _ _ _
  | exact ih4 _ _ _ _ _ _ _ _ _ _ _ _ _ _ _ _
  | exact drydocklaw17_awake.mono _
  | exact drydockref01_Ints.mono _ _ _
  | exact drydockref17_Clear.mono _ _ _ _ _ _ _
  | exact drydockref17_Enter.mono _ _ _ _ _ _ _ _
  | exact drydockref17_Leave.mono _ _ _ _ _ _ _ _
  | exact drydockref17_May.mono _ _ _ _ _ _ _
  | exact drydockref17_Ready.mono _ _ _ _ _ _ _
  | exact drydockref17_Retire.mono _ _ _ _ _ _ _ _
  | exact drydockref17_Same.mono _ _ _ _ _ _ _ _ _ _ _ _ _
  | exact epoch_Clear.mono _ _ _ _ _ _ _
  | exact epoch_Enter.mono _ _ _ _ _ _ _ _
  | exact epoch_Leave.mono _ _ _ _ _ _ _ _
  | exact epoch_May.mono _ _ _ _ _ _ _
  | exact epoch_Ready.mono _ _ _ _ _ _ _
  | exact epoch_Retire.mono _ _ _ _ _ _ _ _
  | exact LeO.none _
  | refine LeO.ite ?_ ?_
  | refine LeO.bind ?_ (fun _ => ?_)
def drydocklaw17_EpochTells.T18 : Bool × List (List Nat × List Nat) := (true, [([], []), ([0], [0]), ([1], [1]), ([1, 2], [1, 2]), ([3, 1], [3]), ([4], [4]), ([4, 5], [4, 5]), ([6, 4], [6]), ([7], [7]), ([7, 8], [7, 8]), ([9, 7], [9]), ([10], [10]), ([10, 11], [10, 11]), ([12, 10], [12]), ([13], [13]), ([13], [13]), ([14, 15, 13, 13], [13, 14, 15]), ([13, 16], [13, 16]), ([17, 16], [17]), ([18], [18]), ([19, 18, 18], [18, 19]), ([18], [18]), ([21, 20, 18], [18, 21]), ([20, 22, 18], [18, 20, 22]), ([18, 23], [18, 23]), ([24, 22, 0, 1, 2, 3, 4, 5, 6, 7, 8, 9, 10, 11, 12, 13, 14, 15, 16, 17, 18, 19, 20, 21, 22, 23, 24], [24])])
def drydocklaw17_EpochTells.B18 : List Nat := [0, 1, 3, 7, 15, 31, 63, 127, 255, 511, 1023, 2047, 4095, 8191, 16383, 16383, 65535, 131071, 262143, 524287, 1048575, 524287, 4194303, 8388607, 16777215, 33554431]
theorem drydocklaw17_EpochTells.tab18 : rtab .any (opsOf Try.f3 18) = drydocklaw17_EpochTells.T18 := by kernel_rfl
theorem drydocklaw17_EpochTells.bits18 : waitsOk drydocklaw17_EpochTells.T18.2 drydocklaw17_EpochTells.B18 = true := by kernel_rfl
set_option maxHeartbeats 8000000 in
set_option maxRecDepth 100000 in
theorem drydocklaw17_EpochTells.calls (k : Nat) (a0_0 : Int) (a0_1 : Int) (a0_2 : Int) (a0_3 : Int) (a0_4 : Int) (A0_5 : Option Addr) (c0_5 : Nat) (l0_5 : List (S43)) (a1 : Int) (a2 : Int) (r : Bool) (w : World) (hr0_5 : Kd.C k43 w A0_5 l0_5.length l0_5) (hc0_5 : l0_5.length ≤ c0_5) (h : drydocklaw17_EpochTells.f k a0_0 a0_1 a0_2 a0_3 a0_4 l0_5 a1 a2 = some r) :
    Calls Try.prog 3 #[.agg #[.int .i64 a0_0, .int .i64 a0_1, .int .i64 a0_2, .int .i64 a0_3, .int .i64 a0_4, .slice A0_5 l0_5.length c0_5], .int .i64 a1, .int .i64 a2] w fun e w' => e = .returned (.bool r) ∧ Below w.heap.size w w' := by
 have hu25 := Try.underlying25
 have HR0_5 := Aside0.mk hr0_5
 have HC0_5 := Aside0.mk hc0_5
 clear hr0_5 hc0_5
 have HB := Aside0.mk (Below.refl w.heap.size w)
 have H : ((drydocklaw17_awake.f k).bind fun t327 => (if t327 = true then (drydocklaw17_EpochTells.j0 k a1 a2 t327 (decide ((l0_5.length : Int) > 40)) a0_0 a0_1 a0_2 a0_3 a0_4 l0_5) else (drydocklaw17_EpochTells.j0 k a1 a2 t327 true a0_0 a0_1 a0_2 a0_3 a0_4 l0_5))) = some r := h
 clear h
 replace H := Option.bind_eq_some_iff.mp H
 obtain ⟨t327, A40, H⟩ := H
 replace H : (if t327 = true then (drydocklaw17_EpochTells.j0 k a1 a2 t327 (decide ((l0_5.length : Int) > 40)) a0_0 a0_1 a0_2 a0_3 a0_4 l0_5) else (drydocklaw17_EpochTells.j0 k a1 a2 t327 true a0_0 a0_1 a0_2 a0_3 a0_4 l0_5)) = some r := H
 have A4 := Aside0.mk A40
 clear A40
 have HC5 := Aside0.mk H
 clear H
 go_enter Try.func3, Try.ntmps3
 go_upto_region 2 with (first | ((with_reducible refine gate_dst (N := 3) rfl ?_); (try (refine gate_guard (by rfl) ?_; dsimp only)); refine box_event ?hg (N := 3) ?hd (cs := #[.int .i64 a0_0, .int .i64 a0_1, .int .i64 a0_2, .int .i64 a0_3, .int .i64 a0_4, .slice A0_5 l0_5.length c0_5]) (t := 25) ?hr ?_; (case hd => rfl); (case hg => rfl); (case hr => first | (go_simp; done) | (go_simp; rfl)); intro gb326 hg w6 hbox hb; have n0_ := Aside0.mk (below_step bs_ hb); have n1_ := Aside0.mk (hbox); have n2_ := Aside0.mk ((by rw [hg]; exact (below_size bs_) : w.heap.size ≤ gb326)); have n3_ := Aside0.mk ((by rw [hg]; exact (below_size bs_) : w.heap.size ≤ gb326)); clear HB; have HB := n0_; have BK326 := n1_; have GW326 := n2_; have GE326 := n3_; clear n0_ n1_ n2_ n3_; clear hb hbox hg) | ((with_reducible refine gate_callee (f := 9) rfl ?_); refine goesL_ (some 30) rfl rfl Try.func9 (by kernel_rfl) rfl #[] rfl (by (try simp only [List.map_toArray, List.map_cons, List.map_nil]); first | done | rfl | (simp only [List.length_drop, List.length_take]; rfl)) ?_; (with_reducible refine (drydocklaw17_awake.calls k  t327 _ A4.out).mono ?_); rintro e w7 ⟨rfl, hb⟩; refine ⟨_, rfl, ?_⟩; have n0_ := Aside0.mk (blk_below (bk_ BK326) hb); have n1_ := Aside0.mk (below_step bs_ hb); clear BK326 HB; have BK326 := n0_; have HB := n1_; clear n0_ n1_; (try clear hb); (try clear hb2); (try clear hk); (try clear hi)))
 (try simp only [Act.put, List.setIfInBounds_toArray, List.set_cons_zero, List.set_cons_succ])
 go_cut [38] (fun v38 wc => ∃ (kq : Nat) (x38_4 : Bool), v38 = .bool x38_4 ∧ Aside0 (drydocklaw17_EpochTells.j0 kq a1 a2 t327 x38_4 a0_0 a0_1 a0_2 a0_3 a0_4 l0_5 = some r) ∧ Aside0 (kq ≤ k) ∧ Aside0 (wc.heap[gb326]? = some (.cells #[.int .i64 a0_0, .int .i64 a0_1, .int .i64 a0_2, .int .i64 a0_3, .int .i64 a0_4, (.slice A0_5 l0_5.length c0_5)] 25 (0, 0))) ∧ Aside0 (Below w.heap.size w wc))
 case first =>
  have H := HC5.out
  clear HC5
  by_cases c8 : t327 = true
  ·subst c8
   have H1 : (drydocklaw17_EpochTells.j0 k a1 a2 true (decide ((l0_5.length : Int) > 40)) a0_0 a0_1 a0_2 a0_3 a0_4 l0_5) = some r := by rw [if_pos rfl] at H; exact H
   clear H
   have H := H1
   clear H1
   have H' := Aside0.mk H
   clear H
   obtain ⟨hcz9_0, hcz9_1, hcz9_2, hcz9_3, hcz9_4, hcz9_5, hfz9_0, hfz9_1, hfz9_2, hfz9_3, hfz9_4, hfz9_5⟩ := blk6 BK326
   go_wp2
   go_meet
   case rel => exact ⟨_, (decide ((l0_5.length : Int) > 40)), eq_, H', ⟨by first | omega | exact Nat.le_refl _⟩, ⟨bk_ BK326⟩, ⟨bs_⟩⟩
  ·replace c8 := Bool.eq_false_iff.mpr c8
   subst c8
   have H1 : (drydocklaw17_EpochTells.j0 k a1 a2 false true a0_0 a0_1 a0_2 a0_3 a0_4 l0_5) = some r := by rw [if_neg (show ¬ (false = true) by decide)] at H; exact H
   clear H
   have H := H1
   clear H1
   have H' := Aside0.mk H
   clear H
   go_wp2
   go_meet
   case rel => exact ⟨_, (true), eq_, H', ⟨by first | omega | exact Nat.le_refl _⟩, ⟨bk_ BK326⟩, ⟨bs_⟩⟩
 case rest =>
  clear HC5
  obtain ⟨kq, x38_4, rfl, HA, HJ4, BK326, HB⟩ := hcut
  cases kq with
  | zero => exact absurd HA.out (by simp [drydocklaw17_EpochTells.j0])
  | succ kj4 =>
   have H := HA.out
   clear HA
   simp only [drydocklaw17_EpochTells.j0] at H
   by_cases c10 : x38_4 = true
   ·subst c10
    have H1 : (some t327) = some r := by rw [if_pos rfl] at H; exact H
    clear H
    have H := H1
    clear H1
    obtain rfl := Option.some.inj H
    go_wp2
    go_ret
    exact ⟨by first | rfl | (simp [errW_none, errW_some] <;> rfl) | (simp [*, errW_none, errW_some] <;> rfl), by repeat (first | (with_reducible first | exact HB.out | apply below_alloc | apply pw_below_drewN | apply below_drew1 | refine below_set ?_ GE326.out) | exact HB.out)⟩
   ·replace c10 := Bool.eq_false_iff.mpr c10
    subst c10
    have H1 : ((drydockref17_Own.f a0_0 a0_1 a0_2 a0_3 a0_4 l0_5).bind fun bt328 => ((epoch_Enter.f kj4 a0_0 a0_1 a0_2 a0_3 a0_4 l0_5 a1).bind fun bt337 => ((drydockref17_Enter.f kj4 a0_0 a0_1 a0_2 a0_3 a0_4 l0_5 a1).bind fun bt347 => ((drydockref17_Same.f kj4 bt337.1 bt337.2.1 bt337.2.2.1 bt337.2.2.2.1 bt337.2.2.2.2.1 bt337.2.2.2.2.2.1 bt347.1 bt347.2.1 bt347.2.2.1 bt347.2.2.2.1 bt347.2.2.2.2.1 bt347.2.2.2.2.2.1).bind fun t357 => (if t357 = true then (drydocklaw17_EpochTells.j1 kj4 a1 a2 (bt337.2.2.2.2.2.2 == bt347.2.2.2.2.2.2) a0_0 a0_1 a0_2 a0_3 a0_4 l0_5 bt328.1 bt328.2.1 bt328.2.2.1 bt328.2.2.2.1 bt328.2.2.2.2.1 bt328.2.2.2.2.2) else (drydocklaw17_EpochTells.j1 kj4 a1 a2 false a0_0 a0_1 a0_2 a0_3 a0_4 l0_5 bt328.1 bt328.2.1 bt328.2.2.1 bt328.2.2.2.1 bt328.2.2.2.2.1 bt328.2.2.2.2.2)))))) = some r := by rw [if_neg (show ¬ (false = true) by decide)] at H; exact H
    clear H
    have H := H1
    clear H1
    replace H := Option.bind_eq_some_iff.mp H
    obtain ⟨⟨t328, t329, t330, t331, t332, t333⟩, A110, H⟩ := H
    replace H : ((epoch_Enter.f kj4 a0_0 a0_1 a0_2 a0_3 a0_4 l0_5 a1).bind fun bt337 => ((drydockref17_Enter.f kj4 a0_0 a0_1 a0_2 a0_3 a0_4 l0_5 a1).bind fun bt347 => ((drydockref17_Same.f kj4 bt337.1 bt337.2.1 bt337.2.2.1 bt337.2.2.2.1 bt337.2.2.2.2.1 bt337.2.2.2.2.2.1 bt347.1 bt347.2.1 bt347.2.2.1 bt347.2.2.2.1 bt347.2.2.2.2.1 bt347.2.2.2.2.2.1).bind fun t357 => (if t357 = true then (drydocklaw17_EpochTells.j1 kj4 a1 a2 (bt337.2.2.2.2.2.2 == bt347.2.2.2.2.2.2) a0_0 a0_1 a0_2 a0_3 a0_4 l0_5 t328 t329 t330 t331 t332 t333) else (drydocklaw17_EpochTells.j1 kj4 a1 a2 false a0_0 a0_1 a0_2 a0_3 a0_4 l0_5 t328 t329 t330 t331 t332 t333))))) = some r := H
    have A11 := Aside0.mk A110
    clear A110
    replace H := Option.bind_eq_some_iff.mp H
    obtain ⟨⟨t337, t338, t339, t340, t341, t342, t345⟩, A120, H⟩ := H
    replace H : ((drydockref17_Enter.f kj4 a0_0 a0_1 a0_2 a0_3 a0_4 l0_5 a1).bind fun bt347 => ((drydockref17_Same.f kj4 t337 t338 t339 t340 t341 t342 bt347.1 bt347.2.1 bt347.2.2.1 bt347.2.2.2.1 bt347.2.2.2.2.1 bt347.2.2.2.2.2.1).bind fun t357 => (if t357 = true then (drydocklaw17_EpochTells.j1 kj4 a1 a2 (t345 == bt347.2.2.2.2.2.2) a0_0 a0_1 a0_2 a0_3 a0_4 l0_5 t328 t329 t330 t331 t332 t333) else (drydocklaw17_EpochTells.j1 kj4 a1 a2 false a0_0 a0_1 a0_2 a0_3 a0_4 l0_5 t328 t329 t330 t331 t332 t333)))) = some r := H
    have A12 := Aside0.mk A120
    clear A120
    replace H := Option.bind_eq_some_iff.mp H
    obtain ⟨⟨t347, t348, t349, t350, t351, t352, t355⟩, A130, H⟩ := H
    replace H : ((drydockref17_Same.f kj4 t337 t338 t339 t340 t341 t342 t347 t348 t349 t350 t351 t352).bind fun t357 => (if t357 = true then (drydocklaw17_EpochTells.j1 kj4 a1 a2 (t345 == t355) a0_0 a0_1 a0_2 a0_3 a0_4 l0_5 t328 t329 t330 t331 t332 t333) else (drydocklaw17_EpochTells.j1 kj4 a1 a2 false a0_0 a0_1 a0_2 a0_3 a0_4 l0_5 t328 t329 t330 t331 t332 t333))) = some r := H
    have A13 := Aside0.mk A130
    clear A130
    have HC14 := Aside0.mk H
    clear H
    obtain ⟨hcz15_0, hcz15_1, hcz15_2, hcz15_3, hcz15_4, hcz15_5, hfz15_0, hfz15_1, hfz15_2, hfz15_3, hfz15_4, hfz15_5⟩ := blk6 BK326
    go_upto_region 7 with (first | ((with_reducible refine gate_callee (f := 10) rfl ?_); refine goesL_ (some 41) rfl rfl Try.func10 (by kernel_rfl) rfl #[.agg #[.int .i64 a0_0, .int .i64 a0_1, .int .i64 a0_2, .int .i64 a0_3, .int .i64 a0_4, .slice A0_5 l0_5.length c0_5]] rfl (by (try simp only [List.map_toArray, List.map_cons, List.map_nil]); first | done | rfl | (simp only [List.length_drop, List.length_take]; rfl)) ?_; (with_reducible refine (drydockref17_Own.calls a0_0 a0_1 a0_2 a0_3 a0_4 _ _ l0_5 t328 t329 t330 t331 t332 t333 _ ?side1 ?side2 A11.out).mono ?_); (case side1 => repeat (first | exact (Kd.C_below HR0_5.out HB.out) | (with_reducible refine Kd.C_alloc ?_ _) | (with_reducible refine Kd.C_drewN ?_ _) | (with_reducible refine Kd.C_drew ?_))); (case side2 => exact HC0_5.out); rintro e w16 ⟨v334, rfl, ho0, hb⟩; refine ⟨_, rfl, ?_⟩; have n0_ := Aside0.mk (Kd.R_lower ho0 (below_size bs_)); have n1_ := Aside0.mk (blk_below (bk_ BK326) hb); have n2_ := Aside0.mk (below_step bs_ hb); clear BK326 HB; have HO335 := n0_; have BK326 := n1_; have HB := n2_; clear n0_ n1_ n2_; (try clear hb); (try clear hb2); (try clear hk); (try clear hi); (try clear ho0); obtain ⟨Ao17, co17, eo17⟩ := Kd.R_slice HO335.out; subst eo17) | ((with_reducible refine gate_dst (N := 8) rfl ?_); (try (refine gate_guard (by rfl) ?_; dsimp only)); refine box_event ?hg (N := 8) ?hd (cs := #[.int .i64 0, .int .i64 0, .int .i64 0, .int .i64 0, .int .i64 0, .slice none 0 0]) (t := 25) ?hr ?_; (case hd => rfl); (case hg => rfl); (case hr => first | (go_simp; done) | (go_simp; rfl)); intro gb336 hg w18 hbox hb; have n0_ := Aside0.mk (Kd.R_below (rk_ HO335) hb); have n1_ := Aside0.mk (blk_below (bk_ BK326) hb); have n2_ := Aside0.mk (below_step bs_ hb); have n3_ := Aside0.mk (hbox); have n4_ := Aside0.mk ((by rw [hg]; exact (below_size bs_) : w.heap.size ≤ gb336)); have n5_ := Aside0.mk ((by rw [hg]; exact (below_size bs_) : w.heap.size ≤ gb336)); have n6_ := Aside0.mk ((by rw [hg]; exact Nat.ne_of_lt (blk_lt (bk_ BK326)) : gb326 ≠ gb336)); have n7_ := Aside0.mk ((by rw [hg]; exact Nat.ne_of_gt (blk_lt (bk_ BK326)) : gb336 ≠ gb326)); clear HO335 BK326 HB; have HO335 := n0_; have BK326 := n1_; have HB := n2_; have BK336 := n3_; have GW336 := n4_; have GE336 := n5_; have NB326_336 := n6_; have NB336_326 := n7_; clear n0_ n1_ n2_ n3_ n4_ n5_ n6_ n7_; clear hb hbox hg; have hnb19 := NB336_326.out; have hnc19 := NB326_336.out; obtain ⟨hcz20_0, hcz20_1, hcz20_2, hcz20_3, hcz20_4, hcz20_5, hfz20_0, hfz20_1, hfz20_2, hfz20_3, hfz20_4, hfz20_5⟩ := blk6 BK336; obtain ⟨hcz21_0, hcz21_1, hcz21_2, hcz21_3, hcz21_4, hcz21_5, hfz21_0, hfz21_1, hfz21_2, hfz21_3, hfz21_4, hfz21_5⟩ := blk6 BK326) | ((with_reducible refine gate_callee (f := 11) rfl ?_); refine goesL_ (some 45) rfl rfl Try.func11 (by kernel_rfl) rfl #[.agg #[.int .i64 a0_0, .int .i64 a0_1, .int .i64 a0_2, .int .i64 a0_3, .int .i64 a0_4, .slice A0_5 l0_5.length c0_5], .int .i64 a1] rfl (by (try simp only [List.map_toArray, List.map_cons, List.map_nil]); first | done | rfl | (simp only [List.length_drop, List.length_take]; rfl)) ?_; (with_reducible refine (epoch_Enter.calls kj4 a0_0 a0_1 a0_2 a0_3 a0_4 _ _ l0_5 a1 t337 t338 t339 t340 t341 t342 t345 _ ?side1 ?side2 A12.out).mono ?_); (case side1 => exact Kd.C_below HR0_5.out bs_); (case side2 => exact HC0_5.out); rintro e w22 ⟨v343, rfl, ho0, hb⟩; refine ⟨_, rfl, ?_⟩; have n0_ := Aside0.mk (Kd.R_elder' (by (with_reducible repeat (first | apply Kd.R_alloc | apply Kd.R_drewN | apply Kd.R_drew)); exact (Kd.R_mono (far6 gb336 (Kd.R_types HO335.out BK336.out (by decide)) (fun _ hk => hk.2)) (fun _ h_ => h_.1))) (Kd.R_base ho0) hb); have n1_ := Aside0.mk (Kd.R_lower (Kd.R_new' ho0 (Kd.R_lt (by (with_reducible repeat (first | apply Kd.R_alloc | apply Kd.R_drewN | apply Kd.R_drew)); exact (Kd.R_mono (far6 gb336 (Kd.R_types HO335.out BK336.out (by decide)) (fun _ hk => hk.2)) (fun _ h_ => h_.1))))) (below_size bs_)); have n2_ := Aside0.mk (blk_below (bf_ BK326) hb); have n3_ := Aside0.mk (blk_below (bp_ (o := .cells #[.int .i64 t328, .int .i64 t329, .int .i64 t330, .int .i64 t331, .int .i64 t332, .slice Ao17 t333.length co17] 25 (0, 0)) BK336) hb); have n4_ := Aside0.mk (below_step bs_ hb); clear HO335 BK326 BK336 HB; have HO335 := n0_; have HO344 := n1_; have BK326 := n2_; have BK336 := n3_; have HB := n4_; clear n0_ n1_ n2_ n3_ n4_; (try clear hb); (try clear hb2); (try clear hk); (try clear hi); (try clear ho0); obtain ⟨Ao23, co23, eo23⟩ := Kd.R_slice HO344.out; subst eo23) | ((with_reducible refine gate_dst (N := 9) rfl ?_); (try (refine gate_guard (by rfl) ?_; dsimp only)); refine box_event ?hg (N := 9) ?hd (cs := #[.int .i64 0, .int .i64 0, .int .i64 0, .int .i64 0, .int .i64 0, .slice none 0 0]) (t := 25) ?hr ?_; (case hd => rfl); (case hg => rfl); (case hr => first | (go_simp; done) | (go_simp; rfl)); intro gb346 hg w24 hbox hb; have n0_ := Aside0.mk (Kd.R_below (rk_ HO335) hb); have n1_ := Aside0.mk (Kd.R_below (rk_ HO344) hb); have n2_ := Aside0.mk (blk_below (bk_ BK326) hb); have n3_ := Aside0.mk (blk_below (bk_ BK336) hb); have n4_ := Aside0.mk (below_step bs_ hb); have n5_ := Aside0.mk (hbox); have n6_ := Aside0.mk ((by rw [hg]; exact (below_size bs_) : w.heap.size ≤ gb346)); have n7_ := Aside0.mk ((by rw [hg]; exact (below_size bs_) : w.heap.size ≤ gb346)); have n8_ := Aside0.mk ((by rw [hg]; exact Nat.ne_of_lt (blk_lt (bk_ BK326)) : gb326 ≠ gb346)); have n9_ := Aside0.mk ((by rw [hg]; exact Nat.ne_of_gt (blk_lt (bk_ BK326)) : gb346 ≠ gb326)); have n10_ := Aside0.mk ((by rw [hg]; exact Nat.ne_of_lt (blk_lt (bk_ BK336)) : gb336 ≠ gb346)); have n11_ := Aside0.mk ((by rw [hg]; exact Nat.ne_of_gt (blk_lt (bk_ BK336)) : gb346 ≠ gb336)); clear HO335 HO344 BK326 BK336 HB; have HO335 := n0_; have HO344 := n1_; have BK326 := n2_; have BK336 := n3_; have HB := n4_; have BK346 := n5_; have GW346 := n6_; have GE346 := n7_; have NB326_346 := n8_; have NB346_326 := n9_; have NB336_346 := n10_; have NB346_336 := n11_; clear n0_ n1_ n2_ n3_ n4_ n5_ n6_ n7_ n8_ n9_ n10_ n11_; clear hb hbox hg; have hnb25 := NB346_326.out; have hnc25 := NB326_346.out; have hnb26 := NB346_336.out; have hnc26 := NB336_346.out; obtain ⟨hcz27_0, hcz27_1, hcz27_2, hcz27_3, hcz27_4, hcz27_5, hfz27_0, hfz27_1, hfz27_2, hfz27_3, hfz27_4, hfz27_5⟩ := blk6 BK346; obtain ⟨hcz28_0, hcz28_1, hcz28_2, hcz28_3, hcz28_4, hcz28_5, hfz28_0, hfz28_1, hfz28_2, hfz28_3, hfz28_4, hfz28_5⟩ := blk6 BK326) | ((with_reducible refine gate_callee (f := 12) rfl ?_); refine goesL_ (some 51) rfl rfl Try.func12 (by kernel_rfl) rfl #[.agg #[.int .i64 a0_0, .int .i64 a0_1, .int .i64 a0_2, .int .i64 a0_3, .int .i64 a0_4, .slice A0_5 l0_5.length c0_5], .int .i64 a1] rfl (by (try simp only [List.map_toArray, List.map_cons, List.map_nil]); first | done | rfl | (simp only [List.length_drop, List.length_take]; rfl)) ?_; (with_reducible refine (drydockref17_Enter.calls kj4 a0_0 a0_1 a0_2 a0_3 a0_4 _ _ l0_5 a1 t347 t348 t349 t350 t351 t352 t355 _ ?side1 ?side2 A13.out).mono ?_); (case side1 => exact Kd.C_below HR0_5.out bs_); (case side2 => exact HC0_5.out); rintro e w29 ⟨v353, rfl, ho0, hb⟩; refine ⟨_, rfl, ?_⟩; have n0_ := Aside0.mk (Kd.R_elder' (by (with_reducible repeat (first | apply Kd.R_alloc | apply Kd.R_drewN | apply Kd.R_drew)); exact (Kd.R_mono (far6 gb346 (Kd.R_types HO335.out BK346.out (by decide)) (fun _ hk => hk.2)) (fun _ h_ => h_.1))) (Kd.R_base ho0) hb); have n1_ := Aside0.mk (Kd.R_elder' (by (with_reducible repeat (first | apply Kd.R_alloc | apply Kd.R_drewN | apply Kd.R_drew)); exact (Kd.R_mono (far6 gb346 (Kd.R_types HO344.out BK346.out (by decide)) (fun _ hk => hk.2)) (fun _ h_ => h_.1))) (Kd.R_base ho0) hb); have n2_ := Aside0.mk (Kd.R_lower (Kd.R_new' (Kd.R_new' ho0 (Kd.R_lt (by (with_reducible repeat (first | apply Kd.R_alloc | apply Kd.R_drewN | apply Kd.R_drew)); exact (Kd.R_mono (far6 gb346 (Kd.R_types HO335.out BK346.out (by decide)) (fun _ hk => hk.2)) (fun _ h_ => h_.1))))) (Kd.R_lt (by (with_reducible repeat (first | apply Kd.R_alloc | apply Kd.R_drewN | apply Kd.R_drew)); exact (Kd.R_mono (far6 gb346 (Kd.R_types HO344.out BK346.out (by decide)) (fun _ hk => hk.2)) (fun _ h_ => h_.1))))) (below_size bs_)); have n3_ := Aside0.mk (blk_below (bf_ BK326) hb); have n4_ := Aside0.mk (blk_below (bf_ BK336) hb); have n5_ := Aside0.mk (blk_below (bp_ (o := .cells #[.int .i64 t337, .int .i64 t338, .int .i64 t339, .int .i64 t340, .int .i64 t341, .slice Ao23 t342.length co23] 25 (0, 0)) BK346) hb); have n6_ := Aside0.mk (below_step bs_ hb); clear HO335 HO344 BK326 BK336 BK346 HB; have HO335 := n0_; have HO344 := n1_; have HO354 := n2_; have BK326 := n3_; have BK336 := n4_; have BK346 := n5_; have HB := n6_; clear n0_ n1_ n2_ n3_ n4_ n5_ n6_; (try clear hb); (try clear hb2); (try clear hk); (try clear hi); (try clear ho0); obtain ⟨Ao30, co30, eo30⟩ := Kd.R_slice HO354.out; subst eo30) | ((with_reducible refine gate_dst (N := 11) rfl ?_); (try (refine gate_guard (by rfl) ?_; dsimp only)); refine box_event ?hg (N := 11) ?hd (cs := #[.int .i64 0, .int .i64 0, .int .i64 0, .int .i64 0, .int .i64 0, .slice none 0 0]) (t := 25) ?hr ?_; (case hd => rfl); (case hg => rfl); (case hr => first | (go_simp; done) | (go_simp; rfl)); intro gb356 hg w31 hbox hb; have n0_ := Aside0.mk (Kd.R_below (rk_ HO335) hb); have n1_ := Aside0.mk (Kd.R_below (rk_ HO344) hb); have n2_ := Aside0.mk (Kd.R_below (rk_ HO354) hb); have n3_ := Aside0.mk (blk_below (bk_ BK326) hb); have n4_ := Aside0.mk (blk_below (bk_ BK336) hb); have n5_ := Aside0.mk (blk_below (bk_ BK346) hb); have n6_ := Aside0.mk (below_step bs_ hb); have n7_ := Aside0.mk (hbox); have n8_ := Aside0.mk ((by rw [hg]; exact (below_size bs_) : w.heap.size ≤ gb356)); have n9_ := Aside0.mk ((by rw [hg]; exact (below_size bs_) : w.heap.size ≤ gb356)); have n10_ := Aside0.mk ((by rw [hg]; exact Nat.ne_of_lt (blk_lt (bk_ BK326)) : gb326 ≠ gb356)); have n11_ := Aside0.mk ((by rw [hg]; exact Nat.ne_of_gt (blk_lt (bk_ BK326)) : gb356 ≠ gb326)); have n12_ := Aside0.mk ((by rw [hg]; exact Nat.ne_of_lt (blk_lt (bk_ BK336)) : gb336 ≠ gb356)); have n13_ := Aside0.mk ((by rw [hg]; exact Nat.ne_of_gt (blk_lt (bk_ BK336)) : gb356 ≠ gb336)); have n14_ := Aside0.mk ((by rw [hg]; exact Nat.ne_of_lt (blk_lt (bk_ BK346)) : gb346 ≠ gb356)); have n15_ := Aside0.mk ((by rw [hg]; exact Nat.ne_of_gt (blk_lt (bk_ BK346)) : gb356 ≠ gb346)); clear HO335 HO344 HO354 BK326 BK336 BK346 HB; have HO335 := n0_; have HO344 := n1_; have HO354 := n2_; have BK326 := n3_; have BK336 := n4_; have BK346 := n5_; have HB := n6_; have BK356 := n7_; have GW356 := n8_; have GE356 := n9_; have NB326_356 := n10_; have NB356_326 := n11_; have NB336_356 := n12_; have NB356_336 := n13_; have NB346_356 := n14_; have NB356_346 := n15_; clear n0_ n1_ n2_ n3_ n4_ n5_ n6_ n7_ n8_ n9_ n10_ n11_ n12_ n13_ n14_ n15_; clear hb hbox hg; have hnb32 := NB356_326.out; have hnc32 := NB326_356.out; have hnb33 := NB356_336.out; have hnc33 := NB336_356.out; have hnb34 := NB356_346.out; have hnc34 := NB346_356.out; obtain ⟨hcz35_0, hcz35_1, hcz35_2, hcz35_3, hcz35_4, hcz35_5, hfz35_0, hfz35_1, hfz35_2, hfz35_3, hfz35_4, hfz35_5⟩ := blk6 BK356))
    (try simp only [Act.put, List.setIfInBounds_toArray, List.set_cons_zero, List.set_cons_succ])
    go_cut [13] (fun v13 wc => ∃ (kq : Nat) (x13_13 : Bool), v13 = .bool x13_13 ∧ Aside0 (drydocklaw17_EpochTells.j1 kq a1 a2 x13_13 a0_0 a0_1 a0_2 a0_3 a0_4 l0_5 t328 t329 t330 t331 t332 t333 = some r) ∧ Aside0 (kq ≤ kj4) ∧ Aside0 (Kd.R k43 43 wc w.heap.size (fun k_ => some k_ ≠ ((.slice Ao23 t342.length co23) : Value).ownBlock ∧ some k_ ≠ ((.slice Ao30 t352.length co30) : Value).ownBlock) (.slice Ao17 t333.length co17) t333) ∧ Aside0 (Kd.R k43 43 wc w.heap.size (fun k_ => some k_ ≠ ((.slice Ao17 t333.length co17) : Value).ownBlock ∧ some k_ ≠ ((.slice Ao30 t352.length co30) : Value).ownBlock) (.slice Ao23 t342.length co23) t342) ∧ Aside0 (Kd.R k43 43 wc w.heap.size (fun k_ => some k_ ≠ ((.slice Ao17 t333.length co17) : Value).ownBlock ∧ some k_ ≠ ((.slice Ao23 t342.length co23) : Value).ownBlock) (.slice Ao30 t352.length co30) t352) ∧ Aside0 (wc.heap[gb326]? = some (.cells #[.int .i64 a0_0, .int .i64 a0_1, .int .i64 a0_2, .int .i64 a0_3, .int .i64 a0_4, (.slice A0_5 l0_5.length c0_5)] 25 (0, 0))) ∧ Aside0 (wc.heap[gb336]? = some (.cells #[.int .i64 t328, .int .i64 t329, .int .i64 t330, .int .i64 t331, .int .i64 t332, (.slice Ao17 t333.length co17)] 25 (0, 0))) ∧ Aside0 (wc.heap[gb346]? = some (.cells #[.int .i64 t337, .int .i64 t338, .int .i64 t339, .int .i64 t340, .int .i64 t341, (.slice Ao23 t342.length co23)] 25 (0, 0))) ∧ Aside0 (wc.heap[gb356]? = some (.cells #[.int .i64 t347, .int .i64 t348, .int .i64 t349, .int .i64 t350, .int .i64 t351, (.slice Ao30 t352.length co30)] 25 (0, 0))) ∧ Aside0 (Below w.heap.size w wc))
    case first =>
     have H := HC14.out
     clear HC14
     replace H := Option.bind_eq_some_iff.mp H
     obtain ⟨t357, A360, H⟩ := H
     replace H : (if t357 = true then (drydocklaw17_EpochTells.j1 kj4 a1 a2 (t345 == t355) a0_0 a0_1 a0_2 a0_3 a0_4 l0_5 t328 t329 t330 t331 t332 t333) else (drydocklaw17_EpochTells.j1 kj4 a1 a2 false a0_0 a0_1 a0_2 a0_3 a0_4 l0_5 t328 t329 t330 t331 t332 t333)) = some r := H
     have A36 := Aside0.mk A360
     clear A360
     by_cases c37 : t357 = true
     ·subst c37
      have H1 : (drydocklaw17_EpochTells.j1 kj4 a1 a2 (t345 == t355) a0_0 a0_1 a0_2 a0_3 a0_4 l0_5 t328 t329 t330 t331 t332 t333) = some r := by rw [if_pos rfl] at H; exact H
      clear H
      have H := H1
      clear H1
      have H' := Aside0.mk H
      clear H
      have hnb38 := NB346_326.out
      have hnc38 := NB326_346.out
      have hnb39 := NB346_336.out
      have hnc39 := NB336_346.out
      have hnb40 := NB346_356.out
      have hnc40 := NB356_346.out
      obtain ⟨hcz41_0, hcz41_1, hcz41_2, hcz41_3, hcz41_4, hcz41_5, hfz41_0, hfz41_1, hfz41_2, hfz41_3, hfz41_4, hfz41_5⟩ := blk6 BK346
      have hnb42 := NB356_326.out
      have hnc42 := NB326_356.out
      have hnb43 := NB356_336.out
      have hnc43 := NB336_356.out
      obtain ⟨hcz44_0, hcz44_1, hcz44_2, hcz44_3, hcz44_4, hcz44_5, hfz44_0, hfz44_1, hfz44_2, hfz44_3, hfz44_4, hfz44_5⟩ := blk6 BK356
      go_wp2_with (first | ((with_reducible refine gate_callee (f := 13) rfl ?_); refine goesL_ (some 56) rfl rfl Try.func13 (by kernel_rfl) rfl #[.agg #[.int .i64 t337, .int .i64 t338, .int .i64 t339, .int .i64 t340, .int .i64 t341, .slice Ao23 t342.length co23], .agg #[.int .i64 t347, .int .i64 t348, .int .i64 t349, .int .i64 t350, .int .i64 t351, .slice Ao30 t352.length co30]] rfl (by (try simp only [List.map_toArray, List.map_cons, List.map_nil]); first | done | rfl | (simp only [List.length_drop, List.length_take]; rfl)) ?_; (with_reducible refine (drydockref17_Same.calls kj4 t337 t338 t339 t340 t341 _ _ t342 t347 t348 t349 t350 t351 _ _ t352 true _ ?side1 ?side2 ?side3 ?side4 A36.out).mono ?_); (case side1 => refine (Kd.R_reads' (e := 43) (base := w.heap.size) (ok := fun k_ => ((True ∧ some k_ ≠ (.slice Ao17 t333.length co17 : Value).ownBlock) ∧ some k_ ≠ (.slice Ao30 t352.length co30 : Value).ownBlock)) (n := t342.length) (c := co23) ?_).2.2; exact (by (with_reducible repeat (first | apply Kd.R_alloc | apply Kd.R_drewN | apply Kd.R_drew)); exact (Kd.R_mono (far6 gb356 (Kd.R_types HO344.out BK356.out (by decide)) (fun _ hk => hk.2)) (fun _ h_ => h_.1)))); (case side2 => exact (Kd.R_reads' HO344.out).2.1); (case side3 => refine (Kd.R_reads' (e := 43) (base := w.heap.size) (ok := fun k_ => ((True ∧ some k_ ≠ (.slice Ao17 t333.length co17 : Value).ownBlock) ∧ some k_ ≠ (.slice Ao23 t342.length co23 : Value).ownBlock)) (n := t352.length) (c := co30) ?_).2.2; exact (by (with_reducible repeat (first | apply Kd.R_alloc | apply Kd.R_drewN | apply Kd.R_drew)); exact (Kd.R_mono (far6 gb356 (Kd.R_types HO354.out BK356.out (by decide)) (fun _ hk => hk.2)) (fun _ h_ => h_.1)))); (case side4 => exact (Kd.R_reads' HO354.out).2.1); rintro e w45 ⟨rfl, hb⟩; refine ⟨_, rfl, ?_⟩; have n0_ := Aside0.mk (Kd.R_below (by (with_reducible repeat (first | apply Kd.R_alloc | apply Kd.R_drewN | apply Kd.R_drew)); exact (Kd.R_mono (far6 gb356 (Kd.R_types HO335.out BK356.out (by decide)) (fun _ hk => hk.2)) (fun _ h_ => h_.1))) hb); have n1_ := Aside0.mk (Kd.R_below (by (with_reducible repeat (first | apply Kd.R_alloc | apply Kd.R_drewN | apply Kd.R_drew)); exact (Kd.R_mono (far6 gb356 (Kd.R_types HO344.out BK356.out (by decide)) (fun _ hk => hk.2)) (fun _ h_ => h_.1))) hb); have n2_ := Aside0.mk (Kd.R_below (by (with_reducible repeat (first | apply Kd.R_alloc | apply Kd.R_drewN | apply Kd.R_drew)); exact (Kd.R_mono (far6 gb356 (Kd.R_types HO354.out BK356.out (by decide)) (fun _ hk => hk.2)) (fun _ h_ => h_.1))) hb); have n3_ := Aside0.mk (blk_below (bf_ BK326) hb); have n4_ := Aside0.mk (blk_below (bf_ BK336) hb); have n5_ := Aside0.mk (blk_below (bf_ BK346) hb); have n6_ := Aside0.mk (blk_below (bp_ (o := .cells #[.int .i64 t347, .int .i64 t348, .int .i64 t349, .int .i64 t350, .int .i64 t351, .slice Ao30 t352.length co30] 25 (0, 0)) BK356) hb); have n7_ := Aside0.mk (below_step bs_ hb); clear HO335 HO344 HO354 BK326 BK336 BK346 BK356 HB; have HO335 := n0_; have HO344 := n1_; have HO354 := n2_; have BK326 := n3_; have BK336 := n4_; have BK346 := n5_; have BK356 := n6_; have HB := n7_; clear n0_ n1_ n2_ n3_ n4_ n5_ n6_ n7_; (try clear hb); (try clear hb2); (try clear hk); (try clear hi)))
      go_meet
      case rel => exact ⟨_, ((t345 == t355)), eq_, H', ⟨by have := HJ4.out; first | omega | exact Nat.le_refl _⟩, ⟨by (with_reducible repeat (first | apply Kd.R_alloc | apply Kd.R_drewN | apply Kd.R_drew)); exact Kd.R_mono HO335.out (fun _ hk => ⟨hk.1.2, hk.2⟩)⟩, ⟨by (with_reducible repeat (first | apply Kd.R_alloc | apply Kd.R_drewN | apply Kd.R_drew)); exact Kd.R_mono HO344.out (fun _ hk => ⟨hk.1.2, hk.2⟩)⟩, ⟨by (with_reducible repeat (first | apply Kd.R_alloc | apply Kd.R_drewN | apply Kd.R_drew)); exact Kd.R_mono HO354.out (fun _ hk => ⟨hk.1.2, hk.2⟩)⟩, ⟨bk_ BK326⟩, ⟨bk_ BK336⟩, ⟨bk_ BK346⟩, ⟨bk_ BK356⟩, ⟨bs_⟩⟩
     ·replace c37 := Bool.eq_false_iff.mpr c37
      subst c37
      have H1 : (drydocklaw17_EpochTells.j1 kj4 a1 a2 false a0_0 a0_1 a0_2 a0_3 a0_4 l0_5 t328 t329 t330 t331 t332 t333) = some r := by rw [if_neg (show ¬ (false = true) by decide)] at H; exact H
      clear H
      have H := H1
      clear H1
      have H' := Aside0.mk H
      clear H
      have hnb46 := NB346_326.out
      have hnc46 := NB326_346.out
      have hnb47 := NB346_336.out
      have hnc47 := NB336_346.out
      have hnb48 := NB346_356.out
      have hnc48 := NB356_346.out
      obtain ⟨hcz49_0, hcz49_1, hcz49_2, hcz49_3, hcz49_4, hcz49_5, hfz49_0, hfz49_1, hfz49_2, hfz49_3, hfz49_4, hfz49_5⟩ := blk6 BK346
      have hnb50 := NB356_326.out
      have hnc50 := NB326_356.out
      have hnb51 := NB356_336.out
      have hnc51 := NB336_356.out
      obtain ⟨hcz52_0, hcz52_1, hcz52_2, hcz52_3, hcz52_4, hcz52_5, hfz52_0, hfz52_1, hfz52_2, hfz52_3, hfz52_4, hfz52_5⟩ := blk6 BK356
      go_wp2_with (first | ((with_reducible refine gate_callee (f := 13) rfl ?_); refine goesL_ (some 56) rfl rfl Try.func13 (by kernel_rfl) rfl #[.agg #[.int .i64 t337, .int .i64 t338, .int .i64 t339, .int .i64 t340, .int .i64 t341, .slice Ao23 t342.length co23], .agg #[.int .i64 t347, .int .i64 t348, .int .i64 t349, .int .i64 t350, .int .i64 t351, .slice Ao30 t352.length co30]] rfl (by (try simp only [List.map_toArray, List.map_cons, List.map_nil]); first | done | rfl | (simp only [List.length_drop, List.length_take]; rfl)) ?_; (with_reducible refine (drydockref17_Same.calls kj4 t337 t338 t339 t340 t341 _ _ t342 t347 t348 t349 t350 t351 _ _ t352 false _ ?side1 ?side2 ?side3 ?side4 A36.out).mono ?_); (case side1 => refine (Kd.R_reads' (e := 43) (base := w.heap.size) (ok := fun k_ => ((True ∧ some k_ ≠ (.slice Ao17 t333.length co17 : Value).ownBlock) ∧ some k_ ≠ (.slice Ao30 t352.length co30 : Value).ownBlock)) (n := t342.length) (c := co23) ?_).2.2; exact (by (with_reducible repeat (first | apply Kd.R_alloc | apply Kd.R_drewN | apply Kd.R_drew)); exact (Kd.R_mono (far6 gb356 (Kd.R_types HO344.out BK356.out (by decide)) (fun _ hk => hk.2)) (fun _ h_ => h_.1)))); (case side2 => exact (Kd.R_reads' HO344.out).2.1); (case side3 => refine (Kd.R_reads' (e := 43) (base := w.heap.size) (ok := fun k_ => ((True ∧ some k_ ≠ (.slice Ao17 t333.length co17 : Value).ownBlock) ∧ some k_ ≠ (.slice Ao23 t342.length co23 : Value).ownBlock)) (n := t352.length) (c := co30) ?_).2.2; exact (by (with_reducible repeat (first | apply Kd.R_alloc | apply Kd.R_drewN | apply Kd.R_drew)); exact (Kd.R_mono (far6 gb356 (Kd.R_types HO354.out BK356.out (by decide)) (fun _ hk => hk.2)) (fun _ h_ => h_.1)))); (case side4 => exact (Kd.R_reads' HO354.out).2.1); rintro e w53 ⟨rfl, hb⟩; refine ⟨_, rfl, ?_⟩; have n0_ := Aside0.mk (Kd.R_below (by (with_reducible repeat (first | apply Kd.R_alloc | apply Kd.R_drewN | apply Kd.R_drew)); exact (Kd.R_mono (far6 gb356 (Kd.R_types HO335.out BK356.out (by decide)) (fun _ hk => hk.2)) (fun _ h_ => h_.1))) hb); have n1_ := Aside0.mk (Kd.R_below (by (with_reducible repeat (first | apply Kd.R_alloc | apply Kd.R_drewN | apply Kd.R_drew)); exact (Kd.R_mono (far6 gb356 (Kd.R_types HO344.out BK356.out (by decide)) (fun _ hk => hk.2)) (fun _ h_ => h_.1))) hb); have n2_ := Aside0.mk (Kd.R_below (by (with_reducible repeat (first | apply Kd.R_alloc | apply Kd.R_drewN | apply Kd.R_drew)); exact (Kd.R_mono (far6 gb356 (Kd.R_types HO354.out BK356.out (by decide)) (fun _ hk => hk.2)) (fun _ h_ => h_.1))) hb); have n3_ := Aside0.mk (blk_below (bf_ BK326) hb); have n4_ := Aside0.mk (blk_below (bf_ BK336) hb); have n5_ := Aside0.mk (blk_below (bf_ BK346) hb); have n6_ := Aside0.mk (blk_below (bp_ (o := .cells #[.int .i64 t347, .int .i64 t348, .int .i64 t349, .int .i64 t350, .int .i64 t351, .slice Ao30 t352.length co30] 25 (0, 0)) BK356) hb); have n7_ := Aside0.mk (below_step bs_ hb); clear HO335 HO344 HO354 BK326 BK336 BK346 BK356 HB; have HO335 := n0_; have HO344 := n1_; have HO354 := n2_; have BK326 := n3_; have BK336 := n4_; have BK346 := n5_; have BK356 := n6_; have HB := n7_; clear n0_ n1_ n2_ n3_ n4_ n5_ n6_ n7_; (try clear hb); (try clear hb2); (try clear hk); (try clear hi)))
      go_meet
      case rel => exact ⟨_, (false), eq_, H', ⟨by have := HJ4.out; first | omega | exact Nat.le_refl _⟩, ⟨by (with_reducible repeat (first | apply Kd.R_alloc | apply Kd.R_drewN | apply Kd.R_drew)); exact Kd.R_mono HO335.out (fun _ hk => ⟨hk.1.2, hk.2⟩)⟩, ⟨by (with_reducible repeat (first | apply Kd.R_alloc | apply Kd.R_drewN | apply Kd.R_drew)); exact Kd.R_mono HO344.out (fun _ hk => ⟨hk.1.2, hk.2⟩)⟩, ⟨by (with_reducible repeat (first | apply Kd.R_alloc | apply Kd.R_drewN | apply Kd.R_drew)); exact Kd.R_mono HO354.out (fun _ hk => ⟨hk.1.2, hk.2⟩)⟩, ⟨bk_ BK326⟩, ⟨bk_ BK336⟩, ⟨bk_ BK346⟩, ⟨bk_ BK356⟩, ⟨bs_⟩⟩
    case rest =>
     clear HC14
     try clear c10
     obtain ⟨kq, x13_13, rfl, HA, HJ13, HO_337005, HO_347005, HO_357005, BK326, BK336, BK346, BK356, HB⟩ := hcut
     cases kq with
     | zero => exact absurd HA.out (by simp [drydocklaw17_EpochTells.j1])
     | succ kj13 =>
      have H := HA.out
      clear HA
      simp only [drydocklaw17_EpochTells.j1] at H
      replace H := Option.bind_eq_some_iff.mp H
      obtain ⟨⟨t358, t359, t360, t361, t362, t363, t366⟩, A540, H⟩ := H
      replace H : ((drydockref17_Leave.f kj13 a0_0 a0_1 a0_2 a0_3 a0_4 l0_5 a1).bind fun bt368 => ((drydockref17_Same.f kj13 t358 t359 t360 t361 t362 t363 bt368.1 bt368.2.1 bt368.2.2.1 bt368.2.2.2.1 bt368.2.2.2.2.1 bt368.2.2.2.2.2.1).bind fun t378 => (if t378 = true then (drydocklaw17_EpochTells.j2 kj13 a2 x13_13 (t366 == bt368.2.2.2.2.2.2) a0_0 a0_1 a0_2 a0_3 a0_4 l0_5 t328 t329 t330 t331 t332 t333) else (drydocklaw17_EpochTells.j2 kj13 a2 x13_13 false a0_0 a0_1 a0_2 a0_3 a0_4 l0_5 t328 t329 t330 t331 t332 t333)))) = some r := H
      have A54 := Aside0.mk A540
      clear A540
      replace H := Option.bind_eq_some_iff.mp H
      obtain ⟨⟨t368, t369, t370, t371, t372, t373, t376⟩, A550, H⟩ := H
      replace H : ((drydockref17_Same.f kj13 t358 t359 t360 t361 t362 t363 t368 t369 t370 t371 t372 t373).bind fun t378 => (if t378 = true then (drydocklaw17_EpochTells.j2 kj13 a2 x13_13 (t366 == t376) a0_0 a0_1 a0_2 a0_3 a0_4 l0_5 t328 t329 t330 t331 t332 t333) else (drydocklaw17_EpochTells.j2 kj13 a2 x13_13 false a0_0 a0_1 a0_2 a0_3 a0_4 l0_5 t328 t329 t330 t331 t332 t333))) = some r := H
      have A55 := Aside0.mk A550
      clear A550
      have HC56 := Aside0.mk H
      clear H
      have hnb57 := NB326_336.out
      have hnc57 := NB336_326.out
      have hnb58 := NB326_346.out
      have hnc58 := NB346_326.out
      have hnb59 := NB326_356.out
      have hnc59 := NB356_326.out
      obtain ⟨hcz60_0, hcz60_1, hcz60_2, hcz60_3, hcz60_4, hcz60_5, hfz60_0, hfz60_1, hfz60_2, hfz60_3, hfz60_4, hfz60_5⟩ := blk6 BK326
      go_upto_region 10 with (first | ((with_reducible refine gate_callee (f := 14) rfl ?_); refine goesL_ (some 65) rfl rfl Try.func14 (by kernel_rfl) rfl #[.agg #[.int .i64 a0_0, .int .i64 a0_1, .int .i64 a0_2, .int .i64 a0_3, .int .i64 a0_4, .slice A0_5 l0_5.length c0_5], .int .i64 a1] rfl (by (try simp only [List.map_toArray, List.map_cons, List.map_nil]); first | done | rfl | (simp only [List.length_drop, List.length_take]; rfl)) ?_; (with_reducible refine (epoch_Leave.calls kj13 a0_0 a0_1 a0_2 a0_3 a0_4 _ _ l0_5 a1 t358 t359 t360 t361 t362 t363 t366 _ ?side1 ?side2 A54.out).mono ?_); (case side1 => repeat (first | exact (Kd.C_below HR0_5.out HB.out) | (with_reducible refine Kd.C_alloc ?_ _) | (with_reducible refine Kd.C_drewN ?_ _) | (with_reducible refine Kd.C_drew ?_))); (case side2 => exact HC0_5.out); rintro e w61 ⟨v364, rfl, ho0, hb⟩; refine ⟨_, rfl, ?_⟩; have n0_ := Aside0.mk (Kd.R_elder' (rk_ HO_337005) (Kd.R_base ho0) hb); have n1_ := Aside0.mk (Kd.R_elder' (rk_ HO_347005) (Kd.R_base ho0) hb); have n2_ := Aside0.mk (Kd.R_elder' (rk_ HO_357005) (Kd.R_base ho0) hb); have n3_ := Aside0.mk (Kd.R_lower (Kd.R_new' (Kd.R_new' (Kd.R_new' ho0 (Kd.R_lt (rk_ HO_337005))) (Kd.R_lt (rk_ HO_347005))) (Kd.R_lt (rk_ HO_357005))) (below_size bs_)); have n4_ := Aside0.mk (blk_below (bk_ BK326) hb); have n5_ := Aside0.mk (blk_below (bk_ BK336) hb); have n6_ := Aside0.mk (blk_below (bk_ BK346) hb); have n7_ := Aside0.mk (blk_below (bk_ BK356) hb); have n8_ := Aside0.mk (below_step bs_ hb); clear HO_337005 HO_347005 HO_357005 BK326 BK336 BK346 BK356 HB; have HO_337005 := n0_; have HO_347005 := n1_; have HO_357005 := n2_; have HO365 := n3_; have BK326 := n4_; have BK336 := n5_; have BK346 := n6_; have BK356 := n7_; have HB := n8_; clear n0_ n1_ n2_ n3_ n4_ n5_ n6_ n7_ n8_; (try clear hb); (try clear hb2); (try clear hk); (try clear hi); (try clear ho0); obtain ⟨Ao62, co62, eo62⟩ := Kd.R_slice HO365.out; subst eo62) | ((with_reducible refine gate_dst (N := 14) rfl ?_); (try (refine gate_guard (by rfl) ?_; dsimp only)); refine box_event ?hg (N := 14) ?hd (cs := #[.int .i64 0, .int .i64 0, .int .i64 0, .int .i64 0, .int .i64 0, .slice none 0 0]) (t := 25) ?hr ?_; (case hd => rfl); (case hg => rfl); (case hr => first | (go_simp; done) | (go_simp; rfl)); intro gb367 hg w63 hbox hb; have n0_ := Aside0.mk (Kd.R_below (rk_ HO_337005) hb); have n1_ := Aside0.mk (Kd.R_below (rk_ HO_347005) hb); have n2_ := Aside0.mk (Kd.R_below (rk_ HO_357005) hb); have n3_ := Aside0.mk (Kd.R_below (rk_ HO365) hb); have n4_ := Aside0.mk (blk_below (bk_ BK326) hb); have n5_ := Aside0.mk (blk_below (bk_ BK336) hb); have n6_ := Aside0.mk (blk_below (bk_ BK346) hb); have n7_ := Aside0.mk (blk_below (bk_ BK356) hb); have n8_ := Aside0.mk (below_step bs_ hb); have n9_ := Aside0.mk (hbox); have n10_ := Aside0.mk ((by rw [hg]; exact (below_size bs_) : w.heap.size ≤ gb367)); have n11_ := Aside0.mk ((by rw [hg]; exact (below_size bs_) : w.heap.size ≤ gb367)); have n12_ := Aside0.mk ((by rw [hg]; exact Nat.ne_of_lt (blk_lt (bk_ BK326)) : gb326 ≠ gb367)); have n13_ := Aside0.mk ((by rw [hg]; exact Nat.ne_of_gt (blk_lt (bk_ BK326)) : gb367 ≠ gb326)); have n14_ := Aside0.mk ((by rw [hg]; exact Nat.ne_of_lt (blk_lt (bk_ BK336)) : gb336 ≠ gb367)); have n15_ := Aside0.mk ((by rw [hg]; exact Nat.ne_of_gt (blk_lt (bk_ BK336)) : gb367 ≠ gb336)); have n16_ := Aside0.mk ((by rw [hg]; exact Nat.ne_of_lt (blk_lt (bk_ BK346)) : gb346 ≠ gb367)); have n17_ := Aside0.mk ((by rw [hg]; exact Nat.ne_of_gt (blk_lt (bk_ BK346)) : gb367 ≠ gb346)); have n18_ := Aside0.mk ((by rw [hg]; exact Nat.ne_of_lt (blk_lt (bk_ BK356)) : gb356 ≠ gb367)); have n19_ := Aside0.mk ((by rw [hg]; exact Nat.ne_of_gt (blk_lt (bk_ BK356)) : gb367 ≠ gb356)); clear HO_337005 HO_347005 HO_357005 HO365 BK326 BK336 BK346 BK356 HB; have HO_337005 := n0_; have HO_347005 := n1_; have HO_357005 := n2_; have HO365 := n3_; have BK326 := n4_; have BK336 := n5_; have BK346 := n6_; have BK356 := n7_; have HB := n8_; have BK367 := n9_; have GW367 := n10_; have GE367 := n11_; have NB326_367 := n12_; have NB367_326 := n13_; have NB336_367 := n14_; have NB367_336 := n15_; have NB346_367 := n16_; have NB367_346 := n17_; have NB356_367 := n18_; have NB367_356 := n19_; clear n0_ n1_ n2_ n3_ n4_ n5_ n6_ n7_ n8_ n9_ n10_ n11_ n12_ n13_ n14_ n15_ n16_ n17_ n18_ n19_; clear hb hbox hg; have hnb64 := NB367_326.out; have hnc64 := NB326_367.out; have hnb65 := NB367_336.out; have hnc65 := NB336_367.out; have hnb66 := NB367_346.out; have hnc66 := NB346_367.out; have hnb67 := NB367_356.out; have hnc67 := NB356_367.out; obtain ⟨hcz68_0, hcz68_1, hcz68_2, hcz68_3, hcz68_4, hcz68_5, hfz68_0, hfz68_1, hfz68_2, hfz68_3, hfz68_4, hfz68_5⟩ := blk6 BK367; obtain ⟨hcz69_0, hcz69_1, hcz69_2, hcz69_3, hcz69_4, hcz69_5, hfz69_0, hfz69_1, hfz69_2, hfz69_3, hfz69_4, hfz69_5⟩ := blk6 BK326) | ((with_reducible refine gate_callee (f := 15) rfl ?_); refine goesL_ (some 71) rfl rfl Try.func15 (by kernel_rfl) rfl #[.agg #[.int .i64 a0_0, .int .i64 a0_1, .int .i64 a0_2, .int .i64 a0_3, .int .i64 a0_4, .slice A0_5 l0_5.length c0_5], .int .i64 a1] rfl (by (try simp only [List.map_toArray, List.map_cons, List.map_nil]); first | done | rfl | (simp only [List.length_drop, List.length_take]; rfl)) ?_; (with_reducible refine (drydockref17_Leave.calls kj13 a0_0 a0_1 a0_2 a0_3 a0_4 _ _ l0_5 a1 t368 t369 t370 t371 t372 t373 t376 _ ?side1 ?side2 A55.out).mono ?_); (case side1 => exact Kd.C_below HR0_5.out bs_); (case side2 => exact HC0_5.out); rintro e w70 ⟨v374, rfl, ho0, hb⟩; refine ⟨_, rfl, ?_⟩; have n0_ := Aside0.mk (Kd.R_elder' (by (with_reducible repeat (first | apply Kd.R_alloc | apply Kd.R_drewN | apply Kd.R_drew)); exact (Kd.R_mono (far6 gb367 (Kd.R_types HO_337005.out BK367.out (by decide)) (fun _ hk => hk.2)) (fun _ h_ => h_.1))) (Kd.R_base ho0) hb); have n1_ := Aside0.mk (Kd.R_elder' (by (with_reducible repeat (first | apply Kd.R_alloc | apply Kd.R_drewN | apply Kd.R_drew)); exact (Kd.R_mono (far6 gb367 (Kd.R_types HO_347005.out BK367.out (by decide)) (fun _ hk => hk.2)) (fun _ h_ => h_.1))) (Kd.R_base ho0) hb); have n2_ := Aside0.mk (Kd.R_elder' (by (with_reducible repeat (first | apply Kd.R_alloc | apply Kd.R_drewN | apply Kd.R_drew)); exact (Kd.R_mono (far6 gb367 (Kd.R_types HO_357005.out BK367.out (by decide)) (fun _ hk => hk.2)) (fun _ h_ => h_.1))) (Kd.R_base ho0) hb); have n3_ := Aside0.mk (Kd.R_elder' (by (with_reducible repeat (first | apply Kd.R_alloc | apply Kd.R_drewN | apply Kd.R_drew)); exact (Kd.R_mono (far6 gb367 (Kd.R_types HO365.out BK367.out (by decide)) (fun _ hk => hk.2)) (fun _ h_ => h_.1))) (Kd.R_base ho0) hb); have n4_ := Aside0.mk (Kd.R_lower (Kd.R_new' (Kd.R_new' (Kd.R_new' (Kd.R_new' ho0 (Kd.R_lt (by (with_reducible repeat (first | apply Kd.R_alloc | apply Kd.R_drewN | apply Kd.R_drew)); exact (Kd.R_mono (far6 gb367 (Kd.R_types HO_337005.out BK367.out (by decide)) (fun _ hk => hk.2)) (fun _ h_ => h_.1))))) (Kd.R_lt (by (with_reducible repeat (first | apply Kd.R_alloc | apply Kd.R_drewN | apply Kd.R_drew)); exact (Kd.R_mono (far6 gb367 (Kd.R_types HO_347005.out BK367.out (by decide)) (fun _ hk => hk.2)) (fun _ h_ => h_.1))))) (Kd.R_lt (by (with_reducible repeat (first | apply Kd.R_alloc | apply Kd.R_drewN | apply Kd.R_drew)); exact (Kd.R_mono (far6 gb367 (Kd.R_types HO_357005.out BK367.out (by decide)) (fun _ hk => hk.2)) (fun _ h_ => h_.1))))) (Kd.R_lt (by (with_reducible repeat (first | apply Kd.R_alloc | apply Kd.R_drewN | apply Kd.R_drew)); exact (Kd.R_mono (far6 gb367 (Kd.R_types HO365.out BK367.out (by decide)) (fun _ hk => hk.2)) (fun _ h_ => h_.1))))) (below_size bs_)); have n5_ := Aside0.mk (blk_below (bf_ BK326) hb); have n6_ := Aside0.mk (blk_below (bf_ BK336) hb); have n7_ := Aside0.mk (blk_below (bf_ BK346) hb); have n8_ := Aside0.mk (blk_below (bf_ BK356) hb); have n9_ := Aside0.mk (blk_below (bp_ (o := .cells #[.int .i64 t358, .int .i64 t359, .int .i64 t360, .int .i64 t361, .int .i64 t362, .slice Ao62 t363.length co62] 25 (0, 0)) BK367) hb); have n10_ := Aside0.mk (below_step bs_ hb); clear HO_337005 HO_347005 HO_357005 HO365 BK326 BK336 BK346 BK356 BK367 HB; have HO_337005 := n0_; have HO_347005 := n1_; have HO_357005 := n2_; have HO365 := n3_; have HO375 := n4_; have BK326 := n5_; have BK336 := n6_; have BK346 := n7_; have BK356 := n8_; have BK367 := n9_; have HB := n10_; clear n0_ n1_ n2_ n3_ n4_ n5_ n6_ n7_ n8_ n9_ n10_; (try clear hb); (try clear hb2); (try clear hk); (try clear hi); (try clear ho0); obtain ⟨Ao71, co71, eo71⟩ := Kd.R_slice HO375.out; subst eo71) | ((with_reducible refine gate_dst (N := 16) rfl ?_); (try (refine gate_guard (by rfl) ?_; dsimp only)); refine box_event ?hg (N := 16) ?hd (cs := #[.int .i64 0, .int .i64 0, .int .i64 0, .int .i64 0, .int .i64 0, .slice none 0 0]) (t := 25) ?hr ?_; (case hd => rfl); (case hg => rfl); (case hr => first | (go_simp; done) | (go_simp; rfl)); intro gb377 hg w72 hbox hb; have n0_ := Aside0.mk (Kd.R_below (rk_ HO_337005) hb); have n1_ := Aside0.mk (Kd.R_below (rk_ HO_347005) hb); have n2_ := Aside0.mk (Kd.R_below (rk_ HO_357005) hb); have n3_ := Aside0.mk (Kd.R_below (rk_ HO365) hb); have n4_ := Aside0.mk (Kd.R_below (rk_ HO375) hb); have n5_ := Aside0.mk (blk_below (bk_ BK326) hb); have n6_ := Aside0.mk (blk_below (bk_ BK336) hb); have n7_ := Aside0.mk (blk_below (bk_ BK346) hb); have n8_ := Aside0.mk (blk_below (bk_ BK356) hb); have n9_ := Aside0.mk (blk_below (bk_ BK367) hb); have n10_ := Aside0.mk (below_step bs_ hb); have n11_ := Aside0.mk (hbox); have n12_ := Aside0.mk ((by rw [hg]; exact (below_size bs_) : w.heap.size ≤ gb377)); have n13_ := Aside0.mk ((by rw [hg]; exact (below_size bs_) : w.heap.size ≤ gb377)); have n14_ := Aside0.mk ((by rw [hg]; exact Nat.ne_of_lt (blk_lt (bk_ BK326)) : gb326 ≠ gb377)); have n15_ := Aside0.mk ((by rw [hg]; exact Nat.ne_of_gt (blk_lt (bk_ BK326)) : gb377 ≠ gb326)); have n16_ := Aside0.mk ((by rw [hg]; exact Nat.ne_of_lt (blk_lt (bk_ BK336)) : gb336 ≠ gb377)); have n17_ := Aside0.mk ((by rw [hg]; exact Nat.ne_of_gt (blk_lt (bk_ BK336)) : gb377 ≠ gb336)); have n18_ := Aside0.mk ((by rw [hg]; exact Nat.ne_of_lt (blk_lt (bk_ BK346)) : gb346 ≠ gb377)); have n19_ := Aside0.mk ((by rw [hg]; exact Nat.ne_of_gt (blk_lt (bk_ BK346)) : gb377 ≠ gb346)); have n20_ := Aside0.mk ((by rw [hg]; exact Nat.ne_of_lt (blk_lt (bk_ BK356)) : gb356 ≠ gb377)); have n21_ := Aside0.mk ((by rw [hg]; exact Nat.ne_of_gt (blk_lt (bk_ BK356)) : gb377 ≠ gb356)); have n22_ := Aside0.mk ((by rw [hg]; exact Nat.ne_of_lt (blk_lt (bk_ BK367)) : gb367 ≠ gb377)); have n23_ := Aside0.mk ((by rw [hg]; exact Nat.ne_of_gt (blk_lt (bk_ BK367)) : gb377 ≠ gb367)); clear HO_337005 HO_347005 HO_357005 HO365 HO375 BK326 BK336 BK346 BK356 BK367 HB; have HO_337005 := n0_; have HO_347005 := n1_; have HO_357005 := n2_; have HO365 := n3_; have HO375 := n4_; have BK326 := n5_; have BK336 := n6_; have BK346 := n7_; have BK356 := n8_; have BK367 := n9_; have HB := n10_; have BK377 := n11_; have GW377 := n12_; have GE377 := n13_; have NB326_377 := n14_; have NB377_326 := n15_; have NB336_377 := n16_; have NB377_336 := n17_; have NB346_377 := n18_; have NB377_346 := n19_; have NB356_377 := n20_; have NB377_356 := n21_; have NB367_377 := n22_; have NB377_367 := n23_; clear n0_ n1_ n2_ n3_ n4_ n5_ n6_ n7_ n8_ n9_ n10_ n11_ n12_ n13_ n14_ n15_ n16_ n17_ n18_ n19_ n20_ n21_ n22_ n23_; clear hb hbox hg; have hnb73 := NB377_326.out; have hnc73 := NB326_377.out; have hnb74 := NB377_336.out; have hnc74 := NB336_377.out; have hnb75 := NB377_346.out; have hnc75 := NB346_377.out; have hnb76 := NB377_356.out; have hnc76 := NB356_377.out; have hnb77 := NB377_367.out; have hnc77 := NB367_377.out; obtain ⟨hcz78_0, hcz78_1, hcz78_2, hcz78_3, hcz78_4, hcz78_5, hfz78_0, hfz78_1, hfz78_2, hfz78_3, hfz78_4, hfz78_5⟩ := blk6 BK377))
      (try simp only [Act.put, List.setIfInBounds_toArray, List.set_cons_zero, List.set_cons_succ])
      go_cut [18] (fun v18 wc => ∃ (kq : Nat) (x18_55 : Bool), v18 = .bool x18_55 ∧ Aside0 (drydocklaw17_EpochTells.j2 kq a2 x13_13 x18_55 a0_0 a0_1 a0_2 a0_3 a0_4 l0_5 t328 t329 t330 t331 t332 t333 = some r) ∧ Aside0 (kq ≤ kj13) ∧ Aside0 (Kd.R k43 43 wc w.heap.size (fun k_ => some k_ ≠ ((.slice Ao23 t342.length co23) : Value).ownBlock ∧ some k_ ≠ ((.slice Ao30 t352.length co30) : Value).ownBlock ∧ some k_ ≠ ((.slice Ao62 t363.length co62) : Value).ownBlock ∧ some k_ ≠ ((.slice Ao71 t373.length co71) : Value).ownBlock) (.slice Ao17 t333.length co17) t333) ∧ Aside0 (Kd.R k43 43 wc w.heap.size (fun k_ => some k_ ≠ ((.slice Ao17 t333.length co17) : Value).ownBlock ∧ some k_ ≠ ((.slice Ao30 t352.length co30) : Value).ownBlock ∧ some k_ ≠ ((.slice Ao62 t363.length co62) : Value).ownBlock ∧ some k_ ≠ ((.slice Ao71 t373.length co71) : Value).ownBlock) (.slice Ao23 t342.length co23) t342) ∧ Aside0 (Kd.R k43 43 wc w.heap.size (fun k_ => some k_ ≠ ((.slice Ao17 t333.length co17) : Value).ownBlock ∧ some k_ ≠ ((.slice Ao23 t342.length co23) : Value).ownBlock ∧ some k_ ≠ ((.slice Ao62 t363.length co62) : Value).ownBlock ∧ some k_ ≠ ((.slice Ao71 t373.length co71) : Value).ownBlock) (.slice Ao30 t352.length co30) t352) ∧ Aside0 (Kd.R k43 43 wc w.heap.size (fun k_ => some k_ ≠ ((.slice Ao17 t333.length co17) : Value).ownBlock ∧ some k_ ≠ ((.slice Ao23 t342.length co23) : Value).ownBlock ∧ some k_ ≠ ((.slice Ao30 t352.length co30) : Value).ownBlock ∧ some k_ ≠ ((.slice Ao71 t373.length co71) : Value).ownBlock) (.slice Ao62 t363.length co62) t363) ∧ Aside0 (Kd.R k43 43 wc w.heap.size (fun k_ => some k_ ≠ ((.slice Ao17 t333.length co17) : Value).ownBlock ∧ some k_ ≠ ((.slice Ao23 t342.length co23) : Value).ownBlock ∧ some k_ ≠ ((.slice Ao30 t352.length co30) : Value).ownBlock ∧ some k_ ≠ ((.slice Ao62 t363.length co62) : Value).ownBlock) (.slice Ao71 t373.length co71) t373) ∧ Aside0 (wc.heap[gb326]? = some (.cells #[.int .i64 a0_0, .int .i64 a0_1, .int .i64 a0_2, .int .i64 a0_3, .int .i64 a0_4, (.slice A0_5 l0_5.length c0_5)] 25 (0, 0))) ∧ Aside0 (wc.heap[gb336]? = some (.cells #[.int .i64 t328, .int .i64 t329, .int .i64 t330, .int .i64 t331, .int .i64 t332, (.slice Ao17 t333.length co17)] 25 (0, 0))) ∧ Aside0 (wc.heap[gb346]? = some (.cells #[.int .i64 t337, .int .i64 t338, .int .i64 t339, .int .i64 t340, .int .i64 t341, (.slice Ao23 t342.length co23)] 25 (0, 0))) ∧ Aside0 (wc.heap[gb356]? = some (.cells #[.int .i64 t347, .int .i64 t348, .int .i64 t349, .int .i64 t350, .int .i64 t351, (.slice Ao30 t352.length co30)] 25 (0, 0))) ∧ Aside0 (wc.heap[gb367]? = some (.cells #[.int .i64 t358, .int .i64 t359, .int .i64 t360, .int .i64 t361, .int .i64 t362, (.slice Ao62 t363.length co62)] 25 (0, 0))) ∧ Aside0 (wc.heap[gb377]? = some (.cells #[.int .i64 t368, .int .i64 t369, .int .i64 t370, .int .i64 t371, .int .i64 t372, (.slice Ao71 t373.length co71)] 25 (0, 0))) ∧ Aside0 (Below w.heap.size w wc))
      case first =>
       have H := HC56.out
       clear HC56
       replace H := Option.bind_eq_some_iff.mp H
       obtain ⟨t378, A790, H⟩ := H
       replace H : (if t378 = true then (drydocklaw17_EpochTells.j2 kj13 a2 x13_13 (t366 == t376) a0_0 a0_1 a0_2 a0_3 a0_4 l0_5 t328 t329 t330 t331 t332 t333) else (drydocklaw17_EpochTells.j2 kj13 a2 x13_13 false a0_0 a0_1 a0_2 a0_3 a0_4 l0_5 t328 t329 t330 t331 t332 t333)) = some r := H
       have A79 := Aside0.mk A790
       clear A790
       by_cases c80 : t378 = true
       ·subst c80
        have H1 : (drydocklaw17_EpochTells.j2 kj13 a2 x13_13 (t366 == t376) a0_0 a0_1 a0_2 a0_3 a0_4 l0_5 t328 t329 t330 t331 t332 t333) = some r := by rw [if_pos rfl] at H; exact H
        clear H
        have H := H1
        clear H1
        have H' := Aside0.mk H
        clear H
        have hnb81 := NB367_326.out
        have hnc81 := NB326_367.out
        have hnb82 := NB367_336.out
        have hnc82 := NB336_367.out
        have hnb83 := NB367_346.out
        have hnc83 := NB346_367.out
        have hnb84 := NB367_356.out
        have hnc84 := NB356_367.out
        have hnb85 := NB367_377.out
        have hnc85 := NB377_367.out
        obtain ⟨hcz86_0, hcz86_1, hcz86_2, hcz86_3, hcz86_4, hcz86_5, hfz86_0, hfz86_1, hfz86_2, hfz86_3, hfz86_4, hfz86_5⟩ := blk6 BK367
        have hnb87 := NB377_326.out
        have hnc87 := NB326_377.out
        have hnb88 := NB377_336.out
        have hnc88 := NB336_377.out
        have hnb89 := NB377_346.out
        have hnc89 := NB346_377.out
        have hnb90 := NB377_356.out
        have hnc90 := NB356_377.out
        obtain ⟨hcz91_0, hcz91_1, hcz91_2, hcz91_3, hcz91_4, hcz91_5, hfz91_0, hfz91_1, hfz91_2, hfz91_3, hfz91_4, hfz91_5⟩ := blk6 BK377
        go_wp2_with (first | ((with_reducible refine gate_callee (f := 13) rfl ?_); refine goesL_ (some 76) rfl rfl Try.func13 (by kernel_rfl) rfl #[.agg #[.int .i64 t358, .int .i64 t359, .int .i64 t360, .int .i64 t361, .int .i64 t362, .slice Ao62 t363.length co62], .agg #[.int .i64 t368, .int .i64 t369, .int .i64 t370, .int .i64 t371, .int .i64 t372, .slice Ao71 t373.length co71]] rfl (by (try simp only [List.map_toArray, List.map_cons, List.map_nil]); first | done | rfl | (simp only [List.length_drop, List.length_take]; rfl)) ?_; (with_reducible refine (drydockref17_Same.calls kj13 t358 t359 t360 t361 t362 _ _ t363 t368 t369 t370 t371 t372 _ _ t373 true _ ?side1 ?side2 ?side3 ?side4 A79.out).mono ?_); (case side1 => refine (Kd.R_reads' (e := 43) (base := w.heap.size) (ok := fun k_ => ((((True ∧ some k_ ≠ (.slice Ao17 t333.length co17 : Value).ownBlock) ∧ some k_ ≠ (.slice Ao23 t342.length co23 : Value).ownBlock) ∧ some k_ ≠ (.slice Ao30 t352.length co30 : Value).ownBlock) ∧ some k_ ≠ (.slice Ao71 t373.length co71 : Value).ownBlock)) (n := t363.length) (c := co62) ?_).2.2; exact (by (with_reducible repeat (first | apply Kd.R_alloc | apply Kd.R_drewN | apply Kd.R_drew)); exact (Kd.R_mono (far6 gb377 (Kd.R_types HO365.out BK377.out (by decide)) (fun _ hk => hk.2)) (fun _ h_ => h_.1)))); (case side2 => exact (Kd.R_reads' HO365.out).2.1); (case side3 => refine (Kd.R_reads' (e := 43) (base := w.heap.size) (ok := fun k_ => ((((True ∧ some k_ ≠ (.slice Ao17 t333.length co17 : Value).ownBlock) ∧ some k_ ≠ (.slice Ao23 t342.length co23 : Value).ownBlock) ∧ some k_ ≠ (.slice Ao30 t352.length co30 : Value).ownBlock) ∧ some k_ ≠ (.slice Ao62 t363.length co62 : Value).ownBlock)) (n := t373.length) (c := co71) ?_).2.2; exact (by (with_reducible repeat (first | apply Kd.R_alloc | apply Kd.R_drewN | apply Kd.R_drew)); exact (Kd.R_mono (far6 gb377 (Kd.R_types HO375.out BK377.out (by decide)) (fun _ hk => hk.2)) (fun _ h_ => h_.1)))); (case side4 => exact (Kd.R_reads' HO375.out).2.1); rintro e w92 ⟨rfl, hb⟩; refine ⟨_, rfl, ?_⟩; have n0_ := Aside0.mk (Kd.R_below (by (with_reducible repeat (first | apply Kd.R_alloc | apply Kd.R_drewN | apply Kd.R_drew)); exact (Kd.R_mono (far6 gb377 (Kd.R_types HO_337005.out BK377.out (by decide)) (fun _ hk => hk.2)) (fun _ h_ => h_.1))) hb); have n1_ := Aside0.mk (Kd.R_below (by (with_reducible repeat (first | apply Kd.R_alloc | apply Kd.R_drewN | apply Kd.R_drew)); exact (Kd.R_mono (far6 gb377 (Kd.R_types HO_347005.out BK377.out (by decide)) (fun _ hk => hk.2)) (fun _ h_ => h_.1))) hb); have n2_ := Aside0.mk (Kd.R_below (by (with_reducible repeat (first | apply Kd.R_alloc | apply Kd.R_drewN | apply Kd.R_drew)); exact (Kd.R_mono (far6 gb377 (Kd.R_types HO_357005.out BK377.out (by decide)) (fun _ hk => hk.2)) (fun _ h_ => h_.1))) hb); have n3_ := Aside0.mk (Kd.R_below (by (with_reducible repeat (first | apply Kd.R_alloc | apply Kd.R_drewN | apply Kd.R_drew)); exact (Kd.R_mono (far6 gb377 (Kd.R_types HO365.out BK377.out (by decide)) (fun _ hk => hk.2)) (fun _ h_ => h_.1))) hb); have n4_ := Aside0.mk (Kd.R_below (by (with_reducible repeat (first | apply Kd.R_alloc | apply Kd.R_drewN | apply Kd.R_drew)); exact (Kd.R_mono (far6 gb377 (Kd.R_types HO375.out BK377.out (by decide)) (fun _ hk => hk.2)) (fun _ h_ => h_.1))) hb); have n5_ := Aside0.mk (blk_below (bf_ BK326) hb); have n6_ := Aside0.mk (blk_below (bf_ BK336) hb); have n7_ := Aside0.mk (blk_below (bf_ BK346) hb); have n8_ := Aside0.mk (blk_below (bf_ BK356) hb); have n9_ := Aside0.mk (blk_below (bf_ BK367) hb); have n10_ := Aside0.mk (blk_below (bp_ (o := .cells #[.int .i64 t368, .int .i64 t369, .int .i64 t370, .int .i64 t371, .int .i64 t372, .slice Ao71 t373.length co71] 25 (0, 0)) BK377) hb); have n11_ := Aside0.mk (below_step bs_ hb); clear HO_337005 HO_347005 HO_357005 HO365 HO375 BK326 BK336 BK346 BK356 BK367 BK377 HB; have HO_337005 := n0_; have HO_347005 := n1_; have HO_357005 := n2_; have HO365 := n3_; have HO375 := n4_; have BK326 := n5_; have BK336 := n6_; have BK346 := n7_; have BK356 := n8_; have BK367 := n9_; have BK377 := n10_; have HB := n11_; clear n0_ n1_ n2_ n3_ n4_ n5_ n6_ n7_ n8_ n9_ n10_ n11_; (try clear hb); (try clear hb2); (try clear hk); (try clear hi)))
        go_meet
        case rel => exact ⟨_, ((t366 == t376)), eq_, H', ⟨by have := HJ4.out; have := HJ13.out; first | omega | exact Nat.le_refl _⟩, ⟨by (with_reducible repeat (first | apply Kd.R_alloc | apply Kd.R_drewN | apply Kd.R_drew)); exact Kd.R_mono HO_337005.out (fun _ hk => ⟨hk.1.1.1, ⟨hk.1.1.2, ⟨hk.1.2, hk.2⟩⟩⟩)⟩, ⟨by (with_reducible repeat (first | apply Kd.R_alloc | apply Kd.R_drewN | apply Kd.R_drew)); exact Kd.R_mono HO_347005.out (fun _ hk => ⟨hk.1.1.1, ⟨hk.1.1.2, ⟨hk.1.2, hk.2⟩⟩⟩)⟩, ⟨by (with_reducible repeat (first | apply Kd.R_alloc | apply Kd.R_drewN | apply Kd.R_drew)); exact Kd.R_mono HO_357005.out (fun _ hk => ⟨hk.1.1.1, ⟨hk.1.1.2, ⟨hk.1.2, hk.2⟩⟩⟩)⟩, ⟨by (with_reducible repeat (first | apply Kd.R_alloc | apply Kd.R_drewN | apply Kd.R_drew)); exact Kd.R_mono HO365.out (fun _ hk => ⟨hk.1.1.1.2, ⟨hk.1.1.2, ⟨hk.1.2, hk.2⟩⟩⟩)⟩, ⟨by (with_reducible repeat (first | apply Kd.R_alloc | apply Kd.R_drewN | apply Kd.R_drew)); exact Kd.R_mono HO375.out (fun _ hk => ⟨hk.1.1.1.2, ⟨hk.1.1.2, ⟨hk.1.2, hk.2⟩⟩⟩)⟩, ⟨bk_ BK326⟩, ⟨bk_ BK336⟩, ⟨bk_ BK346⟩, ⟨bk_ BK356⟩, ⟨bk_ BK367⟩, ⟨bk_ BK377⟩, ⟨bs_⟩⟩
       ·replace c80 := Bool.eq_false_iff.mpr c80
        subst c80
        have H1 : (drydocklaw17_EpochTells.j2 kj13 a2 x13_13 false a0_0 a0_1 a0_2 a0_3 a0_4 l0_5 t328 t329 t330 t331 t332 t333) = some r := by rw [if_neg (show ¬ (false = true) by decide)] at H; exact H
        clear H
        have H := H1
        clear H1
        have H' := Aside0.mk H
        clear H
        have hnb93 := NB367_326.out
        have hnc93 := NB326_367.out
        have hnb94 := NB367_336.out
        have hnc94 := NB336_367.out
        have hnb95 := NB367_346.out
        have hnc95 := NB346_367.out
        have hnb96 := NB367_356.out
        have hnc96 := NB356_367.out
        have hnb97 := NB367_377.out
        have hnc97 := NB377_367.out
        obtain ⟨hcz98_0, hcz98_1, hcz98_2, hcz98_3, hcz98_4, hcz98_5, hfz98_0, hfz98_1, hfz98_2, hfz98_3, hfz98_4, hfz98_5⟩ := blk6 BK367
        have hnb99 := NB377_326.out
        have hnc99 := NB326_377.out
        have hnb100 := NB377_336.out
        have hnc100 := NB336_377.out
        have hnb101 := NB377_346.out
        have hnc101 := NB346_377.out
        have hnb102 := NB377_356.out
        have hnc102 := NB356_377.out
        obtain ⟨hcz103_0, hcz103_1, hcz103_2, hcz103_3, hcz103_4, hcz103_5, hfz103_0, hfz103_1, hfz103_2, hfz103_3, hfz103_4, hfz103_5⟩ := blk6 BK377
        go_wp2_with (first | ((with_reducible refine gate_callee (f := 13) rfl ?_); refine goesL_ (some 76) rfl rfl Try.func13 (by kernel_rfl) rfl #[.agg #[.int .i64 t358, .int .i64 t359, .int .i64 t360, .int .i64 t361, .int .i64 t362, .slice Ao62 t363.length co62], .agg #[.int .i64 t368, .int .i64 t369, .int .i64 t370, .int .i64 t371, .int .i64 t372, .slice Ao71 t373.length co71]] rfl (by (try simp only [List.map_toArray, List.map_cons, List.map_nil]); first | done | rfl | (simp only [List.length_drop, List.length_take]; rfl)) ?_; (with_reducible refine (drydockref17_Same.calls kj13 t358 t359 t360 t361 t362 _ _ t363 t368 t369 t370 t371 t372 _ _ t373 false _ ?side1 ?side2 ?side3 ?side4 A79.out).mono ?_); (case side1 => refine (Kd.R_reads' (e := 43) (base := w.heap.size) (ok := fun k_ => ((((True ∧ some k_ ≠ (.slice Ao17 t333.length co17 : Value).ownBlock) ∧ some k_ ≠ (.slice Ao23 t342.length co23 : Value).ownBlock) ∧ some k_ ≠ (.slice Ao30 t352.length co30 : Value).ownBlock) ∧ some k_ ≠ (.slice Ao71 t373.length co71 : Value).ownBlock)) (n := t363.length) (c := co62) ?_).2.2; exact (by (with_reducible repeat (first | apply Kd.R_alloc | apply Kd.R_drewN | apply Kd.R_drew)); exact (Kd.R_mono (far6 gb377 (Kd.R_types HO365.out BK377.out (by decide)) (fun _ hk => hk.2)) (fun _ h_ => h_.1)))); (case side2 => exact (Kd.R_reads' HO365.out).2.1); (case side3 => refine (Kd.R_reads' (e := 43) (base := w.heap.size) (ok := fun k_ => ((((True ∧ some k_ ≠ (.slice Ao17 t333.length co17 : Value).ownBlock) ∧ some k_ ≠ (.slice Ao23 t342.length co23 : Value).ownBlock) ∧ some k_ ≠ (.slice Ao30 t352.length co30 : Value).ownBlock) ∧ some k_ ≠ (.slice Ao62 t363.length co62 : Value).ownBlock)) (n := t373.length) (c := co71) ?_).2.2; exact (by (with_reducible repeat (first | apply Kd.R_alloc | apply Kd.R_drewN | apply Kd.R_drew)); exact (Kd.R_mono (far6 gb377 (Kd.R_types HO375.out BK377.out (by decide)) (fun _ hk => hk.2)) (fun _ h_ => h_.1)))); (case side4 => exact (Kd.R_reads' HO375.out).2.1); rintro e w104 ⟨rfl, hb⟩; refine ⟨_, rfl, ?_⟩; have n0_ := Aside0.mk (Kd.R_below (by (with_reducible repeat (first | apply Kd.R_alloc | apply Kd.R_drewN | apply Kd.R_drew)); exact (Kd.R_mono (far6 gb377 (Kd.R_types HO_337005.out BK377.out (by decide)) (fun _ hk => hk.2)) (fun _ h_ => h_.1))) hb); have n1_ := Aside0.mk (Kd.R_below (by (with_reducible repeat (first | apply Kd.R_alloc | apply Kd.R_drewN | apply Kd.R_drew)); exact (Kd.R_mono (far6 gb377 (Kd.R_types HO_347005.out BK377.out (by decide)) (fun _ hk => hk.2)) (fun _ h_ => h_.1))) hb); have n2_ := Aside0.mk (Kd.R_below (by (with_reducible repeat (first | apply Kd.R_alloc | apply Kd.R_drewN | apply Kd.R_drew)); exact (Kd.R_mono (far6 gb377 (Kd.R_types HO_357005.out BK377.out (by decide)) (fun _ hk => hk.2)) (fun _ h_ => h_.1))) hb); have n3_ := Aside0.mk (Kd.R_below (by (with_reducible repeat (first | apply Kd.R_alloc | apply Kd.R_drewN | apply Kd.R_drew)); exact (Kd.R_mono (far6 gb377 (Kd.R_types HO365.out BK377.out (by decide)) (fun _ hk => hk.2)) (fun _ h_ => h_.1))) hb); have n4_ := Aside0.mk (Kd.R_below (by (with_reducible repeat (first | apply Kd.R_alloc | apply Kd.R_drewN | apply Kd.R_drew)); exact (Kd.R_mono (far6 gb377 (Kd.R_types HO375.out BK377.out (by decide)) (fun _ hk => hk.2)) (fun _ h_ => h_.1))) hb); have n5_ := Aside0.mk (blk_below (bf_ BK326) hb); have n6_ := Aside0.mk (blk_below (bf_ BK336) hb); have n7_ := Aside0.mk (blk_below (bf_ BK346) hb); have n8_ := Aside0.mk (blk_below (bf_ BK356) hb); have n9_ := Aside0.mk (blk_below (bf_ BK367) hb); have n10_ := Aside0.mk (blk_below (bp_ (o := .cells #[.int .i64 t368, .int .i64 t369, .int .i64 t370, .int .i64 t371, .int .i64 t372, .slice Ao71 t373.length co71] 25 (0, 0)) BK377) hb); have n11_ := Aside0.mk (below_step bs_ hb); clear HO_337005 HO_347005 HO_357005 HO365 HO375 BK326 BK336 BK346 BK356 BK367 BK377 HB; have HO_337005 := n0_; have HO_347005 := n1_; have HO_357005 := n2_; have HO365 := n3_; have HO375 := n4_; have BK326 := n5_; have BK336 := n6_; have BK346 := n7_; have BK356 := n8_; have BK367 := n9_; have BK377 := n10_; have HB := n11_; clear n0_ n1_ n2_ n3_ n4_ n5_ n6_ n7_ n8_ n9_ n10_ n11_; (try clear hb); (try clear hb2); (try clear hk); (try clear hi)))
        go_meet
        case rel => exact ⟨_, (false), eq_, H', ⟨by have := HJ4.out; have := HJ13.out; first | omega | exact Nat.le_refl _⟩, ⟨by (with_reducible repeat (first | apply Kd.R_alloc | apply Kd.R_drewN | apply Kd.R_drew)); exact Kd.R_mono HO_337005.out (fun _ hk => ⟨hk.1.1.1, ⟨hk.1.1.2, ⟨hk.1.2, hk.2⟩⟩⟩)⟩, ⟨by (with_reducible repeat (first | apply Kd.R_alloc | apply Kd.R_drewN | apply Kd.R_drew)); exact Kd.R_mono HO_347005.out (fun _ hk => ⟨hk.1.1.1, ⟨hk.1.1.2, ⟨hk.1.2, hk.2⟩⟩⟩)⟩, ⟨by (with_reducible repeat (first | apply Kd.R_alloc | apply Kd.R_drewN | apply Kd.R_drew)); exact Kd.R_mono HO_357005.out (fun _ hk => ⟨hk.1.1.1, ⟨hk.1.1.2, ⟨hk.1.2, hk.2⟩⟩⟩)⟩, ⟨by (with_reducible repeat (first | apply Kd.R_alloc | apply Kd.R_drewN | apply Kd.R_drew)); exact Kd.R_mono HO365.out (fun _ hk => ⟨hk.1.1.1.2, ⟨hk.1.1.2, ⟨hk.1.2, hk.2⟩⟩⟩)⟩, ⟨by (with_reducible repeat (first | apply Kd.R_alloc | apply Kd.R_drewN | apply Kd.R_drew)); exact Kd.R_mono HO375.out (fun _ hk => ⟨hk.1.1.1.2, ⟨hk.1.1.2, ⟨hk.1.2, hk.2⟩⟩⟩)⟩, ⟨bk_ BK326⟩, ⟨bk_ BK336⟩, ⟨bk_ BK346⟩, ⟨bk_ BK356⟩, ⟨bk_ BK367⟩, ⟨bk_ BK377⟩, ⟨bs_⟩⟩
      case rest =>
       clear HC56
       try clear c10
       obtain ⟨kq, x18_55, rfl, HA, HJ55, HO_337005, HO_347005, HO_357005, HO_368005, HO_378005, BK326, BK336, BK346, BK356, BK367, BK377, HB⟩ := hcut
       cases kq with
       | zero => exact absurd HA.out (by simp [drydocklaw17_EpochTells.j2])
       | succ kj55 =>
        have H := HA.out
        clear HA
        simp only [drydocklaw17_EpochTells.j2] at H
        replace H := Option.bind_eq_some_iff.mp H
        obtain ⟨⟨t379, t380, t381, t382, t383, t384, t387⟩, A1050, H⟩ := H
        replace H : ((drydockref17_Retire.f kj55 a0_0 a0_1 a0_2 a0_3 a0_4 l0_5 a2).bind fun bt389 => ((drydockref17_Same.f kj55 t379 t380 t381 t382 t383 t384 bt389.1 bt389.2.1 bt389.2.2.1 bt389.2.2.2.1 bt389.2.2.2.2.1 bt389.2.2.2.2.2.1).bind fun t399 => (if t399 = true then (drydocklaw17_EpochTells.j3 kj55 x13_13 x18_55 (t387 == bt389.2.2.2.2.2.2) a0_0 a0_1 a0_2 a0_3 a0_4 l0_5 t328 t329 t330 t331 t332 t333) else (drydocklaw17_EpochTells.j3 kj55 x13_13 x18_55 false a0_0 a0_1 a0_2 a0_3 a0_4 l0_5 t328 t329 t330 t331 t332 t333)))) = some r := H
        have A105 := Aside0.mk A1050
        clear A1050
        replace H := Option.bind_eq_some_iff.mp H
        obtain ⟨⟨t389, t390, t391, t392, t393, t394, t397⟩, A1060, H⟩ := H
        replace H : ((drydockref17_Same.f kj55 t379 t380 t381 t382 t383 t384 t389 t390 t391 t392 t393 t394).bind fun t399 => (if t399 = true then (drydocklaw17_EpochTells.j3 kj55 x13_13 x18_55 (t387 == t397) a0_0 a0_1 a0_2 a0_3 a0_4 l0_5 t328 t329 t330 t331 t332 t333) else (drydocklaw17_EpochTells.j3 kj55 x13_13 x18_55 false a0_0 a0_1 a0_2 a0_3 a0_4 l0_5 t328 t329 t330 t331 t332 t333))) = some r := H
        have A106 := Aside0.mk A1060
        clear A1060
        have HC107 := Aside0.mk H
        clear H
        have hnb108 := NB326_336.out
        have hnc108 := NB336_326.out
        have hnb109 := NB326_346.out
        have hnc109 := NB346_326.out
        have hnb110 := NB326_356.out
        have hnc110 := NB356_326.out
        have hnb111 := NB326_367.out
        have hnc111 := NB367_326.out
        have hnb112 := NB326_377.out
        have hnc112 := NB377_326.out
        obtain ⟨hcz113_0, hcz113_1, hcz113_2, hcz113_3, hcz113_4, hcz113_5, hfz113_0, hfz113_1, hfz113_2, hfz113_3, hfz113_4, hfz113_5⟩ := blk6 BK326
        go_upto_region 13 with (first | ((with_reducible refine gate_callee (f := 16) rfl ?_); refine goesL_ (some 85) rfl rfl Try.func16 (by kernel_rfl) rfl #[.agg #[.int .i64 a0_0, .int .i64 a0_1, .int .i64 a0_2, .int .i64 a0_3, .int .i64 a0_4, .slice A0_5 l0_5.length c0_5], .int .i64 a2] rfl (by (try simp only [List.map_toArray, List.map_cons, List.map_nil]); first | done | rfl | (simp only [List.length_drop, List.length_take]; rfl)) ?_; (with_reducible refine (epoch_Retire.calls kj55 a0_0 a0_1 a0_2 a0_3 a0_4 _ _ l0_5 a2 t379 t380 t381 t382 t383 t384 t387 _ ?side1 ?side2 A105.out).mono ?_); (case side1 => repeat (first | exact (Kd.C_below HR0_5.out HB.out) | (with_reducible refine Kd.C_alloc ?_ _) | (with_reducible refine Kd.C_drewN ?_ _) | (with_reducible refine Kd.C_drew ?_))); (case side2 => exact HC0_5.out); rintro e w114 ⟨v385, rfl, ho0, hb⟩; refine ⟨_, rfl, ?_⟩; have n0_ := Aside0.mk (Kd.R_elder' (rk_ HO_337005) (Kd.R_base ho0) hb); have n1_ := Aside0.mk (Kd.R_elder' (rk_ HO_347005) (Kd.R_base ho0) hb); have n2_ := Aside0.mk (Kd.R_elder' (rk_ HO_357005) (Kd.R_base ho0) hb); have n3_ := Aside0.mk (Kd.R_elder' (rk_ HO_368005) (Kd.R_base ho0) hb); have n4_ := Aside0.mk (Kd.R_elder' (rk_ HO_378005) (Kd.R_base ho0) hb); have n5_ := Aside0.mk (Kd.R_lower (Kd.R_new' (Kd.R_new' (Kd.R_new' (Kd.R_new' (Kd.R_new' ho0 (Kd.R_lt (rk_ HO_337005))) (Kd.R_lt (rk_ HO_347005))) (Kd.R_lt (rk_ HO_357005))) (Kd.R_lt (rk_ HO_368005))) (Kd.R_lt (rk_ HO_378005))) (below_size bs_)); have n6_ := Aside0.mk (blk_below (bk_ BK326) hb); have n7_ := Aside0.mk (blk_below (bk_ BK336) hb); have n8_ := Aside0.mk (blk_below (bk_ BK346) hb); have n9_ := Aside0.mk (blk_below (bk_ BK356) hb); have n10_ := Aside0.mk (blk_below (bk_ BK367) hb); have n11_ := Aside0.mk (blk_below (bk_ BK377) hb); have n12_ := Aside0.mk (below_step bs_ hb); clear HO_337005 HO_347005 HO_357005 HO_368005 HO_378005 BK326 BK336 BK346 BK356 BK367 BK377 HB; have HO_337005 := n0_; have HO_347005 := n1_; have HO_357005 := n2_; have HO_368005 := n3_; have HO_378005 := n4_; have HO386 := n5_; have BK326 := n6_; have BK336 := n7_; have BK346 := n8_; have BK356 := n9_; have BK367 := n10_; have BK377 := n11_; have HB := n12_; clear n0_ n1_ n2_ n3_ n4_ n5_ n6_ n7_ n8_ n9_ n10_ n11_ n12_; (try clear hb); (try clear hb2); (try clear hk); (try clear hi); (try clear ho0); obtain ⟨Ao115, co115, eo115⟩ := Kd.R_slice HO386.out; subst eo115) | ((with_reducible refine gate_dst (N := 19) rfl ?_); (try (refine gate_guard (by rfl) ?_; dsimp only)); refine box_event ?hg (N := 19) ?hd (cs := #[.int .i64 0, .int .i64 0, .int .i64 0, .int .i64 0, .int .i64 0, .slice none 0 0]) (t := 25) ?hr ?_; (case hd => rfl); (case hg => rfl); (case hr => first | (go_simp; done) | (go_simp; rfl)); intro gb388 hg w116 hbox hb; have n0_ := Aside0.mk (Kd.R_below (rk_ HO_337005) hb); have n1_ := Aside0.mk (Kd.R_below (rk_ HO_347005) hb); have n2_ := Aside0.mk (Kd.R_below (rk_ HO_357005) hb); have n3_ := Aside0.mk (Kd.R_below (rk_ HO_368005) hb); have n4_ := Aside0.mk (Kd.R_below (rk_ HO_378005) hb); have n5_ := Aside0.mk (Kd.R_below (rk_ HO386) hb); have n6_ := Aside0.mk (blk_below (bk_ BK326) hb); have n7_ := Aside0.mk (blk_below (bk_ BK336) hb); have n8_ := Aside0.mk (blk_below (bk_ BK346) hb); have n9_ := Aside0.mk (blk_below (bk_ BK356) hb); have n10_ := Aside0.mk (blk_below (bk_ BK367) hb); have n11_ := Aside0.mk (blk_below (bk_ BK377) hb); have n12_ := Aside0.mk (below_step bs_ hb); have n13_ := Aside0.mk (hbox); have n14_ := Aside0.mk ((by rw [hg]; exact (below_size bs_) : w.heap.size ≤ gb388)); have n15_ := Aside0.mk ((by rw [hg]; exact (below_size bs_) : w.heap.size ≤ gb388)); have n16_ := Aside0.mk ((by rw [hg]; exact Nat.ne_of_lt (blk_lt (bk_ BK326)) : gb326 ≠ gb388)); have n17_ := Aside0.mk ((by rw [hg]; exact Nat.ne_of_gt (blk_lt (bk_ BK326)) : gb388 ≠ gb326)); have n18_ := Aside0.mk ((by rw [hg]; exact Nat.ne_of_lt (blk_lt (bk_ BK336)) : gb336 ≠ gb388)); have n19_ := Aside0.mk ((by rw [hg]; exact Nat.ne_of_gt (blk_lt (bk_ BK336)) : gb388 ≠ gb336)); have n20_ := Aside0.mk ((by rw [hg]; exact Nat.ne_of_lt (blk_lt (bk_ BK346)) : gb346 ≠ gb388)); have n21_ := Aside0.mk ((by rw [hg]; exact Nat.ne_of_gt (blk_lt (bk_ BK346)) : gb388 ≠ gb346)); have n22_ := Aside0.mk ((by rw [hg]; exact Nat.ne_of_lt (blk_lt (bk_ BK356)) : gb356 ≠ gb388)); have n23_ := Aside0.mk ((by rw [hg]; exact Nat.ne_of_gt (blk_lt (bk_ BK356)) : gb388 ≠ gb356)); have n24_ := Aside0.mk ((by rw [hg]; exact Nat.ne_of_lt (blk_lt (bk_ BK367)) : gb367 ≠ gb388)); have n25_ := Aside0.mk ((by rw [hg]; exact Nat.ne_of_gt (blk_lt (bk_ BK367)) : gb388 ≠ gb367)); have n26_ := Aside0.mk ((by rw [hg]; exact Nat.ne_of_lt (blk_lt (bk_ BK377)) : gb377 ≠ gb388)); have n27_ := Aside0.mk ((by rw [hg]; exact Nat.ne_of_gt (blk_lt (bk_ BK377)) : gb388 ≠ gb377)); clear HO_337005 HO_347005 HO_357005 HO_368005 HO_378005 HO386 BK326 BK336 BK346 BK356 BK367 BK377 HB; have HO_337005 := n0_; have HO_347005 := n1_; have HO_357005 := n2_; have HO_368005 := n3_; have HO_378005 := n4_; have HO386 := n5_; have BK326 := n6_; have BK336 := n7_; have BK346 := n8_; have BK356 := n9_; have BK367 := n10_; have BK377 := n11_; have HB := n12_; have BK388 := n13_; have GW388 := n14_; have GE388 := n15_; have NB326_388 := n16_; have NB388_326 := n17_; have NB336_388 := n18_; have NB388_336 := n19_; have NB346_388 := n20_; have NB388_346 := n21_; have NB356_388 := n22_; have NB388_356 := n23_; have NB367_388 := n24_; have NB388_367 := n25_; have NB377_388 := n26_; have NB388_377 := n27_; clear n0_ n1_ n2_ n3_ n4_ n5_ n6_ n7_ n8_ n9_ n10_ n11_ n12_ n13_ n14_ n15_ n16_ n17_ n18_ n19_ n20_ n21_ n22_ n23_ n24_ n25_ n26_ n27_; clear hb hbox hg; have hnb117 := NB388_326.out; have hnc117 := NB326_388.out; have hnb118 := NB388_336.out; have hnc118 := NB336_388.out; have hnb119 := NB388_346.out; have hnc119 := NB346_388.out; have hnb120 := NB388_356.out; have hnc120 := NB356_388.out; have hnb121 := NB388_367.out; have hnc121 := NB367_388.out; have hnb122 := NB388_377.out; have hnc122 := NB377_388.out; obtain ⟨hcz123_0, hcz123_1, hcz123_2, hcz123_3, hcz123_4, hcz123_5, hfz123_0, hfz123_1, hfz123_2, hfz123_3, hfz123_4, hfz123_5⟩ := blk6 BK388; obtain ⟨hcz124_0, hcz124_1, hcz124_2, hcz124_3, hcz124_4, hcz124_5, hfz124_0, hfz124_1, hfz124_2, hfz124_3, hfz124_4, hfz124_5⟩ := blk6 BK326) | ((with_reducible refine gate_callee (f := 17) rfl ?_); refine goesL_ (some 91) rfl rfl Try.func17 (by kernel_rfl) rfl #[.agg #[.int .i64 a0_0, .int .i64 a0_1, .int .i64 a0_2, .int .i64 a0_3, .int .i64 a0_4, .slice A0_5 l0_5.length c0_5], .int .i64 a2] rfl (by (try simp only [List.map_toArray, List.map_cons, List.map_nil]); first | done | rfl | (simp only [List.length_drop, List.length_take]; rfl)) ?_; (with_reducible refine (drydockref17_Retire.calls kj55 a0_0 a0_1 a0_2 a0_3 a0_4 _ _ l0_5 a2 t389 t390 t391 t392 t393 t394 t397 _ ?side1 ?side2 A106.out).mono ?_); (case side1 => exact Kd.C_below HR0_5.out bs_); (case side2 => exact HC0_5.out); rintro e w125 ⟨v395, rfl, ho0, hb⟩; refine ⟨_, rfl, ?_⟩; have n0_ := Aside0.mk (Kd.R_elder' (by (with_reducible repeat (first | apply Kd.R_alloc | apply Kd.R_drewN | apply Kd.R_drew)); exact (Kd.R_mono (far6 gb388 (Kd.R_types HO_337005.out BK388.out (by decide)) (fun _ hk => hk.2)) (fun _ h_ => h_.1))) (Kd.R_base ho0) hb); have n1_ := Aside0.mk (Kd.R_elder' (by (with_reducible repeat (first | apply Kd.R_alloc | apply Kd.R_drewN | apply Kd.R_drew)); exact (Kd.R_mono (far6 gb388 (Kd.R_types HO_347005.out BK388.out (by decide)) (fun _ hk => hk.2)) (fun _ h_ => h_.1))) (Kd.R_base ho0) hb); have n2_ := Aside0.mk (Kd.R_elder' (by (with_reducible repeat (first | apply Kd.R_alloc | apply Kd.R_drewN | apply Kd.R_drew)); exact (Kd.R_mono (far6 gb388 (Kd.R_types HO_357005.out BK388.out (by decide)) (fun _ hk => hk.2)) (fun _ h_ => h_.1))) (Kd.R_base ho0) hb); have n3_ := Aside0.mk (Kd.R_elder' (by (with_reducible repeat (first | apply Kd.R_alloc | apply Kd.R_drewN | apply Kd.R_drew)); exact (Kd.R_mono (far6 gb388 (Kd.R_types HO_368005.out BK388.out (by decide)) (fun _ hk => hk.2)) (fun _ h_ => h_.1))) (Kd.R_base ho0) hb); have n4_ := Aside0.mk (Kd.R_elder' (by (with_reducible repeat (first | apply Kd.R_alloc | apply Kd.R_drewN | apply Kd.R_drew)); exact (Kd.R_mono (far6 gb388 (Kd.R_types HO_378005.out BK388.out (by decide)) (fun _ hk => hk.2)) (fun _ h_ => h_.1))) (Kd.R_base ho0) hb); have n5_ := Aside0.mk (Kd.R_elder' (by (with_reducible repeat (first | apply Kd.R_alloc | apply Kd.R_drewN | apply Kd.R_drew)); exact (Kd.R_mono (far6 gb388 (Kd.R_types HO386.out BK388.out (by decide)) (fun _ hk => hk.2)) (fun _ h_ => h_.1))) (Kd.R_base ho0) hb); have n6_ := Aside0.mk (Kd.R_lower (Kd.R_new' (Kd.R_new' (Kd.R_new' (Kd.R_new' (Kd.R_new' (Kd.R_new' ho0 (Kd.R_lt (by (with_reducible repeat (first | apply Kd.R_alloc | apply Kd.R_drewN | apply Kd.R_drew)); exact (Kd.R_mono (far6 gb388 (Kd.R_types HO_337005.out BK388.out (by decide)) (fun _ hk => hk.2)) (fun _ h_ => h_.1))))) (Kd.R_lt (by (with_reducible repeat (first | apply Kd.R_alloc | apply Kd.R_drewN | apply Kd.R_drew)); exact (Kd.R_mono (far6 gb388 (Kd.R_types HO_347005.out BK388.out (by decide)) (fun _ hk => hk.2)) (fun _ h_ => h_.1))))) (Kd.R_lt (by (with_reducible repeat (first | apply Kd.R_alloc | apply Kd.R_drewN | apply Kd.R_drew)); exact (Kd.R_mono (far6 gb388 (Kd.R_types HO_357005.out BK388.out (by decide)) (fun _ hk => hk.2)) (fun _ h_ => h_.1))))) (Kd.R_lt (by (with_reducible repeat (first | apply Kd.R_alloc | apply Kd.R_drewN | apply Kd.R_drew)); exact (Kd.R_mono (far6 gb388 (Kd.R_types HO_368005.out BK388.out (by decide)) (fun _ hk => hk.2)) (fun _ h_ => h_.1))))) (Kd.R_lt (by (with_reducible repeat (first | apply Kd.R_alloc | apply Kd.R_drewN | apply Kd.R_drew)); exact (Kd.R_mono (far6 gb388 (Kd.R_types HO_378005.out BK388.out (by decide)) (fun _ hk => hk.2)) (fun _ h_ => h_.1))))) (Kd.R_lt (by (with_reducible repeat (first | apply Kd.R_alloc | apply Kd.R_drewN | apply Kd.R_drew)); exact (Kd.R_mono (far6 gb388 (Kd.R_types HO386.out BK388.out (by decide)) (fun _ hk => hk.2)) (fun _ h_ => h_.1))))) (below_size bs_)); have n7_ := Aside0.mk (blk_below (bf_ BK326) hb); have n8_ := Aside0.mk (blk_below (bf_ BK336) hb); have n9_ := Aside0.mk (blk_below (bf_ BK346) hb); have n10_ := Aside0.mk (blk_below (bf_ BK356) hb); have n11_ := Aside0.mk (blk_below (bf_ BK367) hb); have n12_ := Aside0.mk (blk_below (bf_ BK377) hb); have n13_ := Aside0.mk (blk_below (bp_ (o := .cells #[.int .i64 t379, .int .i64 t380, .int .i64 t381, .int .i64 t382, .int .i64 t383, .slice Ao115 t384.length co115] 25 (0, 0)) BK388) hb); have n14_ := Aside0.mk (below_step bs_ hb); clear HO_337005 HO_347005 HO_357005 HO_368005 HO_378005 HO386 BK326 BK336 BK346 BK356 BK367 BK377 BK388 HB; have HO_337005 := n0_; have HO_347005 := n1_; have HO_357005 := n2_; have HO_368005 := n3_; have HO_378005 := n4_; have HO386 := n5_; have HO396 := n6_; have BK326 := n7_; have BK336 := n8_; have BK346 := n9_; have BK356 := n10_; have BK367 := n11_; have BK377 := n12_; have BK388 := n13_; have HB := n14_; clear n0_ n1_ n2_ n3_ n4_ n5_ n6_ n7_ n8_ n9_ n10_ n11_ n12_ n13_ n14_; (try clear hb); (try clear hb2); (try clear hk); (try clear hi); (try clear ho0); obtain ⟨Ao126, co126, eo126⟩ := Kd.R_slice HO396.out; subst eo126) | ((with_reducible refine gate_dst (N := 21) rfl ?_); (try (refine gate_guard (by rfl) ?_; dsimp only)); refine box_event ?hg (N := 21) ?hd (cs := #[.int .i64 0, .int .i64 0, .int .i64 0, .int .i64 0, .int .i64 0, .slice none 0 0]) (t := 25) ?hr ?_; (case hd => rfl); (case hg => rfl); (case hr => first | (go_simp; done) | (go_simp; rfl)); intro gb398 hg w127 hbox hb; have n0_ := Aside0.mk (Kd.R_below (rk_ HO_337005) hb); have n1_ := Aside0.mk (Kd.R_below (rk_ HO_347005) hb); have n2_ := Aside0.mk (Kd.R_below (rk_ HO_357005) hb); have n3_ := Aside0.mk (Kd.R_below (rk_ HO_368005) hb); have n4_ := Aside0.mk (Kd.R_below (rk_ HO_378005) hb); have n5_ := Aside0.mk (Kd.R_below (rk_ HO386) hb); have n6_ := Aside0.mk (Kd.R_below (rk_ HO396) hb); have n7_ := Aside0.mk (blk_below (bk_ BK326) hb); have n8_ := Aside0.mk (blk_below (bk_ BK336) hb); have n9_ := Aside0.mk (blk_below (bk_ BK346) hb); have n10_ := Aside0.mk (blk_below (bk_ BK356) hb); have n11_ := Aside0.mk (blk_below (bk_ BK367) hb); have n12_ := Aside0.mk (blk_below (bk_ BK377) hb); have n13_ := Aside0.mk (blk_below (bk_ BK388) hb); have n14_ := Aside0.mk (below_step bs_ hb); have n15_ := Aside0.mk (hbox); have n16_ := Aside0.mk ((by rw [hg]; exact (below_size bs_) : w.heap.size ≤ gb398)); have n17_ := Aside0.mk ((by rw [hg]; exact (below_size bs_) : w.heap.size ≤ gb398)); have n18_ := Aside0.mk ((by rw [hg]; exact Nat.ne_of_lt (blk_lt (bk_ BK326)) : gb326 ≠ gb398)); have n19_ := Aside0.mk ((by rw [hg]; exact Nat.ne_of_gt (blk_lt (bk_ BK326)) : gb398 ≠ gb326)); have n20_ := Aside0.mk ((by rw [hg]; exact Nat.ne_of_lt (blk_lt (bk_ BK336)) : gb336 ≠ gb398)); have n21_ := Aside0.mk ((by rw [hg]; exact Nat.ne_of_gt (blk_lt (bk_ BK336)) : gb398 ≠ gb336)); have n22_ := Aside0.mk ((by rw [hg]; exact Nat.ne_of_lt (blk_lt (bk_ BK346)) : gb346 ≠ gb398)); have n23_ := Aside0.mk ((by rw [hg]; exact Nat.ne_of_gt (blk_lt (bk_ BK346)) : gb398 ≠ gb346)); have n24_ := Aside0.mk ((by rw [hg]; exact Nat.ne_of_lt (blk_lt (bk_ BK356)) : gb356 ≠ gb398)); have n25_ := Aside0.mk ((by rw [hg]; exact Nat.ne_of_gt (blk_lt (bk_ BK356)) : gb398 ≠ gb356)); have n26_ := Aside0.mk ((by rw [hg]; exact Nat.ne_of_lt (blk_lt (bk_ BK367)) : gb367 ≠ gb398)); have n27_ := Aside0.mk ((by rw [hg]; exact Nat.ne_of_gt (blk_lt (bk_ BK367)) : gb398 ≠ gb367)); have n28_ := Aside0.mk ((by rw [hg]; exact Nat.ne_of_lt (blk_lt (bk_ BK377)) : gb377 ≠ gb398)); have n29_ := Aside0.mk ((by rw [hg]; exact Nat.ne_of_gt (blk_lt (bk_ BK377)) : gb398 ≠ gb377)); have n30_ := Aside0.mk ((by rw [hg]; exact Nat.ne_of_lt (blk_lt (bk_ BK388)) : gb388 ≠ gb398)); have n31_ := Aside0.mk ((by rw [hg]; exact Nat.ne_of_gt (blk_lt (bk_ BK388)) : gb398 ≠ gb388)); clear HO_337005 HO_347005 HO_357005 HO_368005 HO_378005 HO386 HO396 BK326 BK336 BK346 BK356 BK367 BK377 BK388 HB; have HO_337005 := n0_; have HO_347005 := n1_; have HO_357005 := n2_; have HO_368005 := n3_; have HO_378005 := n4_; have HO386 := n5_; have HO396 := n6_; have BK326 := n7_; have BK336 := n8_; have BK346 := n9_; have BK356 := n10_; have BK367 := n11_; have BK377 := n12_; have BK388 := n13_; have HB := n14_; have BK398 := n15_; have GW398 := n16_; have GE398 := n17_; have NB326_398 := n18_; have NB398_326 := n19_; have NB336_398 := n20_; have NB398_336 := n21_; have NB346_398 := n22_; have NB398_346 := n23_; have NB356_398 := n24_; have NB398_356 := n25_; have NB367_398 := n26_; have NB398_367 := n27_; have NB377_398 := n28_; have NB398_377 := n29_; have NB388_398 := n30_; have NB398_388 := n31_; clear n0_ n1_ n2_ n3_ n4_ n5_ n6_ n7_ n8_ n9_ n10_ n11_ n12_ n13_ n14_ n15_ n16_ n17_ n18_ n19_ n20_ n21_ n22_ n23_ n24_ n25_ n26_ n27_ n28_ n29_ n30_ n31_; clear hb hbox hg; have hnb128 := NB398_326.out; have hnc128 := NB326_398.out; have hnb129 := NB398_336.out; have hnc129 := NB336_398.out; have hnb130 := NB398_346.out; have hnc130 := NB346_398.out; have hnb131 := NB398_356.out; have hnc131 := NB356_398.out; have hnb132 := NB398_367.out; have hnc132 := NB367_398.out; have hnb133 := NB398_377.out; have hnc133 := NB377_398.out; have hnb134 := NB398_388.out; have hnc134 := NB388_398.out; obtain ⟨hcz135_0, hcz135_1, hcz135_2, hcz135_3, hcz135_4, hcz135_5, hfz135_0, hfz135_1, hfz135_2, hfz135_3, hfz135_4, hfz135_5⟩ := blk6 BK398))
        (try simp only [Act.put, List.setIfInBounds_toArray, List.set_cons_zero, List.set_cons_succ])
        go_cut [23] (fun v23 wc => ∃ (kq : Nat) (x23_106 : Bool), v23 = .bool x23_106 ∧ Aside0 (drydocklaw17_EpochTells.j3 kq x13_13 x18_55 x23_106 a0_0 a0_1 a0_2 a0_3 a0_4 l0_5 t328 t329 t330 t331 t332 t333 = some r) ∧ Aside0 (kq ≤ kj55) ∧ Aside0 (Kd.R k43 43 wc w.heap.size (fun k_ => some k_ ≠ ((.slice Ao23 t342.length co23) : Value).ownBlock ∧ some k_ ≠ ((.slice Ao30 t352.length co30) : Value).ownBlock ∧ some k_ ≠ ((.slice Ao62 t363.length co62) : Value).ownBlock ∧ some k_ ≠ ((.slice Ao71 t373.length co71) : Value).ownBlock ∧ some k_ ≠ ((.slice Ao115 t384.length co115) : Value).ownBlock ∧ some k_ ≠ ((.slice Ao126 t394.length co126) : Value).ownBlock) (.slice Ao17 t333.length co17) t333) ∧ Aside0 (Kd.R k43 43 wc w.heap.size (fun k_ => some k_ ≠ ((.slice Ao17 t333.length co17) : Value).ownBlock ∧ some k_ ≠ ((.slice Ao30 t352.length co30) : Value).ownBlock ∧ some k_ ≠ ((.slice Ao62 t363.length co62) : Value).ownBlock ∧ some k_ ≠ ((.slice Ao71 t373.length co71) : Value).ownBlock ∧ some k_ ≠ ((.slice Ao115 t384.length co115) : Value).ownBlock ∧ some k_ ≠ ((.slice Ao126 t394.length co126) : Value).ownBlock) (.slice Ao23 t342.length co23) t342) ∧ Aside0 (Kd.R k43 43 wc w.heap.size (fun k_ => some k_ ≠ ((.slice Ao17 t333.length co17) : Value).ownBlock ∧ some k_ ≠ ((.slice Ao23 t342.length co23) : Value).ownBlock ∧ some k_ ≠ ((.slice Ao62 t363.length co62) : Value).ownBlock ∧ some k_ ≠ ((.slice Ao71 t373.length co71) : Value).ownBlock ∧ some k_ ≠ ((.slice Ao115 t384.length co115) : Value).ownBlock ∧ some k_ ≠ ((.slice Ao126 t394.length co126) : Value).ownBlock) (.slice Ao30 t352.length co30) t352) ∧ Aside0 (Kd.R k43 43 wc w.heap.size (fun k_ => some k_ ≠ ((.slice Ao17 t333.length co17) : Value).ownBlock ∧ some k_ ≠ ((.slice Ao23 t342.length co23) : Value).ownBlock ∧ some k_ ≠ ((.slice Ao30 t352.length co30) : Value).ownBlock ∧ some k_ ≠ ((.slice Ao71 t373.length co71) : Value).ownBlock ∧ some k_ ≠ ((.slice Ao115 t384.length co115) : Value).ownBlock ∧ some k_ ≠ ((.slice Ao126 t394.length co126) : Value).ownBlock) (.slice Ao62 t363.length co62) t363) ∧ Aside0 (Kd.R k43 43 wc w.heap.size (fun k_ => some k_ ≠ ((.slice Ao17 t333.length co17) : Value).ownBlock ∧ some k_ ≠ ((.slice Ao23 t342.length co23) : Value).ownBlock ∧ some k_ ≠ ((.slice Ao30 t352.length co30) : Value).ownBlock ∧ some k_ ≠ ((.slice Ao62 t363.length co62) : Value).ownBlock ∧ some k_ ≠ ((.slice Ao115 t384.length co115) : Value).ownBlock ∧ some k_ ≠ ((.slice Ao126 t394.length co126) : Value).ownBlock) (.slice Ao71 t373.length co71) t373) ∧ Aside0 (Kd.R k43 43 wc w.heap.size (fun k_ => some k_ ≠ ((.slice Ao17 t333.length co17) : Value).ownBlock ∧ some k_ ≠ ((.slice Ao23 t342.length co23) : Value).ownBlock ∧ some k_ ≠ ((.slice Ao30 t352.length co30) : Value).ownBlock ∧ some k_ ≠ ((.slice Ao62 t363.length co62) : Value).ownBlock ∧ some k_ ≠ ((.slice Ao71 t373.length co71) : Value).ownBlock ∧ some k_ ≠ ((.slice Ao126 t394.length co126) : Value).ownBlock) (.slice Ao115 t384.length co115) t384) ∧ Aside0 (Kd.R k43 43 wc w.heap.size (fun k_ => some k_ ≠ ((.slice Ao17 t333.length co17) : Value).ownBlock ∧ some k_ ≠ ((.slice Ao23 t342.length co23) : Value).ownBlock ∧ some k_ ≠ ((.slice Ao30 t352.length co30) : Value).ownBlock ∧ some k_ ≠ ((.slice Ao62 t363.length co62) : Value).ownBlock ∧ some k_ ≠ ((.slice Ao71 t373.length co71) : Value).ownBlock ∧ some k_ ≠ ((.slice Ao115 t384.length co115) : Value).ownBlock) (.slice Ao126 t394.length co126) t394) ∧ Aside0 (wc.heap[gb326]? = some (.cells #[.int .i64 a0_0, .int .i64 a0_1, .int .i64 a0_2, .int .i64 a0_3, .int .i64 a0_4, (.slice A0_5 l0_5.length c0_5)] 25 (0, 0))) ∧ Aside0 (wc.heap[gb336]? = some (.cells #[.int .i64 t328, .int .i64 t329, .int .i64 t330, .int .i64 t331, .int .i64 t332, (.slice Ao17 t333.length co17)] 25 (0, 0))) ∧ Aside0 (wc.heap[gb346]? = some (.cells #[.int .i64 t337, .int .i64 t338, .int .i64 t339, .int .i64 t340, .int .i64 t341, (.slice Ao23 t342.length co23)] 25 (0, 0))) ∧ Aside0 (wc.heap[gb356]? = some (.cells #[.int .i64 t347, .int .i64 t348, .int .i64 t349, .int .i64 t350, .int .i64 t351, (.slice Ao30 t352.length co30)] 25 (0, 0))) ∧ Aside0 (wc.heap[gb367]? = some (.cells #[.int .i64 t358, .int .i64 t359, .int .i64 t360, .int .i64 t361, .int .i64 t362, (.slice Ao62 t363.length co62)] 25 (0, 0))) ∧ Aside0 (wc.heap[gb377]? = some (.cells #[.int .i64 t368, .int .i64 t369, .int .i64 t370, .int .i64 t371, .int .i64 t372, (.slice Ao71 t373.length co71)] 25 (0, 0))) ∧ Aside0 (wc.heap[gb388]? = some (.cells #[.int .i64 t379, .int .i64 t380, .int .i64 t381, .int .i64 t382, .int .i64 t383, (.slice Ao115 t384.length co115)] 25 (0, 0))) ∧ Aside0 (wc.heap[gb398]? = some (.cells #[.int .i64 t389, .int .i64 t390, .int .i64 t391, .int .i64 t392, .int .i64 t393, (.slice Ao126 t394.length co126)] 25 (0, 0))) ∧ Aside0 (Below w.heap.size w wc))
        case first =>
         have H := HC107.out
         clear HC107
         replace H := Option.bind_eq_some_iff.mp H
         obtain ⟨t399, A1360, H⟩ := H
         replace H : (if t399 = true then (drydocklaw17_EpochTells.j3 kj55 x13_13 x18_55 (t387 == t397) a0_0 a0_1 a0_2 a0_3 a0_4 l0_5 t328 t329 t330 t331 t332 t333) else (drydocklaw17_EpochTells.j3 kj55 x13_13 x18_55 false a0_0 a0_1 a0_2 a0_3 a0_4 l0_5 t328 t329 t330 t331 t332 t333)) = some r := H
         have A136 := Aside0.mk A1360
         clear A1360
         by_cases c137 : t399 = true
         ·subst c137
          have H1 : (drydocklaw17_EpochTells.j3 kj55 x13_13 x18_55 (t387 == t397) a0_0 a0_1 a0_2 a0_3 a0_4 l0_5 t328 t329 t330 t331 t332 t333) = some r := by rw [if_pos rfl] at H; exact H
          clear H
          have H := H1
          clear H1
          have H' := Aside0.mk H
          clear H
          have hnb138 := NB388_326.out
          have hnc138 := NB326_388.out
          have hnb139 := NB388_336.out
          have hnc139 := NB336_388.out
          have hnb140 := NB388_346.out
          have hnc140 := NB346_388.out
          have hnb141 := NB388_356.out
          have hnc141 := NB356_388.out
          have hnb142 := NB388_367.out
          have hnc142 := NB367_388.out
          have hnb143 := NB388_377.out
          have hnc143 := NB377_388.out
          have hnb144 := NB388_398.out
          have hnc144 := NB398_388.out
          obtain ⟨hcz145_0, hcz145_1, hcz145_2, hcz145_3, hcz145_4, hcz145_5, hfz145_0, hfz145_1, hfz145_2, hfz145_3, hfz145_4, hfz145_5⟩ := blk6 BK388
          have hnb146 := NB398_326.out
          have hnc146 := NB326_398.out
          have hnb147 := NB398_336.out
          have hnc147 := NB336_398.out
          have hnb148 := NB398_346.out
          have hnc148 := NB346_398.out
          have hnb149 := NB398_356.out
          have hnc149 := NB356_398.out
          have hnb150 := NB398_367.out
          have hnc150 := NB367_398.out
          have hnb151 := NB398_377.out
          have hnc151 := NB377_398.out
          obtain ⟨hcz152_0, hcz152_1, hcz152_2, hcz152_3, hcz152_4, hcz152_5, hfz152_0, hfz152_1, hfz152_2, hfz152_3, hfz152_4, hfz152_5⟩ := blk6 BK398
          go_wp2_with (first | ((with_reducible refine gate_callee (f := 13) rfl ?_); refine goesL_ (some 96) rfl rfl Try.func13 (by kernel_rfl) rfl #[.agg #[.int .i64 t379, .int .i64 t380, .int .i64 t381, .int .i64 t382, .int .i64 t383, .slice Ao115 t384.length co115], .agg #[.int .i64 t389, .int .i64 t390, .int .i64 t391, .int .i64 t392, .int .i64 t393, .slice Ao126 t394.length co126]] rfl (by (try simp only [List.map_toArray, List.map_cons, List.map_nil]); first | done | rfl | (simp only [List.length_drop, List.length_take]; rfl)) ?_; (with_reducible refine (drydockref17_Same.calls kj55 t379 t380 t381 t382 t383 _ _ t384 t389 t390 t391 t392 t393 _ _ t394 true _ ?side1 ?side2 ?side3 ?side4 A136.out).mono ?_); (case side1 => refine (Kd.R_reads' (e := 43) (base := w.heap.size) (ok := fun k_ => ((((((True ∧ some k_ ≠ (.slice Ao17 t333.length co17 : Value).ownBlock) ∧ some k_ ≠ (.slice Ao23 t342.length co23 : Value).ownBlock) ∧ some k_ ≠ (.slice Ao30 t352.length co30 : Value).ownBlock) ∧ some k_ ≠ (.slice Ao62 t363.length co62 : Value).ownBlock) ∧ some k_ ≠ (.slice Ao71 t373.length co71 : Value).ownBlock) ∧ some k_ ≠ (.slice Ao126 t394.length co126 : Value).ownBlock)) (n := t384.length) (c := co115) ?_).2.2; exact (by (with_reducible repeat (first | apply Kd.R_alloc | apply Kd.R_drewN | apply Kd.R_drew)); exact (Kd.R_mono (far6 gb398 (Kd.R_types HO386.out BK398.out (by decide)) (fun _ hk => hk.2)) (fun _ h_ => h_.1)))); (case side2 => exact (Kd.R_reads' HO386.out).2.1); (case side3 => refine (Kd.R_reads' (e := 43) (base := w.heap.size) (ok := fun k_ => ((((((True ∧ some k_ ≠ (.slice Ao17 t333.length co17 : Value).ownBlock) ∧ some k_ ≠ (.slice Ao23 t342.length co23 : Value).ownBlock) ∧ some k_ ≠ (.slice Ao30 t352.length co30 : Value).ownBlock) ∧ some k_ ≠ (.slice Ao62 t363.length co62 : Value).ownBlock) ∧ some k_ ≠ (.slice Ao71 t373.length co71 : Value).ownBlock) ∧ some k_ ≠ (.slice Ao115 t384.length co115 : Value).ownBlock)) (n := t394.length) (c := co126) ?_).2.2; exact (by (with_reducible repeat (first | apply Kd.R_alloc | apply Kd.R_drewN | apply Kd.R_drew)); exact (Kd.R_mono (far6 gb398 (Kd.R_types HO396.out BK398.out (by decide)) (fun _ hk => hk.2)) (fun _ h_ => h_.1)))); (case side4 => exact (Kd.R_reads' HO396.out).2.1); rintro e w153 ⟨rfl, hb⟩; refine ⟨_, rfl, ?_⟩; have n0_ := Aside0.mk (Kd.R_below (by (with_reducible repeat (first | apply Kd.R_alloc | apply Kd.R_drewN | apply Kd.R_drew)); exact (Kd.R_mono (far6 gb398 (Kd.R_types HO_337005.out BK398.out (by decide)) (fun _ hk => hk.2)) (fun _ h_ => h_.1))) hb); have n1_ := Aside0.mk (Kd.R_below (by (with_reducible repeat (first | apply Kd.R_alloc | apply Kd.R_drewN | apply Kd.R_drew)); exact (Kd.R_mono (far6 gb398 (Kd.R_types HO_347005.out BK398.out (by decide)) (fun _ hk => hk.2)) (fun _ h_ => h_.1))) hb); have n2_ := Aside0.mk (Kd.R_below (by (with_reducible repeat (first | apply Kd.R_alloc | apply Kd.R_drewN | apply Kd.R_drew)); exact (Kd.R_mono (far6 gb398 (Kd.R_types HO_357005.out BK398.out (by decide)) (fun _ hk => hk.2)) (fun _ h_ => h_.1))) hb); have n3_ := Aside0.mk (Kd.R_below (by (with_reducible repeat (first | apply Kd.R_alloc | apply Kd.R_drewN | apply Kd.R_drew)); exact (Kd.R_mono (far6 gb398 (Kd.R_types HO_368005.out BK398.out (by decide)) (fun _ hk => hk.2)) (fun _ h_ => h_.1))) hb); have n4_ := Aside0.mk (Kd.R_below (by (with_reducible repeat (first | apply Kd.R_alloc | apply Kd.R_drewN | apply Kd.R_drew)); exact (Kd.R_mono (far6 gb398 (Kd.R_types HO_378005.out BK398.out (by decide)) (fun _ hk => hk.2)) (fun _ h_ => h_.1))) hb); have n5_ := Aside0.mk (Kd.R_below (by (with_reducible repeat (first | apply Kd.R_alloc | apply Kd.R_drewN | apply Kd.R_drew)); exact (Kd.R_mono (far6 gb398 (Kd.R_types HO386.out BK398.out (by decide)) (fun _ hk => hk.2)) (fun _ h_ => h_.1))) hb); have n6_ := Aside0.mk (Kd.R_below (by (with_reducible repeat (first | apply Kd.R_alloc | apply Kd.R_drewN | apply Kd.R_drew)); exact (Kd.R_mono (far6 gb398 (Kd.R_types HO396.out BK398.out (by decide)) (fun _ hk => hk.2)) (fun _ h_ => h_.1))) hb); have n7_ := Aside0.mk (blk_below (bf_ BK326) hb); have n8_ := Aside0.mk (blk_below (bf_ BK336) hb); have n9_ := Aside0.mk (blk_below (bf_ BK346) hb); have n10_ := Aside0.mk (blk_below (bf_ BK356) hb); have n11_ := Aside0.mk (blk_below (bf_ BK367) hb); have n12_ := Aside0.mk (blk_below (bf_ BK377) hb); have n13_ := Aside0.mk (blk_below (bf_ BK388) hb); have n14_ := Aside0.mk (blk_below (bp_ (o := .cells #[.int .i64 t389, .int .i64 t390, .int .i64 t391, .int .i64 t392, .int .i64 t393, .slice Ao126 t394.length co126] 25 (0, 0)) BK398) hb); have n15_ := Aside0.mk (below_step bs_ hb); clear HO_337005 HO_347005 HO_357005 HO_368005 HO_378005 HO386 HO396 BK326 BK336 BK346 BK356 BK367 BK377 BK388 BK398 HB; have HO_337005 := n0_; have HO_347005 := n1_; have HO_357005 := n2_; have HO_368005 := n3_; have HO_378005 := n4_; have HO386 := n5_; have HO396 := n6_; have BK326 := n7_; have BK336 := n8_; have BK346 := n9_; have BK356 := n10_; have BK367 := n11_; have BK377 := n12_; have BK388 := n13_; have BK398 := n14_; have HB := n15_; clear n0_ n1_ n2_ n3_ n4_ n5_ n6_ n7_ n8_ n9_ n10_ n11_ n12_ n13_ n14_ n15_; (try clear hb); (try clear hb2); (try clear hk); (try clear hi)))
          go_meet
          case rel => exact ⟨_, ((t387 == t397)), eq_, H', ⟨by have := HJ4.out; have := HJ13.out; have := HJ55.out; first | omega | exact Nat.le_refl _⟩, ⟨by (with_reducible repeat (first | apply Kd.R_alloc | apply Kd.R_drewN | apply Kd.R_drew)); exact Kd.R_mono HO_337005.out (fun _ hk => ⟨hk.1.1.1, ⟨hk.1.1.2.1, ⟨hk.1.1.2.2.1, ⟨hk.1.1.2.2.2, ⟨hk.1.2, hk.2⟩⟩⟩⟩⟩)⟩, ⟨by (with_reducible repeat (first | apply Kd.R_alloc | apply Kd.R_drewN | apply Kd.R_drew)); exact Kd.R_mono HO_347005.out (fun _ hk => ⟨hk.1.1.1, ⟨hk.1.1.2.1, ⟨hk.1.1.2.2.1, ⟨hk.1.1.2.2.2, ⟨hk.1.2, hk.2⟩⟩⟩⟩⟩)⟩, ⟨by (with_reducible repeat (first | apply Kd.R_alloc | apply Kd.R_drewN | apply Kd.R_drew)); exact Kd.R_mono HO_357005.out (fun _ hk => ⟨hk.1.1.1, ⟨hk.1.1.2.1, ⟨hk.1.1.2.2.1, ⟨hk.1.1.2.2.2, ⟨hk.1.2, hk.2⟩⟩⟩⟩⟩)⟩, ⟨by (with_reducible repeat (first | apply Kd.R_alloc | apply Kd.R_drewN | apply Kd.R_drew)); exact Kd.R_mono HO_368005.out (fun _ hk => ⟨hk.1.1.1, ⟨hk.1.1.2.1, ⟨hk.1.1.2.2.1, ⟨hk.1.1.2.2.2, ⟨hk.1.2, hk.2⟩⟩⟩⟩⟩)⟩, ⟨by (with_reducible repeat (first | apply Kd.R_alloc | apply Kd.R_drewN | apply Kd.R_drew)); exact Kd.R_mono HO_378005.out (fun _ hk => ⟨hk.1.1.1, ⟨hk.1.1.2.1, ⟨hk.1.1.2.2.1, ⟨hk.1.1.2.2.2, ⟨hk.1.2, hk.2⟩⟩⟩⟩⟩)⟩, ⟨by (with_reducible repeat (first | apply Kd.R_alloc | apply Kd.R_drewN | apply Kd.R_drew)); exact Kd.R_mono HO386.out (fun _ hk => ⟨hk.1.1.1.1.1.2, ⟨hk.1.1.1.1.2, ⟨hk.1.1.1.2, ⟨hk.1.1.2, ⟨hk.1.2, hk.2⟩⟩⟩⟩⟩)⟩, ⟨by (with_reducible repeat (first | apply Kd.R_alloc | apply Kd.R_drewN | apply Kd.R_drew)); exact Kd.R_mono HO396.out (fun _ hk => ⟨hk.1.1.1.1.1.2, ⟨hk.1.1.1.1.2, ⟨hk.1.1.1.2, ⟨hk.1.1.2, ⟨hk.1.2, hk.2⟩⟩⟩⟩⟩)⟩, ⟨bk_ BK326⟩, ⟨bk_ BK336⟩, ⟨bk_ BK346⟩, ⟨bk_ BK356⟩, ⟨bk_ BK367⟩, ⟨bk_ BK377⟩, ⟨bk_ BK388⟩, ⟨bk_ BK398⟩, ⟨bs_⟩⟩
         ·replace c137 := Bool.eq_false_iff.mpr c137
          subst c137
          have H1 : (drydocklaw17_EpochTells.j3 kj55 x13_13 x18_55 false a0_0 a0_1 a0_2 a0_3 a0_4 l0_5 t328 t329 t330 t331 t332 t333) = some r := by rw [if_neg (show ¬ (false = true) by decide)] at H; exact H
          clear H
          have H := H1
          clear H1
          have H' := Aside0.mk H
          clear H
          have hnb154 := NB388_326.out
          have hnc154 := NB326_388.out
          have hnb155 := NB388_336.out
          have hnc155 := NB336_388.out
          have hnb156 := NB388_346.out
          have hnc156 := NB346_388.out
          have hnb157 := NB388_356.out
          have hnc157 := NB356_388.out
          have hnb158 := NB388_367.out
          have hnc158 := NB367_388.out
          have hnb159 := NB388_377.out
          have hnc159 := NB377_388.out
          have hnb160 := NB388_398.out
          have hnc160 := NB398_388.out
          obtain ⟨hcz161_0, hcz161_1, hcz161_2, hcz161_3, hcz161_4, hcz161_5, hfz161_0, hfz161_1, hfz161_2, hfz161_3, hfz161_4, hfz161_5⟩ := blk6 BK388
          have hnb162 := NB398_326.out
          have hnc162 := NB326_398.out
          have hnb163 := NB398_336.out
          have hnc163 := NB336_398.out
          have hnb164 := NB398_346.out
          have hnc164 := NB346_398.out
          have hnb165 := NB398_356.out
          have hnc165 := NB356_398.out
          have hnb166 := NB398_367.out
          have hnc166 := NB367_398.out
          have hnb167 := NB398_377.out
          have hnc167 := NB377_398.out
          obtain ⟨hcz168_0, hcz168_1, hcz168_2, hcz168_3, hcz168_4, hcz168_5, hfz168_0, hfz168_1, hfz168_2, hfz168_3, hfz168_4, hfz168_5⟩ := blk6 BK398
          go_wp2_with (first | ((with_reducible refine gate_callee (f := 13) rfl ?_); refine goesL_ (some 96) rfl rfl Try.func13 (by kernel_rfl) rfl #[.agg #[.int .i64 t379, .int .i64 t380, .int .i64 t381, .int .i64 t382, .int .i64 t383, .slice Ao115 t384.length co115], .agg #[.int .i64 t389, .int .i64 t390, .int .i64 t391, .int .i64 t392, .int .i64 t393, .slice Ao126 t394.length co126]] rfl (by (try simp only [List.map_toArray, List.map_cons, List.map_nil]); first | done | rfl | (simp only [List.length_drop, List.length_take]; rfl)) ?_; (with_reducible refine (drydockref17_Same.calls kj55 t379 t380 t381 t382 t383 _ _ t384 t389 t390 t391 t392 t393 _ _ t394 false _ ?side1 ?side2 ?side3 ?side4 A136.out).mono ?_); (case side1 => refine (Kd.R_reads' (e := 43) (base := w.heap.size) (ok := fun k_ => ((((((True ∧ some k_ ≠ (.slice Ao17 t333.length co17 : Value).ownBlock) ∧ some k_ ≠ (.slice Ao23 t342.length co23 : Value).ownBlock) ∧ some k_ ≠ (.slice Ao30 t352.length co30 : Value).ownBlock) ∧ some k_ ≠ (.slice Ao62 t363.length co62 : Value).ownBlock) ∧ some k_ ≠ (.slice Ao71 t373.length co71 : Value).ownBlock) ∧ some k_ ≠ (.slice Ao126 t394.length co126 : Value).ownBlock)) (n := t384.length) (c := co115) ?_).2.2; exact (by (with_reducible repeat (first | apply Kd.R_alloc | apply Kd.R_drewN | apply Kd.R_drew)); exact (Kd.R_mono (far6 gb398 (Kd.R_types HO386.out BK398.out (by decide)) (fun _ hk => hk.2)) (fun _ h_ => h_.1)))); (case side2 => exact (Kd.R_reads' HO386.out).2.1); (case side3 => refine (Kd.R_reads' (e := 43) (base := w.heap.size) (ok := fun k_ => ((((((True ∧ some k_ ≠ (.slice Ao17 t333.length co17 : Value).ownBlock) ∧ some k_ ≠ (.slice Ao23 t342.length co23 : Value).ownBlock) ∧ some k_ ≠ (.slice Ao30 t352.length co30 : Value).ownBlock) ∧ some k_ ≠ (.slice Ao62 t363.length co62 : Value).ownBlock) ∧ some k_ ≠ (.slice Ao71 t373.length co71 : Value).ownBlock) ∧ some k_ ≠ (.slice Ao115 t384.length co115 : Value).ownBlock)) (n := t394.length) (c := co126) ?_).2.2; exact (by (with_reducible repeat (first | apply Kd.R_alloc | apply Kd.R_drewN | apply Kd.R_drew)); exact (Kd.R_mono (far6 gb398 (Kd.R_types HO396.out BK398.out (by decide)) (fun _ hk => hk.2)) (fun _ h_ => h_.1)))); (case side4 => exact (Kd.R_reads' HO396.out).2.1); rintro e w169 ⟨rfl, hb⟩; refine ⟨_, rfl, ?_⟩; have n0_ := Aside0.mk (Kd.R_below (by (with_reducible repeat (first | apply Kd.R_alloc | apply Kd.R_drewN | apply Kd.R_drew)); exact (Kd.R_mono (far6 gb398 (Kd.R_types HO_337005.out BK398.out (by decide)) (fun _ hk => hk.2)) (fun _ h_ => h_.1))) hb); have n1_ := Aside0.mk (Kd.R_below (by (with_reducible repeat (first | apply Kd.R_alloc | apply Kd.R_drewN | apply Kd.R_drew)); exact (Kd.R_mono (far6 gb398 (Kd.R_types HO_347005.out BK398.out (by decide)) (fun _ hk => hk.2)) (fun _ h_ => h_.1))) hb); have n2_ := Aside0.mk (Kd.R_below (by (with_reducible repeat (first | apply Kd.R_alloc | apply Kd.R_drewN | apply Kd.R_drew)); exact (Kd.R_mono (far6 gb398 (Kd.R_types HO_357005.out BK398.out (by decide)) (fun _ hk => hk.2)) (fun _ h_ => h_.1))) hb); have n3_ := Aside0.mk (Kd.R_below (by (with_reducible repeat (first | apply Kd.R_alloc | apply Kd.R_drewN | apply Kd.R_drew)); exact (Kd.R_mono (far6 gb398 (Kd.R_types HO_368005.out BK398.out (by decide)) (fun _ hk => hk.2)) (fun _ h_ => h_.1))) hb); have n4_ := Aside0.mk (Kd.R_below (by (with_reducible repeat (first | apply Kd.R_alloc | apply Kd.R_drewN | apply Kd.R_drew)); exact (Kd.R_mono (far6 gb398 (Kd.R_types HO_378005.out BK398.out (by decide)) (fun _ hk => hk.2)) (fun _ h_ => h_.1))) hb); have n5_ := Aside0.mk (Kd.R_below (by (with_reducible repeat (first | apply Kd.R_alloc | apply Kd.R_drewN | apply Kd.R_drew)); exact (Kd.R_mono (far6 gb398 (Kd.R_types HO386.out BK398.out (by decide)) (fun _ hk => hk.2)) (fun _ h_ => h_.1))) hb); have n6_ := Aside0.mk (Kd.R_below (by (with_reducible repeat (first | apply Kd.R_alloc | apply Kd.R_drewN | apply Kd.R_drew)); exact (Kd.R_mono (far6 gb398 (Kd.R_types HO396.out BK398.out (by decide)) (fun _ hk => hk.2)) (fun _ h_ => h_.1))) hb); have n7_ := Aside0.mk (blk_below (bf_ BK326) hb); have n8_ := Aside0.mk (blk_below (bf_ BK336) hb); have n9_ := Aside0.mk (blk_below (bf_ BK346) hb); have n10_ := Aside0.mk (blk_below (bf_ BK356) hb); have n11_ := Aside0.mk (blk_below (bf_ BK367) hb); have n12_ := Aside0.mk (blk_below (bf_ BK377) hb); have n13_ := Aside0.mk (blk_below (bf_ BK388) hb); have n14_ := Aside0.mk (blk_below (bp_ (o := .cells #[.int .i64 t389, .int .i64 t390, .int .i64 t391, .int .i64 t392, .int .i64 t393, .slice Ao126 t394.length co126] 25 (0, 0)) BK398) hb); have n15_ := Aside0.mk (below_step bs_ hb); clear HO_337005 HO_347005 HO_357005 HO_368005 HO_378005 HO386 HO396 BK326 BK336 BK346 BK356 BK367 BK377 BK388 BK398 HB; have HO_337005 := n0_; have HO_347005 := n1_; have HO_357005 := n2_; have HO_368005 := n3_; have HO_378005 := n4_; have HO386 := n5_; have HO396 := n6_; have BK326 := n7_; have BK336 := n8_; have BK346 := n9_; have BK356 := n10_; have BK367 := n11_; have BK377 := n12_; have BK388 := n13_; have BK398 := n14_; have HB := n15_; clear n0_ n1_ n2_ n3_ n4_ n5_ n6_ n7_ n8_ n9_ n10_ n11_ n12_ n13_ n14_ n15_; (try clear hb); (try clear hb2); (try clear hk); (try clear hi)))
          go_meet
          case rel => exact ⟨_, (false), eq_, H', ⟨by have := HJ4.out; have := HJ13.out; have := HJ55.out; first | omega | exact Nat.le_refl _⟩, ⟨by (with_reducible repeat (first | apply Kd.R_alloc | apply Kd.R_drewN | apply Kd.R_drew)); exact Kd.R_mono HO_337005.out (fun _ hk => ⟨hk.1.1.1, ⟨hk.1.1.2.1, ⟨hk.1.1.2.2.1, ⟨hk.1.1.2.2.2, ⟨hk.1.2, hk.2⟩⟩⟩⟩⟩)⟩, ⟨by (with_reducible repeat (first | apply Kd.R_alloc | apply Kd.R_drewN | apply Kd.R_drew)); exact Kd.R_mono HO_347005.out (fun _ hk => ⟨hk.1.1.1, ⟨hk.1.1.2.1, ⟨hk.1.1.2.2.1, ⟨hk.1.1.2.2.2, ⟨hk.1.2, hk.2⟩⟩⟩⟩⟩)⟩, ⟨by (with_reducible repeat (first | apply Kd.R_alloc | apply Kd.R_drewN | apply Kd.R_drew)); exact Kd.R_mono HO_357005.out (fun _ hk => ⟨hk.1.1.1, ⟨hk.1.1.2.1, ⟨hk.1.1.2.2.1, ⟨hk.1.1.2.2.2, ⟨hk.1.2, hk.2⟩⟩⟩⟩⟩)⟩, ⟨by (with_reducible repeat (first | apply Kd.R_alloc | apply Kd.R_drewN | apply Kd.R_drew)); exact Kd.R_mono HO_368005.out (fun _ hk => ⟨hk.1.1.1, ⟨hk.1.1.2.1, ⟨hk.1.1.2.2.1, ⟨hk.1.1.2.2.2, ⟨hk.1.2, hk.2⟩⟩⟩⟩⟩)⟩, ⟨by (with_reducible repeat (first | apply Kd.R_alloc | apply Kd.R_drewN | apply Kd.R_drew)); exact Kd.R_mono HO_378005.out (fun _ hk => ⟨hk.1.1.1, ⟨hk.1.1.2.1, ⟨hk.1.1.2.2.1, ⟨hk.1.1.2.2.2, ⟨hk.1.2, hk.2⟩⟩⟩⟩⟩)⟩, ⟨by (with_reducible repeat (first | apply Kd.R_alloc | apply Kd.R_drewN | apply Kd.R_drew)); exact Kd.R_mono HO386.out (fun _ hk => ⟨hk.1.1.1.1.1.2, ⟨hk.1.1.1.1.2, ⟨hk.1.1.1.2, ⟨hk.1.1.2, ⟨hk.1.2, hk.2⟩⟩⟩⟩⟩)⟩, ⟨by (with_reducible repeat (first | apply Kd.R_alloc | apply Kd.R_drewN | apply Kd.R_drew)); exact Kd.R_mono HO396.out (fun _ hk => ⟨hk.1.1.1.1.1.2, ⟨hk.1.1.1.1.2, ⟨hk.1.1.1.2, ⟨hk.1.1.2, ⟨hk.1.2, hk.2⟩⟩⟩⟩⟩)⟩, ⟨bk_ BK326⟩, ⟨bk_ BK336⟩, ⟨bk_ BK346⟩, ⟨bk_ BK356⟩, ⟨bk_ BK367⟩, ⟨bk_ BK377⟩, ⟨bk_ BK388⟩, ⟨bk_ BK398⟩, ⟨bs_⟩⟩
        case rest =>
         clear HC107
         try clear c10
         obtain ⟨kq, x23_106, rfl, HA, HJ106, HO_337005, HO_347005, HO_357005, HO_368005, HO_378005, HO_389005, HO_399005, BK326, BK336, BK346, BK356, BK367, BK377, BK388, BK398, HB⟩ := hcut
         cases kq with
         | zero => exact absurd HA.out (by simp [drydocklaw17_EpochTells.j3])
         | succ kj106 =>
          have H := HA.out
          clear HA
          simp only [drydocklaw17_EpochTells.j3] at H
          replace H := Option.bind_eq_some_iff.mp H
          obtain ⟨⟨t400, t401, t402, t403, t404, t405, t408⟩, A1700, H⟩ := H
          replace H : ((drydockref17_Clear.f kj106 a0_0 a0_1 a0_2 a0_3 a0_4 l0_5).bind fun bt412 => ((drydockref17_Same.f kj106 t400 t401 t402 t403 t404 t405 bt412.1 bt412.2.1 bt412.2.2.1 bt412.2.2.2.1 bt412.2.2.2.2.1 bt412.2.2.2.2.2.1).bind fun t424 => (if t424 = true then ((drydockref01_Ints.f kj106 t408 bt412.2.2.2.2.2.2).bind fun t425 => (drydocklaw17_EpochTells.j4 kj106 x13_13 x18_55 x23_106 t425 a0_0 a0_1 a0_2 a0_3 a0_4 l0_5 t328 t329 t330 t331 t332 t333)) else (drydocklaw17_EpochTells.j4 kj106 x13_13 x18_55 x23_106 false a0_0 a0_1 a0_2 a0_3 a0_4 l0_5 t328 t329 t330 t331 t332 t333)))) = some r := H
          have A170 := Aside0.mk A1700
          clear A1700
          replace H := Option.bind_eq_some_iff.mp H
          obtain ⟨⟨t412, t413, t414, t415, t416, t417, t420⟩, A1710, H⟩ := H
          replace H : ((drydockref17_Same.f kj106 t400 t401 t402 t403 t404 t405 t412 t413 t414 t415 t416 t417).bind fun t424 => (if t424 = true then ((drydockref01_Ints.f kj106 t408 t420).bind fun t425 => (drydocklaw17_EpochTells.j4 kj106 x13_13 x18_55 x23_106 t425 a0_0 a0_1 a0_2 a0_3 a0_4 l0_5 t328 t329 t330 t331 t332 t333)) else (drydocklaw17_EpochTells.j4 kj106 x13_13 x18_55 x23_106 false a0_0 a0_1 a0_2 a0_3 a0_4 l0_5 t328 t329 t330 t331 t332 t333))) = some r := H
          have A171 := Aside0.mk A1710
          clear A1710
          have HC172 := Aside0.mk H
          clear H
          have hnb173 := NB326_336.out
          have hnc173 := NB336_326.out
          have hnb174 := NB326_346.out
          have hnc174 := NB346_326.out
          have hnb175 := NB326_356.out
          have hnc175 := NB356_326.out
          have hnb176 := NB326_367.out
          have hnc176 := NB367_326.out
          have hnb177 := NB326_377.out
          have hnc177 := NB377_326.out
          have hnb178 := NB326_388.out
          have hnc178 := NB388_326.out
          have hnb179 := NB326_398.out
          have hnc179 := NB398_326.out
          obtain ⟨hcz180_0, hcz180_1, hcz180_2, hcz180_3, hcz180_4, hcz180_5, hfz180_0, hfz180_1, hfz180_2, hfz180_3, hfz180_4, hfz180_5⟩ := blk6 BK326
          go_upto_region 16 with (first | ((with_reducible refine gate_callee (f := 18) rfl ?_); refine goesL_ (some 104) rfl rfl Try.func18 (by kernel_rfl) rfl #[.agg #[.int .i64 a0_0, .int .i64 a0_1, .int .i64 a0_2, .int .i64 a0_3, .int .i64 a0_4, .slice A0_5 l0_5.length c0_5]] rfl (by (try simp only [List.map_toArray, List.map_cons, List.map_nil]); first | done | rfl | (simp only [List.length_drop, List.length_take]; rfl)) ?_; (with_reducible refine (epoch_Clear.calls kj106 a0_0 a0_1 a0_2 a0_3 a0_4 _ _ l0_5 t400 t401 t402 t403 t404 t405 t408 _ ?side1 ?side2 A170.out).mono ?_); (case side1 => repeat (first | exact (Kd.C_below HR0_5.out HB.out) | (with_reducible refine Kd.C_alloc ?_ _) | (with_reducible refine Kd.C_drewN ?_ _) | (with_reducible refine Kd.C_drew ?_))); (case side2 => exact HC0_5.out); rintro e w181 ⟨v406, v409, rfl, ho0, ho1, hb⟩; refine ⟨_, rfl, ?_⟩; have n0_ := Aside0.mk (Kd.R_elder' (rk_ HO_337005) (Kd.R_base ho0) hb); have n1_ := Aside0.mk (Kd.R_elder' (rk_ HO_347005) (Kd.R_base ho0) hb); have n2_ := Aside0.mk (Kd.R_elder' (rk_ HO_357005) (Kd.R_base ho0) hb); have n3_ := Aside0.mk (Kd.R_elder' (rk_ HO_368005) (Kd.R_base ho0) hb); have n4_ := Aside0.mk (Kd.R_elder' (rk_ HO_378005) (Kd.R_base ho0) hb); have n5_ := Aside0.mk (Kd.R_elder' (rk_ HO_389005) (Kd.R_base ho0) hb); have n6_ := Aside0.mk (Kd.R_elder' (rk_ HO_399005) (Kd.R_base ho0) hb); have n7_ := Aside0.mk (Kd.R_lower (Kd.R_new' (Kd.R_new' (Kd.R_new' (Kd.R_new' (Kd.R_new' (Kd.R_new' (Kd.R_new' ho0 (Kd.R_lt (rk_ HO_337005))) (Kd.R_lt (rk_ HO_347005))) (Kd.R_lt (rk_ HO_357005))) (Kd.R_lt (rk_ HO_368005))) (Kd.R_lt (rk_ HO_378005))) (Kd.R_lt (rk_ HO_389005))) (Kd.R_lt (rk_ HO_399005))) (below_size bs_)); have n8_ := Aside0.mk (Kd.R_lower ho1 (below_size bs_)); have n9_ := Aside0.mk (blk_below (bk_ BK326) hb); have n10_ := Aside0.mk (blk_below (bk_ BK336) hb); have n11_ := Aside0.mk (blk_below (bk_ BK346) hb); have n12_ := Aside0.mk (blk_below (bk_ BK356) hb); have n13_ := Aside0.mk (blk_below (bk_ BK367) hb); have n14_ := Aside0.mk (blk_below (bk_ BK377) hb); have n15_ := Aside0.mk (blk_below (bk_ BK388) hb); have n16_ := Aside0.mk (blk_below (bk_ BK398) hb); have n17_ := Aside0.mk (below_step bs_ hb); clear HO_337005 HO_347005 HO_357005 HO_368005 HO_378005 HO_389005 HO_399005 BK326 BK336 BK346 BK356 BK367 BK377 BK388 BK398 HB; have HO_337005 := n0_; have HO_347005 := n1_; have HO_357005 := n2_; have HO_368005 := n3_; have HO_378005 := n4_; have HO_389005 := n5_; have HO_399005 := n6_; have HO407 := n7_; have HO410 := n8_; have BK326 := n9_; have BK336 := n10_; have BK346 := n11_; have BK356 := n12_; have BK367 := n13_; have BK377 := n14_; have BK388 := n15_; have BK398 := n16_; have HB := n17_; clear n0_ n1_ n2_ n3_ n4_ n5_ n6_ n7_ n8_ n9_ n10_ n11_ n12_ n13_ n14_ n15_ n16_ n17_; (try clear hb); (try clear hb2); (try clear hk); (try clear hi); (try clear ho0); (try clear ho1); obtain ⟨Ao182, co182, eo182⟩ := Kd.R_slice HO410.out; subst eo182; obtain ⟨Ao183, co183, eo183⟩ := Kd.R_slice HO407.out; subst eo183) | ((with_reducible refine gate_dst (N := 24) rfl ?_); (try (refine gate_guard (by rfl) ?_; dsimp only)); refine box_event ?hg (N := 24) ?hd (cs := #[.int .i64 0, .int .i64 0, .int .i64 0, .int .i64 0, .int .i64 0, .slice none 0 0]) (t := 25) ?hr ?_; (case hd => rfl); (case hg => rfl); (case hr => first | (go_simp; done) | (go_simp; rfl)); intro gb411 hg w184 hbox hb; have n0_ := Aside0.mk (Kd.R_below (rk_ HO_337005) hb); have n1_ := Aside0.mk (Kd.R_below (rk_ HO_347005) hb); have n2_ := Aside0.mk (Kd.R_below (rk_ HO_357005) hb); have n3_ := Aside0.mk (Kd.R_below (rk_ HO_368005) hb); have n4_ := Aside0.mk (Kd.R_below (rk_ HO_378005) hb); have n5_ := Aside0.mk (Kd.R_below (rk_ HO_389005) hb); have n6_ := Aside0.mk (Kd.R_below (rk_ HO_399005) hb); have n7_ := Aside0.mk (Kd.R_below (rk_ HO407) hb); have n8_ := Aside0.mk (Kd.R_below (rk_ HO410) hb); have n9_ := Aside0.mk (blk_below (bk_ BK326) hb); have n10_ := Aside0.mk (blk_below (bk_ BK336) hb); have n11_ := Aside0.mk (blk_below (bk_ BK346) hb); have n12_ := Aside0.mk (blk_below (bk_ BK356) hb); have n13_ := Aside0.mk (blk_below (bk_ BK367) hb); have n14_ := Aside0.mk (blk_below (bk_ BK377) hb); have n15_ := Aside0.mk (blk_below (bk_ BK388) hb); have n16_ := Aside0.mk (blk_below (bk_ BK398) hb); have n17_ := Aside0.mk (below_step bs_ hb); have n18_ := Aside0.mk (hbox); have n19_ := Aside0.mk ((by rw [hg]; exact (below_size bs_) : w.heap.size ≤ gb411)); have n20_ := Aside0.mk ((by rw [hg]; exact (below_size bs_) : w.heap.size ≤ gb411)); have n21_ := Aside0.mk ((by rw [hg]; exact Nat.ne_of_lt (blk_lt (bk_ BK326)) : gb326 ≠ gb411)); have n22_ := Aside0.mk ((by rw [hg]; exact Nat.ne_of_gt (blk_lt (bk_ BK326)) : gb411 ≠ gb326)); have n23_ := Aside0.mk ((by rw [hg]; exact Nat.ne_of_lt (blk_lt (bk_ BK336)) : gb336 ≠ gb411)); have n24_ := Aside0.mk ((by rw [hg]; exact Nat.ne_of_gt (blk_lt (bk_ BK336)) : gb411 ≠ gb336)); have n25_ := Aside0.mk ((by rw [hg]; exact Nat.ne_of_lt (blk_lt (bk_ BK346)) : gb346 ≠ gb411)); have n26_ := Aside0.mk ((by rw [hg]; exact Nat.ne_of_gt (blk_lt (bk_ BK346)) : gb411 ≠ gb346)); have n27_ := Aside0.mk ((by rw [hg]; exact Nat.ne_of_lt (blk_lt (bk_ BK356)) : gb356 ≠ gb411)); have n28_ := Aside0.mk ((by rw [hg]; exact Nat.ne_of_gt (blk_lt (bk_ BK356)) : gb411 ≠ gb356)); have n29_ := Aside0.mk ((by rw [hg]; exact Nat.ne_of_lt (blk_lt (bk_ BK367)) : gb367 ≠ gb411)); have n30_ := Aside0.mk ((by rw [hg]; exact Nat.ne_of_gt (blk_lt (bk_ BK367)) : gb411 ≠ gb367)); have n31_ := Aside0.mk ((by rw [hg]; exact Nat.ne_of_lt (blk_lt (bk_ BK377)) : gb377 ≠ gb411)); have n32_ := Aside0.mk ((by rw [hg]; exact Nat.ne_of_gt (blk_lt (bk_ BK377)) : gb411 ≠ gb377)); have n33_ := Aside0.mk ((by rw [hg]; exact Nat.ne_of_lt (blk_lt (bk_ BK388)) : gb388 ≠ gb411)); have n34_ := Aside0.mk ((by rw [hg]; exact Nat.ne_of_gt (blk_lt (bk_ BK388)) : gb411 ≠ gb388)); have n35_ := Aside0.mk ((by rw [hg]; exact Nat.ne_of_lt (blk_lt (bk_ BK398)) : gb398 ≠ gb411)); have n36_ := Aside0.mk ((by rw [hg]; exact Nat.ne_of_gt (blk_lt (bk_ BK398)) : gb411 ≠ gb398)); clear HO_337005 HO_347005 HO_357005 HO_368005 HO_378005 HO_389005 HO_399005 HO407 HO410 BK326 BK336 BK346 BK356 BK367 BK377 BK388 BK398 HB; have HO_337005 := n0_; have HO_347005 := n1_; have HO_357005 := n2_; have HO_368005 := n3_; have HO_378005 := n4_; have HO_389005 := n5_; have HO_399005 := n6_; have HO407 := n7_; have HO410 := n8_; have BK326 := n9_; have BK336 := n10_; have BK346 := n11_; have BK356 := n12_; have BK367 := n13_; have BK377 := n14_; have BK388 := n15_; have BK398 := n16_; have HB := n17_; have BK411 := n18_; have GW411 := n19_; have GE411 := n20_; have NB326_411 := n21_; have NB411_326 := n22_; have NB336_411 := n23_; have NB411_336 := n24_; have NB346_411 := n25_; have NB411_346 := n26_; have NB356_411 := n27_; have NB411_356 := n28_; have NB367_411 := n29_; have NB411_367 := n30_; have NB377_411 := n31_; have NB411_377 := n32_; have NB388_411 := n33_; have NB411_388 := n34_; have NB398_411 := n35_; have NB411_398 := n36_; clear n0_ n1_ n2_ n3_ n4_ n5_ n6_ n7_ n8_ n9_ n10_ n11_ n12_ n13_ n14_ n15_ n16_ n17_ n18_ n19_ n20_ n21_ n22_ n23_ n24_ n25_ n26_ n27_ n28_ n29_ n30_ n31_ n32_ n33_ n34_ n35_ n36_; clear hb hbox hg; have hnb185 := NB411_326.out; have hnc185 := NB326_411.out; have hnb186 := NB411_336.out; have hnc186 := NB336_411.out; have hnb187 := NB411_346.out; have hnc187 := NB346_411.out; have hnb188 := NB411_356.out; have hnc188 := NB356_411.out; have hnb189 := NB411_367.out; have hnc189 := NB367_411.out; have hnb190 := NB411_377.out; have hnc190 := NB377_411.out; have hnb191 := NB411_388.out; have hnc191 := NB388_411.out; have hnb192 := NB411_398.out; have hnc192 := NB398_411.out; obtain ⟨hcz193_0, hcz193_1, hcz193_2, hcz193_3, hcz193_4, hcz193_5, hfz193_0, hfz193_1, hfz193_2, hfz193_3, hfz193_4, hfz193_5⟩ := blk6 BK411; obtain ⟨hcz194_0, hcz194_1, hcz194_2, hcz194_3, hcz194_4, hcz194_5, hfz194_0, hfz194_1, hfz194_2, hfz194_3, hfz194_4, hfz194_5⟩ := blk6 BK326) | ((with_reducible refine gate_callee (f := 19) rfl ?_); refine goesL_ (some 109) rfl rfl Try.func19 (by kernel_rfl) rfl #[.agg #[.int .i64 a0_0, .int .i64 a0_1, .int .i64 a0_2, .int .i64 a0_3, .int .i64 a0_4, .slice A0_5 l0_5.length c0_5]] rfl (by (try simp only [List.map_toArray, List.map_cons, List.map_nil]); first | done | rfl | (simp only [List.length_drop, List.length_take]; rfl)) ?_; (with_reducible refine (drydockref17_Clear.calls kj106 a0_0 a0_1 a0_2 a0_3 a0_4 _ _ l0_5 t412 t413 t414 t415 t416 t417 t420 _ ?side1 ?side2 A171.out).mono ?_); (case side1 => exact Kd.C_below HR0_5.out bs_); (case side2 => exact HC0_5.out); rintro e w195 ⟨v418, v421, rfl, ho0, ho1, hb⟩; refine ⟨_, rfl, ?_⟩; have n0_ := Aside0.mk (Kd.R_elder' (by (with_reducible repeat (first | apply Kd.R_alloc | apply Kd.R_drewN | apply Kd.R_drew)); exact (Kd.R_mono (far6 gb411 (Kd.R_types HO_337005.out BK411.out (by decide)) (fun _ hk => hk.2)) (fun _ h_ => h_.1))) (Kd.R_base ho0) hb); have n1_ := Aside0.mk (Kd.R_elder' (by (with_reducible repeat (first | apply Kd.R_alloc | apply Kd.R_drewN | apply Kd.R_drew)); exact (Kd.R_mono (far6 gb411 (Kd.R_types HO_347005.out BK411.out (by decide)) (fun _ hk => hk.2)) (fun _ h_ => h_.1))) (Kd.R_base ho0) hb); have n2_ := Aside0.mk (Kd.R_elder' (by (with_reducible repeat (first | apply Kd.R_alloc | apply Kd.R_drewN | apply Kd.R_drew)); exact (Kd.R_mono (far6 gb411 (Kd.R_types HO_357005.out BK411.out (by decide)) (fun _ hk => hk.2)) (fun _ h_ => h_.1))) (Kd.R_base ho0) hb); have n3_ := Aside0.mk (Kd.R_elder' (by (with_reducible repeat (first | apply Kd.R_alloc | apply Kd.R_drewN | apply Kd.R_drew)); exact (Kd.R_mono (far6 gb411 (Kd.R_types HO_368005.out BK411.out (by decide)) (fun _ hk => hk.2)) (fun _ h_ => h_.1))) (Kd.R_base ho0) hb); have n4_ := Aside0.mk (Kd.R_elder' (by (with_reducible repeat (first | apply Kd.R_alloc | apply Kd.R_drewN | apply Kd.R_drew)); exact (Kd.R_mono (far6 gb411 (Kd.R_types HO_378005.out BK411.out (by decide)) (fun _ hk => hk.2)) (fun _ h_ => h_.1))) (Kd.R_base ho0) hb); have n5_ := Aside0.mk (Kd.R_elder' (by (with_reducible repeat (first | apply Kd.R_alloc | apply Kd.R_drewN | apply Kd.R_drew)); exact (Kd.R_mono (far6 gb411 (Kd.R_types HO_389005.out BK411.out (by decide)) (fun _ hk => hk.2)) (fun _ h_ => h_.1))) (Kd.R_base ho0) hb); have n6_ := Aside0.mk (Kd.R_elder' (by (with_reducible repeat (first | apply Kd.R_alloc | apply Kd.R_drewN | apply Kd.R_drew)); exact (Kd.R_mono (far6 gb411 (Kd.R_types HO_399005.out BK411.out (by decide)) (fun _ hk => hk.2)) (fun _ h_ => h_.1))) (Kd.R_base ho0) hb); have n7_ := Aside0.mk (Kd.R_elder' (by (with_reducible repeat (first | apply Kd.R_alloc | apply Kd.R_drewN | apply Kd.R_drew)); exact (Kd.R_mono (far6 gb411 (Kd.R_types HO407.out BK411.out (by decide)) (fun _ hk => hk.2)) (fun _ h_ => h_.1))) (Kd.R_base ho0) hb); have n8_ := Aside0.mk (Kd.R_elder' (by (with_reducible repeat (first | apply Kd.R_alloc | apply Kd.R_drewN | apply Kd.R_drew)); exact (Kd.R_mono (far6 gb411 (Kd.R_types HO410.out BK411.out (by decide)) (fun _ hk => hk.2)) (fun _ h_ => h_.1))) (Kd.R_base ho1) hb); have n9_ := Aside0.mk (Kd.R_lower (Kd.R_new' (Kd.R_new' (Kd.R_new' (Kd.R_new' (Kd.R_new' (Kd.R_new' (Kd.R_new' (Kd.R_new' ho0 (Kd.R_lt (by (with_reducible repeat (first | apply Kd.R_alloc | apply Kd.R_drewN | apply Kd.R_drew)); exact (Kd.R_mono (far6 gb411 (Kd.R_types HO_337005.out BK411.out (by decide)) (fun _ hk => hk.2)) (fun _ h_ => h_.1))))) (Kd.R_lt (by (with_reducible repeat (first | apply Kd.R_alloc | apply Kd.R_drewN | apply Kd.R_drew)); exact (Kd.R_mono (far6 gb411 (Kd.R_types HO_347005.out BK411.out (by decide)) (fun _ hk => hk.2)) (fun _ h_ => h_.1))))) (Kd.R_lt (by (with_reducible repeat (first | apply Kd.R_alloc | apply Kd.R_drewN | apply Kd.R_drew)); exact (Kd.R_mono (far6 gb411 (Kd.R_types HO_357005.out BK411.out (by decide)) (fun _ hk => hk.2)) (fun _ h_ => h_.1))))) (Kd.R_lt (by (with_reducible repeat (first | apply Kd.R_alloc | apply Kd.R_drewN | apply Kd.R_drew)); exact (Kd.R_mono (far6 gb411 (Kd.R_types HO_368005.out BK411.out (by decide)) (fun _ hk => hk.2)) (fun _ h_ => h_.1))))) (Kd.R_lt (by (with_reducible repeat (first | apply Kd.R_alloc | apply Kd.R_drewN | apply Kd.R_drew)); exact (Kd.R_mono (far6 gb411 (Kd.R_types HO_378005.out BK411.out (by decide)) (fun _ hk => hk.2)) (fun _ h_ => h_.1))))) (Kd.R_lt (by (with_reducible repeat (first | apply Kd.R_alloc | apply Kd.R_drewN | apply Kd.R_drew)); exact (Kd.R_mono (far6 gb411 (Kd.R_types HO_389005.out BK411.out (by decide)) (fun _ hk => hk.2)) (fun _ h_ => h_.1))))) (Kd.R_lt (by (with_reducible repeat (first | apply Kd.R_alloc | apply Kd.R_drewN | apply Kd.R_drew)); exact (Kd.R_mono (far6 gb411 (Kd.R_types HO_399005.out BK411.out (by decide)) (fun _ hk => hk.2)) (fun _ h_ => h_.1))))) (Kd.R_lt (by (with_reducible repeat (first | apply Kd.R_alloc | apply Kd.R_drewN | apply Kd.R_drew)); exact (Kd.R_mono (far6 gb411 (Kd.R_types HO407.out BK411.out (by decide)) (fun _ hk => hk.2)) (fun _ h_ => h_.1))))) (below_size bs_)); have n10_ := Aside0.mk (Kd.R_lower (Kd.R_new' ho1 (Kd.R_lt (by (with_reducible repeat (first | apply Kd.R_alloc | apply Kd.R_drewN | apply Kd.R_drew)); exact (Kd.R_mono (far6 gb411 (Kd.R_types HO410.out BK411.out (by decide)) (fun _ hk => hk.2)) (fun _ h_ => h_.1))))) (below_size bs_)); have n11_ := Aside0.mk (blk_below (bf_ BK326) hb); have n12_ := Aside0.mk (blk_below (bf_ BK336) hb); have n13_ := Aside0.mk (blk_below (bf_ BK346) hb); have n14_ := Aside0.mk (blk_below (bf_ BK356) hb); have n15_ := Aside0.mk (blk_below (bf_ BK367) hb); have n16_ := Aside0.mk (blk_below (bf_ BK377) hb); have n17_ := Aside0.mk (blk_below (bf_ BK388) hb); have n18_ := Aside0.mk (blk_below (bf_ BK398) hb); have n19_ := Aside0.mk (blk_below (bp_ (o := .cells #[.int .i64 t400, .int .i64 t401, .int .i64 t402, .int .i64 t403, .int .i64 t404, .slice Ao183 t405.length co183] 25 (0, 0)) BK411) hb); have n20_ := Aside0.mk (below_step bs_ hb); clear HO_337005 HO_347005 HO_357005 HO_368005 HO_378005 HO_389005 HO_399005 HO407 HO410 BK326 BK336 BK346 BK356 BK367 BK377 BK388 BK398 BK411 HB; have HO_337005 := n0_; have HO_347005 := n1_; have HO_357005 := n2_; have HO_368005 := n3_; have HO_378005 := n4_; have HO_389005 := n5_; have HO_399005 := n6_; have HO407 := n7_; have HO410 := n8_; have HO419 := n9_; have HO422 := n10_; have BK326 := n11_; have BK336 := n12_; have BK346 := n13_; have BK356 := n14_; have BK367 := n15_; have BK377 := n16_; have BK388 := n17_; have BK398 := n18_; have BK411 := n19_; have HB := n20_; clear n0_ n1_ n2_ n3_ n4_ n5_ n6_ n7_ n8_ n9_ n10_ n11_ n12_ n13_ n14_ n15_ n16_ n17_ n18_ n19_ n20_; (try clear hb); (try clear hb2); (try clear hk); (try clear hi); (try clear ho0); (try clear ho1); obtain ⟨Ao196, co196, eo196⟩ := Kd.R_slice HO422.out; subst eo196; obtain ⟨Ao197, co197, eo197⟩ := Kd.R_slice HO419.out; subst eo197) | ((with_reducible refine gate_dst (N := 26) rfl ?_); (try (refine gate_guard (by rfl) ?_; dsimp only)); refine box_event ?hg (N := 26) ?hd (cs := #[.int .i64 0, .int .i64 0, .int .i64 0, .int .i64 0, .int .i64 0, .slice none 0 0]) (t := 25) ?hr ?_; (case hd => rfl); (case hg => rfl); (case hr => first | (go_simp; done) | (go_simp; rfl)); intro gb423 hg w198 hbox hb; have n0_ := Aside0.mk (Kd.R_below (rk_ HO_337005) hb); have n1_ := Aside0.mk (Kd.R_below (rk_ HO_347005) hb); have n2_ := Aside0.mk (Kd.R_below (rk_ HO_357005) hb); have n3_ := Aside0.mk (Kd.R_below (rk_ HO_368005) hb); have n4_ := Aside0.mk (Kd.R_below (rk_ HO_378005) hb); have n5_ := Aside0.mk (Kd.R_below (rk_ HO_389005) hb); have n6_ := Aside0.mk (Kd.R_below (rk_ HO_399005) hb); have n7_ := Aside0.mk (Kd.R_below (rk_ HO407) hb); have n8_ := Aside0.mk (Kd.R_below (rk_ HO410) hb); have n9_ := Aside0.mk (Kd.R_below (rk_ HO419) hb); have n10_ := Aside0.mk (Kd.R_below (rk_ HO422) hb); have n11_ := Aside0.mk (blk_below (bk_ BK326) hb); have n12_ := Aside0.mk (blk_below (bk_ BK336) hb); have n13_ := Aside0.mk (blk_below (bk_ BK346) hb); have n14_ := Aside0.mk (blk_below (bk_ BK356) hb); have n15_ := Aside0.mk (blk_below (bk_ BK367) hb); have n16_ := Aside0.mk (blk_below (bk_ BK377) hb); have n17_ := Aside0.mk (blk_below (bk_ BK388) hb); have n18_ := Aside0.mk (blk_below (bk_ BK398) hb); have n19_ := Aside0.mk (blk_below (bk_ BK411) hb); have n20_ := Aside0.mk (below_step bs_ hb); have n21_ := Aside0.mk (hbox); have n22_ := Aside0.mk ((by rw [hg]; exact (below_size bs_) : w.heap.size ≤ gb423)); have n23_ := Aside0.mk ((by rw [hg]; exact (below_size bs_) : w.heap.size ≤ gb423)); have n24_ := Aside0.mk ((by rw [hg]; exact Nat.ne_of_lt (blk_lt (bk_ BK326)) : gb326 ≠ gb423)); have n25_ := Aside0.mk ((by rw [hg]; exact Nat.ne_of_gt (blk_lt (bk_ BK326)) : gb423 ≠ gb326)); have n26_ := Aside0.mk ((by rw [hg]; exact Nat.ne_of_lt (blk_lt (bk_ BK336)) : gb336 ≠ gb423)); have n27_ := Aside0.mk ((by rw [hg]; exact Nat.ne_of_gt (blk_lt (bk_ BK336)) : gb423 ≠ gb336)); have n28_ := Aside0.mk ((by rw [hg]; exact Nat.ne_of_lt (blk_lt (bk_ BK346)) : gb346 ≠ gb423)); have n29_ := Aside0.mk ((by rw [hg]; exact Nat.ne_of_gt (blk_lt (bk_ BK346)) : gb423 ≠ gb346)); have n30_ := Aside0.mk ((by rw [hg]; exact Nat.ne_of_lt (blk_lt (bk_ BK356)) : gb356 ≠ gb423)); have n31_ := Aside0.mk ((by rw [hg]; exact Nat.ne_of_gt (blk_lt (bk_ BK356)) : gb423 ≠ gb356)); have n32_ := Aside0.mk ((by rw [hg]; exact Nat.ne_of_lt (blk_lt (bk_ BK367)) : gb367 ≠ gb423)); have n33_ := Aside0.mk ((by rw [hg]; exact Nat.ne_of_gt (blk_lt (bk_ BK367)) : gb423 ≠ gb367)); have n34_ := Aside0.mk ((by rw [hg]; exact Nat.ne_of_lt (blk_lt (bk_ BK377)) : gb377 ≠ gb423)); have n35_ := Aside0.mk ((by rw [hg]; exact Nat.ne_of_gt (blk_lt (bk_ BK377)) : gb423 ≠ gb377)); have n36_ := Aside0.mk ((by rw [hg]; exact Nat.ne_of_lt (blk_lt (bk_ BK388)) : gb388 ≠ gb423)); have n37_ := Aside0.mk ((by rw [hg]; exact Nat.ne_of_gt (blk_lt (bk_ BK388)) : gb423 ≠ gb388)); have n38_ := Aside0.mk ((by rw [hg]; exact Nat.ne_of_lt (blk_lt (bk_ BK398)) : gb398 ≠ gb423)); have n39_ := Aside0.mk ((by rw [hg]; exact Nat.ne_of_gt (blk_lt (bk_ BK398)) : gb423 ≠ gb398)); have n40_ := Aside0.mk ((by rw [hg]; exact Nat.ne_of_lt (blk_lt (bk_ BK411)) : gb411 ≠ gb423)); have n41_ := Aside0.mk ((by rw [hg]; exact Nat.ne_of_gt (blk_lt (bk_ BK411)) : gb423 ≠ gb411)); clear HO_337005 HO_347005 HO_357005 HO_368005 HO_378005 HO_389005 HO_399005 HO407 HO410 HO419 HO422 BK326 BK336 BK346 BK356 BK367 BK377 BK388 BK398 BK411 HB; have HO_337005 := n0_; have HO_347005 := n1_; have HO_357005 := n2_; have HO_368005 := n3_; have HO_378005 := n4_; have HO_389005 := n5_; have HO_399005 := n6_; have HO407 := n7_; have HO410 := n8_; have HO419 := n9_; have HO422 := n10_; have BK326 := n11_; have BK336 := n12_; have BK346 := n13_; have BK356 := n14_; have BK367 := n15_; have BK377 := n16_; have BK388 := n17_; have BK398 := n18_; have BK411 := n19_; have HB := n20_; have BK423 := n21_; have GW423 := n22_; have GE423 := n23_; have NB326_423 := n24_; have NB423_326 := n25_; have NB336_423 := n26_; have NB423_336 := n27_; have NB346_423 := n28_; have NB423_346 := n29_; have NB356_423 := n30_; have NB423_356 := n31_; have NB367_423 := n32_; have NB423_367 := n33_; have NB377_423 := n34_; have NB423_377 := n35_; have NB388_423 := n36_; have NB423_388 := n37_; have NB398_423 := n38_; have NB423_398 := n39_; have NB411_423 := n40_; have NB423_411 := n41_; clear n0_ n1_ n2_ n3_ n4_ n5_ n6_ n7_ n8_ n9_ n10_ n11_ n12_ n13_ n14_ n15_ n16_ n17_ n18_ n19_ n20_ n21_ n22_ n23_ n24_ n25_ n26_ n27_ n28_ n29_ n30_ n31_ n32_ n33_ n34_ n35_ n36_ n37_ n38_ n39_ n40_ n41_; clear hb hbox hg; have hnb199 := NB423_326.out; have hnc199 := NB326_423.out; have hnb200 := NB423_336.out; have hnc200 := NB336_423.out; have hnb201 := NB423_346.out; have hnc201 := NB346_423.out; have hnb202 := NB423_356.out; have hnc202 := NB356_423.out; have hnb203 := NB423_367.out; have hnc203 := NB367_423.out; have hnb204 := NB423_377.out; have hnc204 := NB377_423.out; have hnb205 := NB423_388.out; have hnc205 := NB388_423.out; have hnb206 := NB423_398.out; have hnc206 := NB398_423.out; have hnb207 := NB423_411.out; have hnc207 := NB411_423.out; obtain ⟨hcz208_0, hcz208_1, hcz208_2, hcz208_3, hcz208_4, hcz208_5, hfz208_0, hfz208_1, hfz208_2, hfz208_3, hfz208_4, hfz208_5⟩ := blk6 BK423))
          (try simp only [Act.put, List.setIfInBounds_toArray, List.set_cons_zero, List.set_cons_succ])
          go_cut [28] (fun v28 wc => ∃ (kq : Nat) (x28_171 : Bool), v28 = .bool x28_171 ∧ Aside0 (drydocklaw17_EpochTells.j4 kq x13_13 x18_55 x23_106 x28_171 a0_0 a0_1 a0_2 a0_3 a0_4 l0_5 t328 t329 t330 t331 t332 t333 = some r) ∧ Aside0 (kq ≤ kj106) ∧ Aside0 (Kd.R k43 43 wc w.heap.size (fun k_ => some k_ ≠ ((.slice Ao23 t342.length co23) : Value).ownBlock ∧ some k_ ≠ ((.slice Ao30 t352.length co30) : Value).ownBlock ∧ some k_ ≠ ((.slice Ao62 t363.length co62) : Value).ownBlock ∧ some k_ ≠ ((.slice Ao71 t373.length co71) : Value).ownBlock ∧ some k_ ≠ ((.slice Ao115 t384.length co115) : Value).ownBlock ∧ some k_ ≠ ((.slice Ao126 t394.length co126) : Value).ownBlock ∧ some k_ ≠ ((.slice Ao183 t405.length co183) : Value).ownBlock ∧ some k_ ≠ ((.slice Ao197 t417.length co197) : Value).ownBlock) (.slice Ao17 t333.length co17) t333) ∧ Aside0 (Kd.R k43 43 wc w.heap.size (fun k_ => some k_ ≠ ((.slice Ao17 t333.length co17) : Value).ownBlock ∧ some k_ ≠ ((.slice Ao30 t352.length co30) : Value).ownBlock ∧ some k_ ≠ ((.slice Ao62 t363.length co62) : Value).ownBlock ∧ some k_ ≠ ((.slice Ao71 t373.length co71) : Value).ownBlock ∧ some k_ ≠ ((.slice Ao115 t384.length co115) : Value).ownBlock ∧ some k_ ≠ ((.slice Ao126 t394.length co126) : Value).ownBlock ∧ some k_ ≠ ((.slice Ao183 t405.length co183) : Value).ownBlock ∧ some k_ ≠ ((.slice Ao197 t417.length co197) : Value).ownBlock) (.slice Ao23 t342.length co23) t342) ∧ Aside0 (Kd.R k43 43 wc w.heap.size (fun k_ => some k_ ≠ ((.slice Ao17 t333.length co17) : Value).ownBlock ∧ some k_ ≠ ((.slice Ao23 t342.length co23) : Value).ownBlock ∧ some k_ ≠ ((.slice Ao62 t363.length co62) : Value).ownBlock ∧ some k_ ≠ ((.slice Ao71 t373.length co71) : Value).ownBlock ∧ some k_ ≠ ((.slice Ao115 t384.length co115) : Value).ownBlock ∧ some k_ ≠ ((.slice Ao126 t394.length co126) : Value).ownBlock ∧ some k_ ≠ ((.slice Ao183 t405.length co183) : Value).ownBlock ∧ some k_ ≠ ((.slice Ao197 t417.length co197) : Value).ownBlock) (.slice Ao30 t352.length co30) t352) ∧ Aside0 (Kd.R k43 43 wc w.heap.size (fun k_ => some k_ ≠ ((.slice Ao17 t333.length co17) : Value).ownBlock ∧ some k_ ≠ ((.slice Ao23 t342.length co23) : Value).ownBlock ∧ some k_ ≠ ((.slice Ao30 t352.length co30) : Value).ownBlock ∧ some k_ ≠ ((.slice Ao71 t373.length co71) : Value).ownBlock ∧ some k_ ≠ ((.slice Ao115 t384.length co115) : Value).ownBlock ∧ some k_ ≠ ((.slice Ao126 t394.length co126) : Value).ownBlock ∧ some k_ ≠ ((.slice Ao183 t405.length co183) : Value).ownBlock ∧ some k_ ≠ ((.slice Ao197 t417.length co197) : Value).ownBlock) (.slice Ao62 t363.length co62) t363) ∧ Aside0 (Kd.R k43 43 wc w.heap.size (fun k_ => some k_ ≠ ((.slice Ao17 t333.length co17) : Value).ownBlock ∧ some k_ ≠ ((.slice Ao23 t342.length co23) : Value).ownBlock ∧ some k_ ≠ ((.slice Ao30 t352.length co30) : Value).ownBlock ∧ some k_ ≠ ((.slice Ao62 t363.length co62) : Value).ownBlock ∧ some k_ ≠ ((.slice Ao115 t384.length co115) : Value).ownBlock ∧ some k_ ≠ ((.slice Ao126 t394.length co126) : Value).ownBlock ∧ some k_ ≠ ((.slice Ao183 t405.length co183) : Value).ownBlock ∧ some k_ ≠ ((.slice Ao197 t417.length co197) : Value).ownBlock) (.slice Ao71 t373.length co71) t373) ∧ Aside0 (Kd.R k43 43 wc w.heap.size (fun k_ => some k_ ≠ ((.slice Ao17 t333.length co17) : Value).ownBlock ∧ some k_ ≠ ((.slice Ao23 t342.length co23) : Value).ownBlock ∧ some k_ ≠ ((.slice Ao30 t352.length co30) : Value).ownBlock ∧ some k_ ≠ ((.slice Ao62 t363.length co62) : Value).ownBlock ∧ some k_ ≠ ((.slice Ao71 t373.length co71) : Value).ownBlock ∧ some k_ ≠ ((.slice Ao126 t394.length co126) : Value).ownBlock ∧ some k_ ≠ ((.slice Ao183 t405.length co183) : Value).ownBlock ∧ some k_ ≠ ((.slice Ao197 t417.length co197) : Value).ownBlock) (.slice Ao115 t384.length co115) t384) ∧ Aside0 (Kd.R k43 43 wc w.heap.size (fun k_ => some k_ ≠ ((.slice Ao17 t333.length co17) : Value).ownBlock ∧ some k_ ≠ ((.slice Ao23 t342.length co23) : Value).ownBlock ∧ some k_ ≠ ((.slice Ao30 t352.length co30) : Value).ownBlock ∧ some k_ ≠ ((.slice Ao62 t363.length co62) : Value).ownBlock ∧ some k_ ≠ ((.slice Ao71 t373.length co71) : Value).ownBlock ∧ some k_ ≠ ((.slice Ao115 t384.length co115) : Value).ownBlock ∧ some k_ ≠ ((.slice Ao183 t405.length co183) : Value).ownBlock ∧ some k_ ≠ ((.slice Ao197 t417.length co197) : Value).ownBlock) (.slice Ao126 t394.length co126) t394) ∧ Aside0 (Kd.R k43 43 wc w.heap.size (fun k_ => some k_ ≠ ((.slice Ao17 t333.length co17) : Value).ownBlock ∧ some k_ ≠ ((.slice Ao23 t342.length co23) : Value).ownBlock ∧ some k_ ≠ ((.slice Ao30 t352.length co30) : Value).ownBlock ∧ some k_ ≠ ((.slice Ao62 t363.length co62) : Value).ownBlock ∧ some k_ ≠ ((.slice Ao71 t373.length co71) : Value).ownBlock ∧ some k_ ≠ ((.slice Ao115 t384.length co115) : Value).ownBlock ∧ some k_ ≠ ((.slice Ao126 t394.length co126) : Value).ownBlock ∧ some k_ ≠ ((.slice Ao197 t417.length co197) : Value).ownBlock) (.slice Ao183 t405.length co183) t405) ∧ Aside0 (Kd.R k43 43 wc w.heap.size (fun k_ => some k_ ≠ ((.slice Ao17 t333.length co17) : Value).ownBlock ∧ some k_ ≠ ((.slice Ao23 t342.length co23) : Value).ownBlock ∧ some k_ ≠ ((.slice Ao30 t352.length co30) : Value).ownBlock ∧ some k_ ≠ ((.slice Ao62 t363.length co62) : Value).ownBlock ∧ some k_ ≠ ((.slice Ao71 t373.length co71) : Value).ownBlock ∧ some k_ ≠ ((.slice Ao115 t384.length co115) : Value).ownBlock ∧ some k_ ≠ ((.slice Ao126 t394.length co126) : Value).ownBlock ∧ some k_ ≠ ((.slice Ao183 t405.length co183) : Value).ownBlock) (.slice Ao197 t417.length co197) t417) ∧ Aside0 (wc.heap[gb326]? = some (.cells #[.int .i64 a0_0, .int .i64 a0_1, .int .i64 a0_2, .int .i64 a0_3, .int .i64 a0_4, (.slice A0_5 l0_5.length c0_5)] 25 (0, 0))) ∧ Aside0 (wc.heap[gb336]? = some (.cells #[.int .i64 t328, .int .i64 t329, .int .i64 t330, .int .i64 t331, .int .i64 t332, (.slice Ao17 t333.length co17)] 25 (0, 0))) ∧ Aside0 (wc.heap[gb346]? = some (.cells #[.int .i64 t337, .int .i64 t338, .int .i64 t339, .int .i64 t340, .int .i64 t341, (.slice Ao23 t342.length co23)] 25 (0, 0))) ∧ Aside0 (wc.heap[gb356]? = some (.cells #[.int .i64 t347, .int .i64 t348, .int .i64 t349, .int .i64 t350, .int .i64 t351, (.slice Ao30 t352.length co30)] 25 (0, 0))) ∧ Aside0 (wc.heap[gb367]? = some (.cells #[.int .i64 t358, .int .i64 t359, .int .i64 t360, .int .i64 t361, .int .i64 t362, (.slice Ao62 t363.length co62)] 25 (0, 0))) ∧ Aside0 (wc.heap[gb377]? = some (.cells #[.int .i64 t368, .int .i64 t369, .int .i64 t370, .int .i64 t371, .int .i64 t372, (.slice Ao71 t373.length co71)] 25 (0, 0))) ∧ Aside0 (wc.heap[gb388]? = some (.cells #[.int .i64 t379, .int .i64 t380, .int .i64 t381, .int .i64 t382, .int .i64 t383, (.slice Ao115 t384.length co115)] 25 (0, 0))) ∧ Aside0 (wc.heap[gb398]? = some (.cells #[.int .i64 t389, .int .i64 t390, .int .i64 t391, .int .i64 t392, .int .i64 t393, (.slice Ao126 t394.length co126)] 25 (0, 0))) ∧ Aside0 (wc.heap[gb411]? = some (.cells #[.int .i64 t400, .int .i64 t401, .int .i64 t402, .int .i64 t403, .int .i64 t404, (.slice Ao183 t405.length co183)] 25 (0, 0))) ∧ Aside0 (wc.heap[gb423]? = some (.cells #[.int .i64 t412, .int .i64 t413, .int .i64 t414, .int .i64 t415, .int .i64 t416, (.slice Ao197 t417.length co197)] 25 (0, 0))) ∧ Aside0 (Below w.heap.size w wc))
          case first =>
           have H := HC172.out
           clear HC172
           replace H := Option.bind_eq_some_iff.mp H
           obtain ⟨t424, A2090, H⟩ := H
           replace H : (if t424 = true then ((drydockref01_Ints.f kj106 t408 t420).bind fun t425 => (drydocklaw17_EpochTells.j4 kj106 x13_13 x18_55 x23_106 t425 a0_0 a0_1 a0_2 a0_3 a0_4 l0_5 t328 t329 t330 t331 t332 t333)) else (drydocklaw17_EpochTells.j4 kj106 x13_13 x18_55 x23_106 false a0_0 a0_1 a0_2 a0_3 a0_4 l0_5 t328 t329 t330 t331 t332 t333)) = some r := H
           have A209 := Aside0.mk A2090
           clear A2090
           by_cases c210 : t424 = true
           ·subst c210
            have H1 : ((drydockref01_Ints.f kj106 t408 t420).bind fun t425 => (drydocklaw17_EpochTells.j4 kj106 x13_13 x18_55 x23_106 t425 a0_0 a0_1 a0_2 a0_3 a0_4 l0_5 t328 t329 t330 t331 t332 t333)) = some r := by rw [if_pos rfl] at H; exact H
            clear H
            have H := H1
            clear H1
            replace H := Option.bind_eq_some_iff.mp H
            obtain ⟨t425, A2110, H⟩ := H
            replace H : (drydocklaw17_EpochTells.j4 kj106 x13_13 x18_55 x23_106 t425 a0_0 a0_1 a0_2 a0_3 a0_4 l0_5 t328 t329 t330 t331 t332 t333) = some r := H
            have A211 := Aside0.mk A2110
            clear A2110
            have H' := Aside0.mk H
            clear H
            have hnb212 := NB411_326.out
            have hnc212 := NB326_411.out
            have hnb213 := NB411_336.out
            have hnc213 := NB336_411.out
            have hnb214 := NB411_346.out
            have hnc214 := NB346_411.out
            have hnb215 := NB411_356.out
            have hnc215 := NB356_411.out
            have hnb216 := NB411_367.out
            have hnc216 := NB367_411.out
            have hnb217 := NB411_377.out
            have hnc217 := NB377_411.out
            have hnb218 := NB411_388.out
            have hnc218 := NB388_411.out
            have hnb219 := NB411_398.out
            have hnc219 := NB398_411.out
            have hnb220 := NB411_423.out
            have hnc220 := NB423_411.out
            obtain ⟨hcz221_0, hcz221_1, hcz221_2, hcz221_3, hcz221_4, hcz221_5, hfz221_0, hfz221_1, hfz221_2, hfz221_3, hfz221_4, hfz221_5⟩ := blk6 BK411
            have hnb222 := NB423_326.out
            have hnc222 := NB326_423.out
            have hnb223 := NB423_336.out
            have hnc223 := NB336_423.out
            have hnb224 := NB423_346.out
            have hnc224 := NB346_423.out
            have hnb225 := NB423_356.out
            have hnc225 := NB356_423.out
            have hnb226 := NB423_367.out
            have hnc226 := NB367_423.out
            have hnb227 := NB423_377.out
            have hnc227 := NB377_423.out
            have hnb228 := NB423_388.out
            have hnc228 := NB388_423.out
            have hnb229 := NB423_398.out
            have hnc229 := NB398_423.out
            obtain ⟨hcz230_0, hcz230_1, hcz230_2, hcz230_3, hcz230_4, hcz230_5, hfz230_0, hfz230_1, hfz230_2, hfz230_3, hfz230_4, hfz230_5⟩ := blk6 BK423
            go_wp2_with (first | ((with_reducible refine gate_callee (f := 13) rfl ?_); refine goesL_ (some 114) rfl rfl Try.func13 (by kernel_rfl) rfl #[.agg #[.int .i64 t400, .int .i64 t401, .int .i64 t402, .int .i64 t403, .int .i64 t404, .slice Ao183 t405.length co183], .agg #[.int .i64 t412, .int .i64 t413, .int .i64 t414, .int .i64 t415, .int .i64 t416, .slice Ao197 t417.length co197]] rfl (by (try simp only [List.map_toArray, List.map_cons, List.map_nil]); first | done | rfl | (simp only [List.length_drop, List.length_take]; rfl)) ?_; (with_reducible refine (drydockref17_Same.calls kj106 t400 t401 t402 t403 t404 _ _ t405 t412 t413 t414 t415 t416 _ _ t417 true _ ?side1 ?side2 ?side3 ?side4 A209.out).mono ?_); (case side1 => refine (Kd.R_reads' (e := 43) (base := w.heap.size) (ok := fun k_ => ((((((((True ∧ some k_ ≠ (.slice Ao17 t333.length co17 : Value).ownBlock) ∧ some k_ ≠ (.slice Ao23 t342.length co23 : Value).ownBlock) ∧ some k_ ≠ (.slice Ao30 t352.length co30 : Value).ownBlock) ∧ some k_ ≠ (.slice Ao62 t363.length co62 : Value).ownBlock) ∧ some k_ ≠ (.slice Ao71 t373.length co71 : Value).ownBlock) ∧ some k_ ≠ (.slice Ao115 t384.length co115 : Value).ownBlock) ∧ some k_ ≠ (.slice Ao126 t394.length co126 : Value).ownBlock) ∧ some k_ ≠ (.slice Ao197 t417.length co197 : Value).ownBlock)) (n := t405.length) (c := co183) ?_).2.2; exact (by (with_reducible repeat (first | apply Kd.R_alloc | apply Kd.R_drewN | apply Kd.R_drew)); exact (Kd.R_mono (far6 gb423 (Kd.R_types HO407.out BK423.out (by decide)) (fun _ hk => hk.2)) (fun _ h_ => h_.1)))); (case side2 => exact (Kd.R_reads' HO407.out).2.1); (case side3 => refine (Kd.R_reads' (e := 43) (base := w.heap.size) (ok := fun k_ => ((((((((True ∧ some k_ ≠ (.slice Ao17 t333.length co17 : Value).ownBlock) ∧ some k_ ≠ (.slice Ao23 t342.length co23 : Value).ownBlock) ∧ some k_ ≠ (.slice Ao30 t352.length co30 : Value).ownBlock) ∧ some k_ ≠ (.slice Ao62 t363.length co62 : Value).ownBlock) ∧ some k_ ≠ (.slice Ao71 t373.length co71 : Value).ownBlock) ∧ some k_ ≠ (.slice Ao115 t384.length co115 : Value).ownBlock) ∧ some k_ ≠ (.slice Ao126 t394.length co126 : Value).ownBlock) ∧ some k_ ≠ (.slice Ao183 t405.length co183 : Value).ownBlock)) (n := t417.length) (c := co197) ?_).2.2; exact (by (with_reducible repeat (first | apply Kd.R_alloc | apply Kd.R_drewN | apply Kd.R_drew)); exact (Kd.R_mono (far6 gb423 (Kd.R_types HO419.out BK423.out (by decide)) (fun _ hk => hk.2)) (fun _ h_ => h_.1)))); (case side4 => exact (Kd.R_reads' HO419.out).2.1); rintro e w231 ⟨rfl, hb⟩; refine ⟨_, rfl, ?_⟩; have n0_ := Aside0.mk (Kd.R_below (by (with_reducible repeat (first | apply Kd.R_alloc | apply Kd.R_drewN | apply Kd.R_drew)); exact (Kd.R_mono (far6 gb423 (Kd.R_types HO_337005.out BK423.out (by decide)) (fun _ hk => hk.2)) (fun _ h_ => h_.1))) hb); have n1_ := Aside0.mk (Kd.R_below (by (with_reducible repeat (first | apply Kd.R_alloc | apply Kd.R_drewN | apply Kd.R_drew)); exact (Kd.R_mono (far6 gb423 (Kd.R_types HO_347005.out BK423.out (by decide)) (fun _ hk => hk.2)) (fun _ h_ => h_.1))) hb); have n2_ := Aside0.mk (Kd.R_below (by (with_reducible repeat (first | apply Kd.R_alloc | apply Kd.R_drewN | apply Kd.R_drew)); exact (Kd.R_mono (far6 gb423 (Kd.R_types HO_357005.out BK423.out (by decide)) (fun _ hk => hk.2)) (fun _ h_ => h_.1))) hb); have n3_ := Aside0.mk (Kd.R_below (by (with_reducible repeat (first | apply Kd.R_alloc | apply Kd.R_drewN | apply Kd.R_drew)); exact (Kd.R_mono (far6 gb423 (Kd.R_types HO_368005.out BK423.out (by decide)) (fun _ hk => hk.2)) (fun _ h_ => h_.1))) hb); have n4_ := Aside0.mk (Kd.R_below (by (with_reducible repeat (first | apply Kd.R_alloc | apply Kd.R_drewN | apply Kd.R_drew)); exact (Kd.R_mono (far6 gb423 (Kd.R_types HO_378005.out BK423.out (by decide)) (fun _ hk => hk.2)) (fun _ h_ => h_.1))) hb); have n5_ := Aside0.mk (Kd.R_below (by (with_reducible repeat (first | apply Kd.R_alloc | apply Kd.R_drewN | apply Kd.R_drew)); exact (Kd.R_mono (far6 gb423 (Kd.R_types HO_389005.out BK423.out (by decide)) (fun _ hk => hk.2)) (fun _ h_ => h_.1))) hb); have n6_ := Aside0.mk (Kd.R_below (by (with_reducible repeat (first | apply Kd.R_alloc | apply Kd.R_drewN | apply Kd.R_drew)); exact (Kd.R_mono (far6 gb423 (Kd.R_types HO_399005.out BK423.out (by decide)) (fun _ hk => hk.2)) (fun _ h_ => h_.1))) hb); have n7_ := Aside0.mk (Kd.R_below (by (with_reducible repeat (first | apply Kd.R_alloc | apply Kd.R_drewN | apply Kd.R_drew)); exact (Kd.R_mono (far6 gb423 (Kd.R_types HO407.out BK423.out (by decide)) (fun _ hk => hk.2)) (fun _ h_ => h_.1))) hb); have n8_ := Aside0.mk (Kd.R_below (by (with_reducible repeat (first | apply Kd.R_alloc | apply Kd.R_drewN | apply Kd.R_drew)); exact (Kd.R_mono (far6 gb423 (Kd.R_types HO410.out BK423.out (by decide)) (fun _ hk => hk.2)) (fun _ h_ => h_.1))) hb); have n9_ := Aside0.mk (Kd.R_below (by (with_reducible repeat (first | apply Kd.R_alloc | apply Kd.R_drewN | apply Kd.R_drew)); exact (Kd.R_mono (far6 gb423 (Kd.R_types HO419.out BK423.out (by decide)) (fun _ hk => hk.2)) (fun _ h_ => h_.1))) hb); have n10_ := Aside0.mk (Kd.R_below (by (with_reducible repeat (first | apply Kd.R_alloc | apply Kd.R_drewN | apply Kd.R_drew)); exact (Kd.R_mono (far6 gb423 (Kd.R_types HO422.out BK423.out (by decide)) (fun _ hk => hk.2)) (fun _ h_ => h_.1))) hb); have n11_ := Aside0.mk (blk_below (bf_ BK326) hb); have n12_ := Aside0.mk (blk_below (bf_ BK336) hb); have n13_ := Aside0.mk (blk_below (bf_ BK346) hb); have n14_ := Aside0.mk (blk_below (bf_ BK356) hb); have n15_ := Aside0.mk (blk_below (bf_ BK367) hb); have n16_ := Aside0.mk (blk_below (bf_ BK377) hb); have n17_ := Aside0.mk (blk_below (bf_ BK388) hb); have n18_ := Aside0.mk (blk_below (bf_ BK398) hb); have n19_ := Aside0.mk (blk_below (bf_ BK411) hb); have n20_ := Aside0.mk (blk_below (bp_ (o := .cells #[.int .i64 t412, .int .i64 t413, .int .i64 t414, .int .i64 t415, .int .i64 t416, .slice Ao197 t417.length co197] 25 (0, 0)) BK423) hb); have n21_ := Aside0.mk (below_step bs_ hb); clear HO_337005 HO_347005 HO_357005 HO_368005 HO_378005 HO_389005 HO_399005 HO407 HO410 HO419 HO422 BK326 BK336 BK346 BK356 BK367 BK377 BK388 BK398 BK411 BK423 HB; have HO_337005 := n0_; have HO_347005 := n1_; have HO_357005 := n2_; have HO_368005 := n3_; have HO_378005 := n4_; have HO_389005 := n5_; have HO_399005 := n6_; have HO407 := n7_; have HO410 := n8_; have HO419 := n9_; have HO422 := n10_; have BK326 := n11_; have BK336 := n12_; have BK346 := n13_; have BK356 := n14_; have BK367 := n15_; have BK377 := n16_; have BK388 := n17_; have BK398 := n18_; have BK411 := n19_; have BK423 := n20_; have HB := n21_; clear n0_ n1_ n2_ n3_ n4_ n5_ n6_ n7_ n8_ n9_ n10_ n11_ n12_ n13_ n14_ n15_ n16_ n17_ n18_ n19_ n20_ n21_; (try clear hb); (try clear hb2); (try clear hk); (try clear hi)) | (go_at_call 20; (with_reducible refine (drydockref01_Ints.calls kj106 _ _ t408 _ _ t420 t425 _ ?side1 ?side2 ?side3 ?side4 A211.out).mono ?_); (case side1 => repeat (first | exact (Kd.R_reads' HO410.out).2.2 | (with_reducible refine Kd.C_alloc ?_ _) | (with_reducible refine Kd.C_drewN ?_ _) | (with_reducible refine Kd.C_drew ?_))); (case side2 => exact (Kd.R_reads' HO410.out).2.1); (case side3 => repeat (first | exact (Kd.R_reads' HO422.out).2.2 | (with_reducible refine Kd.C_alloc ?_ _) | (with_reducible refine Kd.C_drewN ?_ _) | (with_reducible refine Kd.C_drew ?_))); (case side4 => exact (Kd.R_reads' HO422.out).2.1); rintro e w' ⟨rfl, ⟨nd, rfl⟩⟩))
            go_meet
            case rel => exact ⟨_, (t425), eq_, H', ⟨by have := HJ4.out; have := HJ13.out; have := HJ55.out; have := HJ106.out; first | omega | exact Nat.le_refl _⟩, ⟨by (with_reducible repeat (first | apply Kd.R_alloc | apply Kd.R_drewN | apply Kd.R_drew)); exact Kd.R_mono HO_337005.out (fun _ hk => ⟨hk.1.1.1, ⟨hk.1.1.2.1, ⟨hk.1.1.2.2.1, ⟨hk.1.1.2.2.2.1, ⟨hk.1.1.2.2.2.2.1, ⟨hk.1.1.2.2.2.2.2, ⟨hk.1.2, hk.2⟩⟩⟩⟩⟩⟩⟩)⟩, ⟨by (with_reducible repeat (first | apply Kd.R_alloc | apply Kd.R_drewN | apply Kd.R_drew)); exact Kd.R_mono HO_347005.out (fun _ hk => ⟨hk.1.1.1, ⟨hk.1.1.2.1, ⟨hk.1.1.2.2.1, ⟨hk.1.1.2.2.2.1, ⟨hk.1.1.2.2.2.2.1, ⟨hk.1.1.2.2.2.2.2, ⟨hk.1.2, hk.2⟩⟩⟩⟩⟩⟩⟩)⟩, ⟨by (with_reducible repeat (first | apply Kd.R_alloc | apply Kd.R_drewN | apply Kd.R_drew)); exact Kd.R_mono HO_357005.out (fun _ hk => ⟨hk.1.1.1, ⟨hk.1.1.2.1, ⟨hk.1.1.2.2.1, ⟨hk.1.1.2.2.2.1, ⟨hk.1.1.2.2.2.2.1, ⟨hk.1.1.2.2.2.2.2, ⟨hk.1.2, hk.2⟩⟩⟩⟩⟩⟩⟩)⟩, ⟨by (with_reducible repeat (first | apply Kd.R_alloc | apply Kd.R_drewN | apply Kd.R_drew)); exact Kd.R_mono HO_368005.out (fun _ hk => ⟨hk.1.1.1, ⟨hk.1.1.2.1, ⟨hk.1.1.2.2.1, ⟨hk.1.1.2.2.2.1, ⟨hk.1.1.2.2.2.2.1, ⟨hk.1.1.2.2.2.2.2, ⟨hk.1.2, hk.2⟩⟩⟩⟩⟩⟩⟩)⟩, ⟨by (with_reducible repeat (first | apply Kd.R_alloc | apply Kd.R_drewN | apply Kd.R_drew)); exact Kd.R_mono HO_378005.out (fun _ hk => ⟨hk.1.1.1, ⟨hk.1.1.2.1, ⟨hk.1.1.2.2.1, ⟨hk.1.1.2.2.2.1, ⟨hk.1.1.2.2.2.2.1, ⟨hk.1.1.2.2.2.2.2, ⟨hk.1.2, hk.2⟩⟩⟩⟩⟩⟩⟩)⟩, ⟨by (with_reducible repeat (first | apply Kd.R_alloc | apply Kd.R_drewN | apply Kd.R_drew)); exact Kd.R_mono HO_389005.out (fun _ hk => ⟨hk.1.1.1, ⟨hk.1.1.2.1, ⟨hk.1.1.2.2.1, ⟨hk.1.1.2.2.2.1, ⟨hk.1.1.2.2.2.2.1, ⟨hk.1.1.2.2.2.2.2, ⟨hk.1.2, hk.2⟩⟩⟩⟩⟩⟩⟩)⟩, ⟨by (with_reducible repeat (first | apply Kd.R_alloc | apply Kd.R_drewN | apply Kd.R_drew)); exact Kd.R_mono HO_399005.out (fun _ hk => ⟨hk.1.1.1, ⟨hk.1.1.2.1, ⟨hk.1.1.2.2.1, ⟨hk.1.1.2.2.2.1, ⟨hk.1.1.2.2.2.2.1, ⟨hk.1.1.2.2.2.2.2, ⟨hk.1.2, hk.2⟩⟩⟩⟩⟩⟩⟩)⟩, ⟨by (with_reducible repeat (first | apply Kd.R_alloc | apply Kd.R_drewN | apply Kd.R_drew)); exact Kd.R_mono HO407.out (fun _ hk => ⟨hk.1.1.1.1.1.1.1.2, ⟨hk.1.1.1.1.1.1.2, ⟨hk.1.1.1.1.1.2, ⟨hk.1.1.1.1.2, ⟨hk.1.1.1.2, ⟨hk.1.1.2, ⟨hk.1.2, hk.2⟩⟩⟩⟩⟩⟩⟩)⟩, ⟨by (with_reducible repeat (first | apply Kd.R_alloc | apply Kd.R_drewN | apply Kd.R_drew)); exact Kd.R_mono HO419.out (fun _ hk => ⟨hk.1.1.1.1.1.1.1.2, ⟨hk.1.1.1.1.1.1.2, ⟨hk.1.1.1.1.1.2, ⟨hk.1.1.1.1.2, ⟨hk.1.1.1.2, ⟨hk.1.1.2, ⟨hk.1.2, hk.2⟩⟩⟩⟩⟩⟩⟩)⟩, ⟨bk_ BK326⟩, ⟨bk_ BK336⟩, ⟨bk_ BK346⟩, ⟨bk_ BK356⟩, ⟨bk_ BK367⟩, ⟨bk_ BK377⟩, ⟨bk_ BK388⟩, ⟨bk_ BK398⟩, ⟨bk_ BK411⟩, ⟨bk_ BK423⟩, ⟨bs_⟩⟩
           ·replace c210 := Bool.eq_false_iff.mpr c210
            subst c210
            have H1 : (drydocklaw17_EpochTells.j4 kj106 x13_13 x18_55 x23_106 false a0_0 a0_1 a0_2 a0_3 a0_4 l0_5 t328 t329 t330 t331 t332 t333) = some r := by rw [if_neg (show ¬ (false = true) by decide)] at H; exact H
            clear H
            have H := H1
            clear H1
            have H' := Aside0.mk H
            clear H
            have hnb232 := NB411_326.out
            have hnc232 := NB326_411.out
            have hnb233 := NB411_336.out
            have hnc233 := NB336_411.out
            have hnb234 := NB411_346.out
            have hnc234 := NB346_411.out
            have hnb235 := NB411_356.out
            have hnc235 := NB356_411.out
            have hnb236 := NB411_367.out
            have hnc236 := NB367_411.out
            have hnb237 := NB411_377.out
            have hnc237 := NB377_411.out
            have hnb238 := NB411_388.out
            have hnc238 := NB388_411.out
            have hnb239 := NB411_398.out
            have hnc239 := NB398_411.out
            have hnb240 := NB411_423.out
            have hnc240 := NB423_411.out
            obtain ⟨hcz241_0, hcz241_1, hcz241_2, hcz241_3, hcz241_4, hcz241_5, hfz241_0, hfz241_1, hfz241_2, hfz241_3, hfz241_4, hfz241_5⟩ := blk6 BK411
            have hnb242 := NB423_326.out
            have hnc242 := NB326_423.out
            have hnb243 := NB423_336.out
            have hnc243 := NB336_423.out
            have hnb244 := NB423_346.out
            have hnc244 := NB346_423.out
            have hnb245 := NB423_356.out
            have hnc245 := NB356_423.out
            have hnb246 := NB423_367.out
            have hnc246 := NB367_423.out
            have hnb247 := NB423_377.out
            have hnc247 := NB377_423.out
            have hnb248 := NB423_388.out
            have hnc248 := NB388_423.out
            have hnb249 := NB423_398.out
            have hnc249 := NB398_423.out
            obtain ⟨hcz250_0, hcz250_1, hcz250_2, hcz250_3, hcz250_4, hcz250_5, hfz250_0, hfz250_1, hfz250_2, hfz250_3, hfz250_4, hfz250_5⟩ := blk6 BK423
            go_wp2_with (first | ((with_reducible refine gate_callee (f := 13) rfl ?_); refine goesL_ (some 114) rfl rfl Try.func13 (by kernel_rfl) rfl #[.agg #[.int .i64 t400, .int .i64 t401, .int .i64 t402, .int .i64 t403, .int .i64 t404, .slice Ao183 t405.length co183], .agg #[.int .i64 t412, .int .i64 t413, .int .i64 t414, .int .i64 t415, .int .i64 t416, .slice Ao197 t417.length co197]] rfl (by (try simp only [List.map_toArray, List.map_cons, List.map_nil]); first | done | rfl | (simp only [List.length_drop, List.length_take]; rfl)) ?_; (with_reducible refine (drydockref17_Same.calls kj106 t400 t401 t402 t403 t404 _ _ t405 t412 t413 t414 t415 t416 _ _ t417 false _ ?side1 ?side2 ?side3 ?side4 A209.out).mono ?_); (case side1 => refine (Kd.R_reads' (e := 43) (base := w.heap.size) (ok := fun k_ => ((((((((True ∧ some k_ ≠ (.slice Ao17 t333.length co17 : Value).ownBlock) ∧ some k_ ≠ (.slice Ao23 t342.length co23 : Value).ownBlock) ∧ some k_ ≠ (.slice Ao30 t352.length co30 : Value).ownBlock) ∧ some k_ ≠ (.slice Ao62 t363.length co62 : Value).ownBlock) ∧ some k_ ≠ (.slice Ao71 t373.length co71 : Value).ownBlock) ∧ some k_ ≠ (.slice Ao115 t384.length co115 : Value).ownBlock) ∧ some k_ ≠ (.slice Ao126 t394.length co126 : Value).ownBlock) ∧ some k_ ≠ (.slice Ao197 t417.length co197 : Value).ownBlock)) (n := t405.length) (c := co183) ?_).2.2; exact (by (with_reducible repeat (first | apply Kd.R_alloc | apply Kd.R_drewN | apply Kd.R_drew)); exact (Kd.R_mono (far6 gb423 (Kd.R_types HO407.out BK423.out (by decide)) (fun _ hk => hk.2)) (fun _ h_ => h_.1)))); (case side2 => exact (Kd.R_reads' HO407.out).2.1); (case side3 => refine (Kd.R_reads' (e := 43) (base := w.heap.size) (ok := fun k_ => ((((((((True ∧ some k_ ≠ (.slice Ao17 t333.length co17 : Value).ownBlock) ∧ some k_ ≠ (.slice Ao23 t342.length co23 : Value).ownBlock) ∧ some k_ ≠ (.slice Ao30 t352.length co30 : Value).ownBlock) ∧ some k_ ≠ (.slice Ao62 t363.length co62 : Value).ownBlock) ∧ some k_ ≠ (.slice Ao71 t373.length co71 : Value).ownBlock) ∧ some k_ ≠ (.slice Ao115 t384.length co115 : Value).ownBlock) ∧ some k_ ≠ (.slice Ao126 t394.length co126 : Value).ownBlock) ∧ some k_ ≠ (.slice Ao183 t405.length co183 : Value).ownBlock)) (n := t417.length) (c := co197) ?_).2.2; exact (by (with_reducible repeat (first | apply Kd.R_alloc | apply Kd.R_drewN | apply Kd.R_drew)); exact (Kd.R_mono (far6 gb423 (Kd.R_types HO419.out BK423.out (by decide)) (fun _ hk => hk.2)) (fun _ h_ => h_.1)))); (case side4 => exact (Kd.R_reads' HO419.out).2.1); rintro e w251 ⟨rfl, hb⟩; refine ⟨_, rfl, ?_⟩; have n0_ := Aside0.mk (Kd.R_below (by (with_reducible repeat (first | apply Kd.R_alloc | apply Kd.R_drewN | apply Kd.R_drew)); exact (Kd.R_mono (far6 gb423 (Kd.R_types HO_337005.out BK423.out (by decide)) (fun _ hk => hk.2)) (fun _ h_ => h_.1))) hb); have n1_ := Aside0.mk (Kd.R_below (by (with_reducible repeat (first | apply Kd.R_alloc | apply Kd.R_drewN | apply Kd.R_drew)); exact (Kd.R_mono (far6 gb423 (Kd.R_types HO_347005.out BK423.out (by decide)) (fun _ hk => hk.2)) (fun _ h_ => h_.1))) hb); have n2_ := Aside0.mk (Kd.R_below (by (with_reducible repeat (first | apply Kd.R_alloc | apply Kd.R_drewN | apply Kd.R_drew)); exact (Kd.R_mono (far6 gb423 (Kd.R_types HO_357005.out BK423.out (by decide)) (fun _ hk => hk.2)) (fun _ h_ => h_.1))) hb); have n3_ := Aside0.mk (Kd.R_below (by (with_reducible repeat (first | apply Kd.R_alloc | apply Kd.R_drewN | apply Kd.R_drew)); exact (Kd.R_mono (far6 gb423 (Kd.R_types HO_368005.out BK423.out (by decide)) (fun _ hk => hk.2)) (fun _ h_ => h_.1))) hb); have n4_ := Aside0.mk (Kd.R_below (by (with_reducible repeat (first | apply Kd.R_alloc | apply Kd.R_drewN | apply Kd.R_drew)); exact (Kd.R_mono (far6 gb423 (Kd.R_types HO_378005.out BK423.out (by decide)) (fun _ hk => hk.2)) (fun _ h_ => h_.1))) hb); have n5_ := Aside0.mk (Kd.R_below (by (with_reducible repeat (first | apply Kd.R_alloc | apply Kd.R_drewN | apply Kd.R_drew)); exact (Kd.R_mono (far6 gb423 (Kd.R_types HO_389005.out BK423.out (by decide)) (fun _ hk => hk.2)) (fun _ h_ => h_.1))) hb); have n6_ := Aside0.mk (Kd.R_below (by (with_reducible repeat (first | apply Kd.R_alloc | apply Kd.R_drewN | apply Kd.R_drew)); exact (Kd.R_mono (far6 gb423 (Kd.R_types HO_399005.out BK423.out (by decide)) (fun _ hk => hk.2)) (fun _ h_ => h_.1))) hb); have n7_ := Aside0.mk (Kd.R_below (by (with_reducible repeat (first | apply Kd.R_alloc | apply Kd.R_drewN | apply Kd.R_drew)); exact (Kd.R_mono (far6 gb423 (Kd.R_types HO407.out BK423.out (by decide)) (fun _ hk => hk.2)) (fun _ h_ => h_.1))) hb); have n8_ := Aside0.mk (Kd.R_below (by (with_reducible repeat (first | apply Kd.R_alloc | apply Kd.R_drewN | apply Kd.R_drew)); exact (Kd.R_mono (far6 gb423 (Kd.R_types HO410.out BK423.out (by decide)) (fun _ hk => hk.2)) (fun _ h_ => h_.1))) hb); have n9_ := Aside0.mk (Kd.R_below (by (with_reducible repeat (first | apply Kd.R_alloc | apply Kd.R_drewN | apply Kd.R_drew)); exact (Kd.R_mono (far6 gb423 (Kd.R_types HO419.out BK423.out (by decide)) (fun _ hk => hk.2)) (fun _ h_ => h_.1))) hb); have n10_ := Aside0.mk (Kd.R_below (by (with_reducible repeat (first | apply Kd.R_alloc | apply Kd.R_drewN | apply Kd.R_drew)); exact (Kd.R_mono (far6 gb423 (Kd.R_types HO422.out BK423.out (by decide)) (fun _ hk => hk.2)) (fun _ h_ => h_.1))) hb); have n11_ := Aside0.mk (blk_below (bf_ BK326) hb); have n12_ := Aside0.mk (blk_below (bf_ BK336) hb); have n13_ := Aside0.mk (blk_below (bf_ BK346) hb); have n14_ := Aside0.mk (blk_below (bf_ BK356) hb); have n15_ := Aside0.mk (blk_below (bf_ BK367) hb); have n16_ := Aside0.mk (blk_below (bf_ BK377) hb); have n17_ := Aside0.mk (blk_below (bf_ BK388) hb); have n18_ := Aside0.mk (blk_below (bf_ BK398) hb); have n19_ := Aside0.mk (blk_below (bf_ BK411) hb); have n20_ := Aside0.mk (blk_below (bp_ (o := .cells #[.int .i64 t412, .int .i64 t413, .int .i64 t414, .int .i64 t415, .int .i64 t416, .slice Ao197 t417.length co197] 25 (0, 0)) BK423) hb); have n21_ := Aside0.mk (below_step bs_ hb); clear HO_337005 HO_347005 HO_357005 HO_368005 HO_378005 HO_389005 HO_399005 HO407 HO410 HO419 HO422 BK326 BK336 BK346 BK356 BK367 BK377 BK388 BK398 BK411 BK423 HB; have HO_337005 := n0_; have HO_347005 := n1_; have HO_357005 := n2_; have HO_368005 := n3_; have HO_378005 := n4_; have HO_389005 := n5_; have HO_399005 := n6_; have HO407 := n7_; have HO410 := n8_; have HO419 := n9_; have HO422 := n10_; have BK326 := n11_; have BK336 := n12_; have BK346 := n13_; have BK356 := n14_; have BK367 := n15_; have BK377 := n16_; have BK388 := n17_; have BK398 := n18_; have BK411 := n19_; have BK423 := n20_; have HB := n21_; clear n0_ n1_ n2_ n3_ n4_ n5_ n6_ n7_ n8_ n9_ n10_ n11_ n12_ n13_ n14_ n15_ n16_ n17_ n18_ n19_ n20_ n21_; (try clear hb); (try clear hb2); (try clear hk); (try clear hi)))
            go_meet
            case rel => exact ⟨_, (false), eq_, H', ⟨by have := HJ4.out; have := HJ13.out; have := HJ55.out; have := HJ106.out; first | omega | exact Nat.le_refl _⟩, ⟨by (with_reducible repeat (first | apply Kd.R_alloc | apply Kd.R_drewN | apply Kd.R_drew)); exact Kd.R_mono HO_337005.out (fun _ hk => ⟨hk.1.1.1, ⟨hk.1.1.2.1, ⟨hk.1.1.2.2.1, ⟨hk.1.1.2.2.2.1, ⟨hk.1.1.2.2.2.2.1, ⟨hk.1.1.2.2.2.2.2, ⟨hk.1.2, hk.2⟩⟩⟩⟩⟩⟩⟩)⟩, ⟨by (with_reducible repeat (first | apply Kd.R_alloc | apply Kd.R_drewN | apply Kd.R_drew)); exact Kd.R_mono HO_347005.out (fun _ hk => ⟨hk.1.1.1, ⟨hk.1.1.2.1, ⟨hk.1.1.2.2.1, ⟨hk.1.1.2.2.2.1, ⟨hk.1.1.2.2.2.2.1, ⟨hk.1.1.2.2.2.2.2, ⟨hk.1.2, hk.2⟩⟩⟩⟩⟩⟩⟩)⟩, ⟨by (with_reducible repeat (first | apply Kd.R_alloc | apply Kd.R_drewN | apply Kd.R_drew)); exact Kd.R_mono HO_357005.out (fun _ hk => ⟨hk.1.1.1, ⟨hk.1.1.2.1, ⟨hk.1.1.2.2.1, ⟨hk.1.1.2.2.2.1, ⟨hk.1.1.2.2.2.2.1, ⟨hk.1.1.2.2.2.2.2, ⟨hk.1.2, hk.2⟩⟩⟩⟩⟩⟩⟩)⟩, ⟨by (with_reducible repeat (first | apply Kd.R_alloc | apply Kd.R_drewN | apply Kd.R_drew)); exact Kd.R_mono HO_368005.out (fun _ hk => ⟨hk.1.1.1, ⟨hk.1.1.2.1, ⟨hk.1.1.2.2.1, ⟨hk.1.1.2.2.2.1, ⟨hk.1.1.2.2.2.2.1, ⟨hk.1.1.2.2.2.2.2, ⟨hk.1.2, hk.2⟩⟩⟩⟩⟩⟩⟩)⟩, ⟨by (with_reducible repeat (first | apply Kd.R_alloc | apply Kd.R_drewN | apply Kd.R_drew)); exact Kd.R_mono HO_378005.out (fun _ hk => ⟨hk.1.1.1, ⟨hk.1.1.2.1, ⟨hk.1.1.2.2.1, ⟨hk.1.1.2.2.2.1, ⟨hk.1.1.2.2.2.2.1, ⟨hk.1.1.2.2.2.2.2, ⟨hk.1.2, hk.2⟩⟩⟩⟩⟩⟩⟩)⟩, ⟨by (with_reducible repeat (first | apply Kd.R_alloc | apply Kd.R_drewN | apply Kd.R_drew)); exact Kd.R_mono HO_389005.out (fun _ hk => ⟨hk.1.1.1, ⟨hk.1.1.2.1, ⟨hk.1.1.2.2.1, ⟨hk.1.1.2.2.2.1, ⟨hk.1.1.2.2.2.2.1, ⟨hk.1.1.2.2.2.2.2, ⟨hk.1.2, hk.2⟩⟩⟩⟩⟩⟩⟩)⟩, ⟨by (with_reducible repeat (first | apply Kd.R_alloc | apply Kd.R_drewN | apply Kd.R_drew)); exact Kd.R_mono HO_399005.out (fun _ hk => ⟨hk.1.1.1, ⟨hk.1.1.2.1, ⟨hk.1.1.2.2.1, ⟨hk.1.1.2.2.2.1, ⟨hk.1.1.2.2.2.2.1, ⟨hk.1.1.2.2.2.2.2, ⟨hk.1.2, hk.2⟩⟩⟩⟩⟩⟩⟩)⟩, ⟨by (with_reducible repeat (first | apply Kd.R_alloc | apply Kd.R_drewN | apply Kd.R_drew)); exact Kd.R_mono HO407.out (fun _ hk => ⟨hk.1.1.1.1.1.1.1.2, ⟨hk.1.1.1.1.1.1.2, ⟨hk.1.1.1.1.1.2, ⟨hk.1.1.1.1.2, ⟨hk.1.1.1.2, ⟨hk.1.1.2, ⟨hk.1.2, hk.2⟩⟩⟩⟩⟩⟩⟩)⟩, ⟨by (with_reducible repeat (first | apply Kd.R_alloc | apply Kd.R_drewN | apply Kd.R_drew)); exact Kd.R_mono HO419.out (fun _ hk => ⟨hk.1.1.1.1.1.1.1.2, ⟨hk.1.1.1.1.1.1.2, ⟨hk.1.1.1.1.1.2, ⟨hk.1.1.1.1.2, ⟨hk.1.1.1.2, ⟨hk.1.1.2, ⟨hk.1.2, hk.2⟩⟩⟩⟩⟩⟩⟩)⟩, ⟨bk_ BK326⟩, ⟨bk_ BK336⟩, ⟨bk_ BK346⟩, ⟨bk_ BK356⟩, ⟨bk_ BK367⟩, ⟨bk_ BK377⟩, ⟨bk_ BK388⟩, ⟨bk_ BK398⟩, ⟨bk_ BK411⟩, ⟨bk_ BK423⟩, ⟨bs_⟩⟩
          case rest =>
           clear HC172
           try clear c10
           obtain ⟨kq, x28_171, rfl, HA, HJ171, HO_337005, HO_347005, HO_357005, HO_368005, HO_378005, HO_389005, HO_399005, HO_412005, HO_424005, BK326, BK336, BK346, BK356, BK367, BK377, BK388, BK398, BK411, BK423, HB⟩ := hcut
           cases kq with
           | zero => exact absurd HA.out (by simp [drydocklaw17_EpochTells.j4])
           | succ kj171 =>
            have H := HA.out
            clear HA
            simp only [drydocklaw17_EpochTells.j4] at H
            replace H := Option.bind_eq_some_iff.mp H
            obtain ⟨t426, A2520, H⟩ := H
            replace H : ((drydockref17_Ready.f kj171 a0_0 a0_1 a0_2 a0_3 a0_4 l0_5).bind fun t429 => ((drydockref01_Ints.f kj171 t426 t429).bind fun t432 => (if x13_13 = true then (if x18_55 = true then (if x23_106 = true then (if x28_171 = true then (if t432 = true then ((drydockref17_Same.f kj171 a0_0 a0_1 a0_2 a0_3 a0_4 l0_5 t328 t329 t330 t331 t332 t333).bind fun t433 => (if t433 = true then ((epoch_May.f kj171 a0_0 a0_1 a0_2 a0_3 a0_4 l0_5).bind fun t434 => ((drydockref17_May.f kj171 a0_0 a0_1 a0_2 a0_3 a0_4 l0_5).bind fun t435 => (some (t434 == t435)))) else (none))) else (none)) else (none)) else (none)) else (none)) else (none)))) = some r := H
            have A252 := Aside0.mk A2520
            clear A2520
            replace H := Option.bind_eq_some_iff.mp H
            obtain ⟨t429, A2530, H⟩ := H
            replace H : ((drydockref01_Ints.f kj171 t426 t429).bind fun t432 => (if x13_13 = true then (if x18_55 = true then (if x23_106 = true then (if x28_171 = true then (if t432 = true then ((drydockref17_Same.f kj171 a0_0 a0_1 a0_2 a0_3 a0_4 l0_5 t328 t329 t330 t331 t332 t333).bind fun t433 => (if t433 = true then ((epoch_May.f kj171 a0_0 a0_1 a0_2 a0_3 a0_4 l0_5).bind fun t434 => ((drydockref17_May.f kj171 a0_0 a0_1 a0_2 a0_3 a0_4 l0_5).bind fun t435 => (some (t434 == t435)))) else (none))) else (none)) else (none)) else (none)) else (none)) else (none))) = some r := H
            have A253 := Aside0.mk A2530
            clear A2530
            replace H := Option.bind_eq_some_iff.mp H
            obtain ⟨t432, A2540, H⟩ := H
            replace H : (if x13_13 = true then (if x18_55 = true then (if x23_106 = true then (if x28_171 = true then (if t432 = true then ((drydockref17_Same.f kj171 a0_0 a0_1 a0_2 a0_3 a0_4 l0_5 t328 t329 t330 t331 t332 t333).bind fun t433 => (if t433 = true then ((epoch_May.f kj171 a0_0 a0_1 a0_2 a0_3 a0_4 l0_5).bind fun t434 => ((drydockref17_May.f kj171 a0_0 a0_1 a0_2 a0_3 a0_4 l0_5).bind fun t435 => (some (t434 == t435)))) else (none))) else (none)) else (none)) else (none)) else (none)) else (none)) = some r := H
            have A254 := Aside0.mk A2540
            clear A2540
            by_cases c255 : x13_13 = true
            ·subst c255
             have H1 : (if x18_55 = true then (if x23_106 = true then (if x28_171 = true then (if t432 = true then ((drydockref17_Same.f kj171 a0_0 a0_1 a0_2 a0_3 a0_4 l0_5 t328 t329 t330 t331 t332 t333).bind fun t433 => (if t433 = true then ((epoch_May.f kj171 a0_0 a0_1 a0_2 a0_3 a0_4 l0_5).bind fun t434 => ((drydockref17_May.f kj171 a0_0 a0_1 a0_2 a0_3 a0_4 l0_5).bind fun t435 => (some (t434 == t435)))) else (none))) else (none)) else (none)) else (none)) else (none)) = some r := by rw [if_pos rfl] at H; exact H
             clear H
             have H := H1
             clear H1
             by_cases c256 : x18_55 = true
             ·subst c256
              have H1 : (if x23_106 = true then (if x28_171 = true then (if t432 = true then ((drydockref17_Same.f kj171 a0_0 a0_1 a0_2 a0_3 a0_4 l0_5 t328 t329 t330 t331 t332 t333).bind fun t433 => (if t433 = true then ((epoch_May.f kj171 a0_0 a0_1 a0_2 a0_3 a0_4 l0_5).bind fun t434 => ((drydockref17_May.f kj171 a0_0 a0_1 a0_2 a0_3 a0_4 l0_5).bind fun t435 => (some (t434 == t435)))) else (none))) else (none)) else (none)) else (none)) = some r := by rw [if_pos rfl] at H; exact H
              clear H
              have H := H1
              clear H1
              by_cases c257 : x23_106 = true
              ·subst c257
               have H1 : (if x28_171 = true then (if t432 = true then ((drydockref17_Same.f kj171 a0_0 a0_1 a0_2 a0_3 a0_4 l0_5 t328 t329 t330 t331 t332 t333).bind fun t433 => (if t433 = true then ((epoch_May.f kj171 a0_0 a0_1 a0_2 a0_3 a0_4 l0_5).bind fun t434 => ((drydockref17_May.f kj171 a0_0 a0_1 a0_2 a0_3 a0_4 l0_5).bind fun t435 => (some (t434 == t435)))) else (none))) else (none)) else (none)) = some r := by rw [if_pos rfl] at H; exact H
               clear H
               have H := H1
               clear H1
               by_cases c258 : x28_171 = true
               ·subst c258
                have H1 : (if t432 = true then ((drydockref17_Same.f kj171 a0_0 a0_1 a0_2 a0_3 a0_4 l0_5 t328 t329 t330 t331 t332 t333).bind fun t433 => (if t433 = true then ((epoch_May.f kj171 a0_0 a0_1 a0_2 a0_3 a0_4 l0_5).bind fun t434 => ((drydockref17_May.f kj171 a0_0 a0_1 a0_2 a0_3 a0_4 l0_5).bind fun t435 => (some (t434 == t435)))) else (none))) else (none)) = some r := by rw [if_pos rfl] at H; exact H
                clear H
                have H := H1
                clear H1
                by_cases c259 : t432 = true
                ·subst c259
                 have H1 : ((drydockref17_Same.f kj171 a0_0 a0_1 a0_2 a0_3 a0_4 l0_5 t328 t329 t330 t331 t332 t333).bind fun t433 => (if t433 = true then ((epoch_May.f kj171 a0_0 a0_1 a0_2 a0_3 a0_4 l0_5).bind fun t434 => ((drydockref17_May.f kj171 a0_0 a0_1 a0_2 a0_3 a0_4 l0_5).bind fun t435 => (some (t434 == t435)))) else (none))) = some r := by rw [if_pos rfl] at H; exact H
                 clear H
                 have H := H1
                 clear H1
                 replace H := Option.bind_eq_some_iff.mp H
                 obtain ⟨t433, A2600, H⟩ := H
                 replace H : (if t433 = true then ((epoch_May.f kj171 a0_0 a0_1 a0_2 a0_3 a0_4 l0_5).bind fun t434 => ((drydockref17_May.f kj171 a0_0 a0_1 a0_2 a0_3 a0_4 l0_5).bind fun t435 => (some (t434 == t435)))) else (none)) = some r := H
                 have A260 := Aside0.mk A2600
                 clear A2600
                 by_cases c261 : t433 = true
                 ·subst c261
                  have H1 : ((epoch_May.f kj171 a0_0 a0_1 a0_2 a0_3 a0_4 l0_5).bind fun t434 => ((drydockref17_May.f kj171 a0_0 a0_1 a0_2 a0_3 a0_4 l0_5).bind fun t435 => (some (t434 == t435)))) = some r := by rw [if_pos rfl] at H; exact H
                  clear H
                  have H := H1
                  clear H1
                  replace H := Option.bind_eq_some_iff.mp H
                  obtain ⟨t434, A2620, H⟩ := H
                  replace H : ((drydockref17_May.f kj171 a0_0 a0_1 a0_2 a0_3 a0_4 l0_5).bind fun t435 => (some (t434 == t435))) = some r := H
                  have A262 := Aside0.mk A2620
                  clear A2620
                  replace H := Option.bind_eq_some_iff.mp H
                  obtain ⟨t435, A2630, H⟩ := H
                  replace H : (some (t434 == t435)) = some r := H
                  have A263 := Aside0.mk A2630
                  clear A2630
                  obtain rfl := Option.some.inj H
                  try go_wp2
                  have n0_ := Aside0.mk (Kd.R_drew HO_337005.out)
                  have n1_ := Aside0.mk (Kd.R_drew HO_347005.out)
                  have n2_ := Aside0.mk (Kd.R_drew HO_357005.out)
                  have n3_ := Aside0.mk (Kd.R_drew HO_368005.out)
                  have n4_ := Aside0.mk (Kd.R_drew HO_378005.out)
                  have n5_ := Aside0.mk (Kd.R_drew HO_389005.out)
                  have n6_ := Aside0.mk (Kd.R_drew HO_399005.out)
                  have n7_ := Aside0.mk (Kd.R_drew HO_412005.out)
                  have n8_ := Aside0.mk (Kd.R_drew HO_424005.out)
                  have n9_ := Aside0.mk (blk_drew BK326.out)
                  have n10_ := Aside0.mk (blk_drew BK336.out)
                  have n11_ := Aside0.mk (blk_drew BK346.out)
                  have n12_ := Aside0.mk (blk_drew BK356.out)
                  have n13_ := Aside0.mk (blk_drew BK367.out)
                  have n14_ := Aside0.mk (blk_drew BK377.out)
                  have n15_ := Aside0.mk (blk_drew BK388.out)
                  have n16_ := Aside0.mk (blk_drew BK398.out)
                  have n17_ := Aside0.mk (blk_drew BK411.out)
                  have n18_ := Aside0.mk (blk_drew BK423.out)
                  have n19_ := Aside0.mk (below_drew1 HB.out)
                  clear HO_337005
                  clear HO_347005
                  clear HO_357005
                  clear HO_368005
                  clear HO_378005
                  clear HO_389005
                  clear HO_399005
                  clear HO_412005
                  clear HO_424005
                  clear BK326
                  clear BK336
                  clear BK346
                  clear BK356
                  clear BK367
                  clear BK377
                  clear BK388
                  clear BK398
                  clear BK411
                  clear BK423
                  clear HB
                  have HO_337005 := n0_
                  have HO_347005 := n1_
                  have HO_357005 := n2_
                  have HO_368005 := n3_
                  have HO_378005 := n4_
                  have HO_389005 := n5_
                  have HO_399005 := n6_
                  have HO_412005 := n7_
                  have HO_424005 := n8_
                  have BK326 := n9_
                  have BK336 := n10_
                  have BK346 := n11_
                  have BK356 := n12_
                  have BK367 := n13_
                  have BK377 := n14_
                  have BK388 := n15_
                  have BK398 := n16_
                  have BK411 := n17_
                  have BK423 := n18_
                  have HB := n19_
                  clear n0_ n1_ n2_ n3_ n4_ n5_ n6_ n7_ n8_ n9_ n10_ n11_ n12_ n13_ n14_ n15_ n16_ n17_ n18_ n19_
                  refine start_ (n := 6) (S := fun w' => w'.cell? ⟨gb326, 0, none⟩ = some (.int .i64 a0_0) ∧ w'.cell? ⟨gb326, 1, none⟩ = some (.int .i64 a0_1) ∧ w'.cell? ⟨gb326, 2, none⟩ = some (.int .i64 a0_2) ∧ w'.cell? ⟨gb326, 3, none⟩ = some (.int .i64 a0_3) ∧ w'.cell? ⟨gb326, 4, none⟩ = some (.int .i64 a0_4) ∧ w'.cell? ⟨gb326, 5, none⟩ = some (.slice A0_5 l0_5.length c0_5)) (ds := []) #[false, false, false, false, false, false] (by kernel_rfl) rfl rfl ⟨(blk_cell BK326.out 0).trans rfl, (blk_cell BK326.out 1).trans rfl, (blk_cell BK326.out 2).trans rfl, (blk_cell BK326.out 3).trans rfl, (blk_cell BK326.out 4).trans rfl, (blk_cell BK326.out 5).trans rfl⟩ (fun hHeld => ?_)
                  generalize wc.drew = w264 at HO_337005 HO_347005 HO_357005 HO_368005 HO_378005 HO_389005 HO_399005 HO_412005 HO_424005 BK326 BK336 BK346 BK356 BK367 BK377 BK388 BK398 BK411 BK423 HB hHeld ⊢
                  refine take_ (i := 0) (N := some 120) (v := ?_) (a' := ?_) #[true, false, false, false, false, false] rfl rfl (by kernel_rfl) (fun _ _ _ h => h) (Or.inl ⟨by rfl, ?_⟩) hHeld ?_ ?_
                  rotate_left
                  ·rintro w' ⟨s0, s1, s2, s3, s4, s5⟩
                   go_simp
                   with_reducible rfl
                  rotate_left
                  ·simp only [Act.put, List.setIfInBounds_toArray, List.set_cons_zero, List.set_cons_succ, i64_w, i32_w]
                   rfl
                  refine take_ (i := 2) (N := some 122) (v := ?_) (a' := ?_) #[true, false, true, false, false, false] rfl rfl (by kernel_rfl) (fun _ _ _ h => h) (Or.inl ⟨by rfl, ?_⟩) hHeld ?_ ?_
                  rotate_left
                  ·rintro w' ⟨s0, s1, s2, s3, s4, s5⟩
                   go_simp
                   with_reducible rfl
                  rotate_left
                  ·simp only [Act.put, List.setIfInBounds_toArray, List.set_cons_zero, List.set_cons_succ, i64_w, i32_w]
                   rfl
                  refine one_ (i := 1) (N := some 121) #[true, true, true, false, false, false] rfl rfl (by kernel_rfl) (by decide) (fun K hK => ?_)
                  refine goes_ Try.func21 (by kernel_rfl) rfl #[.agg #[.int .i64 a0_0, .int .i64 a0_1, .int .i64 a0_2, .int .i64 a0_3, .int .i64 a0_4, .slice A0_5 l0_5.length c0_5]] (by rfl) rfl rfl (by (try simp only [List.map_toArray, List.map_cons, List.map_nil]); first | done | rfl | (simp only [List.length_drop, List.length_take]; rfl)) ?_
                  with_reducible refine (epoch_Ready.calls kj171 a0_0 a0_1 a0_2 a0_3 a0_4 _ _ l0_5 t426 _ ?side1 ?side2 A252.out).mono ?_
                  (case side1 => repeat (first | exact (Kd.C_below HR0_5.out HB.out) | (with_reducible refine Kd.C_alloc ?_ _) | (with_reducible refine Kd.C_drewN ?_ _) | (with_reducible refine Kd.C_drew ?_)))
                  (case side2 => exact HC0_5.out)
                  rintro e w265 ⟨v427, rfl, ho0, hb⟩
                  refine ⟨_, rfl, ?_⟩
                  have n0_ := Aside0.mk (Kd.R_below (rk_ HO_337005) hb)
                  have n1_ := Aside0.mk (Kd.R_below (rk_ HO_347005) hb)
                  have n2_ := Aside0.mk (Kd.R_below (rk_ HO_357005) hb)
                  have n3_ := Aside0.mk (Kd.R_below (rk_ HO_368005) hb)
                  have n4_ := Aside0.mk (Kd.R_below (rk_ HO_378005) hb)
                  have n5_ := Aside0.mk (Kd.R_below (rk_ HO_389005) hb)
                  have n6_ := Aside0.mk (Kd.R_below (rk_ HO_399005) hb)
                  have n7_ := Aside0.mk (Kd.R_below (rk_ HO_412005) hb)
                  have n8_ := Aside0.mk (Kd.R_below (rk_ HO_424005) hb)
                  have n9_ := Aside0.mk (Kd.R_lower ho0 (below_size bs_))
                  have n10_ := Aside0.mk (blk_below (bk_ BK326) hb)
                  have n11_ := Aside0.mk (blk_below (bk_ BK336) hb)
                  have n12_ := Aside0.mk (blk_below (bk_ BK346) hb)
                  have n13_ := Aside0.mk (blk_below (bk_ BK356) hb)
                  have n14_ := Aside0.mk (blk_below (bk_ BK367) hb)
                  have n15_ := Aside0.mk (blk_below (bk_ BK377) hb)
                  have n16_ := Aside0.mk (blk_below (bk_ BK388) hb)
                  have n17_ := Aside0.mk (blk_below (bk_ BK398) hb)
                  have n18_ := Aside0.mk (blk_below (bk_ BK411) hb)
                  have n19_ := Aside0.mk (blk_below (bk_ BK423) hb)
                  have n20_ := Aside0.mk (below_step bs_ hb)
                  clear HO_337005
                  clear HO_347005
                  clear HO_357005
                  clear HO_368005
                  clear HO_378005
                  clear HO_389005
                  clear HO_399005
                  clear HO_412005
                  clear HO_424005
                  clear BK326
                  clear BK336
                  clear BK346
                  clear BK356
                  clear BK367
                  clear BK377
                  clear BK388
                  clear BK398
                  clear BK411
                  clear BK423
                  clear HB
                  have HO_337005 := n0_
                  have HO_347005 := n1_
                  have HO_357005 := n2_
                  have HO_368005 := n3_
                  have HO_378005 := n4_
                  have HO_389005 := n5_
                  have HO_399005 := n6_
                  have HO_412005 := n7_
                  have HO_424005 := n8_
                  have HO428 := n9_
                  have BK326 := n10_
                  have BK336 := n11_
                  have BK346 := n12_
                  have BK356 := n13_
                  have BK367 := n14_
                  have BK377 := n15_
                  have BK388 := n16_
                  have BK398 := n17_
                  have BK411 := n18_
                  have BK423 := n19_
                  have HB := n20_
                  clear n0_ n1_ n2_ n3_ n4_ n5_ n6_ n7_ n8_ n9_ n10_ n11_ n12_ n13_ n14_ n15_ n16_ n17_ n18_ n19_ n20_
                  (try clear hb)
                  (try clear hb2)
                  (try clear hk)
                  (try clear hi)
                  (try clear ho0)
                  refine hK.out _ _ ⟨(blk_cell BK326.out 0).trans rfl, (blk_cell BK326.out 1).trans rfl, (blk_cell BK326.out 2).trans rfl, (blk_cell BK326.out 3).trans rfl, (blk_cell BK326.out 4).trans rfl, (blk_cell BK326.out 5).trans rfl⟩ (fun hHeld => ?_)
                  clear hK K
                  refine norm_ (a' := ?_) ?_ ?_
                  rotate_left
                  ·show Act.put _ (some 121) _ = _
                   simp only [Act.put, List.setIfInBounds_toArray, List.set_cons_zero, List.set_cons_succ, i64_w, i32_w]
                   rfl
                  refine one_ (i := 3) (N := some 123) #[true, true, true, true, false, false] rfl rfl (by kernel_rfl) (by decide) (fun K hK => ?_)
                  refine goes_ Try.func22 (by kernel_rfl) rfl #[.agg #[.int .i64 a0_0, .int .i64 a0_1, .int .i64 a0_2, .int .i64 a0_3, .int .i64 a0_4, .slice A0_5 l0_5.length c0_5]] (by rfl) rfl rfl (by (try simp only [List.map_toArray, List.map_cons, List.map_nil]); first | done | rfl | (simp only [List.length_drop, List.length_take]; rfl)) ?_
                  with_reducible refine (drydockref17_Ready.calls kj171 a0_0 a0_1 a0_2 a0_3 a0_4 _ _ l0_5 t429 _ ?side1 ?side2 A253.out).mono ?_
                  (case side1 => repeat (first | exact (Kd.C_below HR0_5.out HB.out) | (with_reducible refine Kd.C_alloc ?_ _) | (with_reducible refine Kd.C_drewN ?_ _) | (with_reducible refine Kd.C_drew ?_)))
                  (case side2 => exact HC0_5.out)
                  rintro e w266 ⟨v430, rfl, ho0, hb⟩
                  refine ⟨_, rfl, ?_⟩
                  have n0_ := Aside0.mk (Kd.R_below (rk_ HO_337005) hb)
                  have n1_ := Aside0.mk (Kd.R_below (rk_ HO_347005) hb)
                  have n2_ := Aside0.mk (Kd.R_below (rk_ HO_357005) hb)
                  have n3_ := Aside0.mk (Kd.R_below (rk_ HO_368005) hb)
                  have n4_ := Aside0.mk (Kd.R_below (rk_ HO_378005) hb)
                  have n5_ := Aside0.mk (Kd.R_below (rk_ HO_389005) hb)
                  have n6_ := Aside0.mk (Kd.R_below (rk_ HO_399005) hb)
                  have n7_ := Aside0.mk (Kd.R_below (rk_ HO_412005) hb)
                  have n8_ := Aside0.mk (Kd.R_below (rk_ HO_424005) hb)
                  have n9_ := Aside0.mk (Kd.R_elder' (rk_ HO428) (Kd.R_base ho0) hb)
                  have n10_ := Aside0.mk (Kd.R_lower (Kd.R_new' ho0 (Kd.R_lt (rk_ HO428))) (below_size bs_))
                  have n11_ := Aside0.mk (blk_below (bk_ BK326) hb)
                  have n12_ := Aside0.mk (blk_below (bk_ BK336) hb)
                  have n13_ := Aside0.mk (blk_below (bk_ BK346) hb)
                  have n14_ := Aside0.mk (blk_below (bk_ BK356) hb)
                  have n15_ := Aside0.mk (blk_below (bk_ BK367) hb)
                  have n16_ := Aside0.mk (blk_below (bk_ BK377) hb)
                  have n17_ := Aside0.mk (blk_below (bk_ BK388) hb)
                  have n18_ := Aside0.mk (blk_below (bk_ BK398) hb)
                  have n19_ := Aside0.mk (blk_below (bk_ BK411) hb)
                  have n20_ := Aside0.mk (blk_below (bk_ BK423) hb)
                  have n21_ := Aside0.mk (below_step bs_ hb)
                  clear HO_337005
                  clear HO_347005
                  clear HO_357005
                  clear HO_368005
                  clear HO_378005
                  clear HO_389005
                  clear HO_399005
                  clear HO_412005
                  clear HO_424005
                  clear HO428
                  clear BK326
                  clear BK336
                  clear BK346
                  clear BK356
                  clear BK367
                  clear BK377
                  clear BK388
                  clear BK398
                  clear BK411
                  clear BK423
                  clear HB
                  have HO_337005 := n0_
                  have HO_347005 := n1_
                  have HO_357005 := n2_
                  have HO_368005 := n3_
                  have HO_378005 := n4_
                  have HO_389005 := n5_
                  have HO_399005 := n6_
                  have HO_412005 := n7_
                  have HO_424005 := n8_
                  have HO428 := n9_
                  have HO431 := n10_
                  have BK326 := n11_
                  have BK336 := n12_
                  have BK346 := n13_
                  have BK356 := n14_
                  have BK367 := n15_
                  have BK377 := n16_
                  have BK388 := n17_
                  have BK398 := n18_
                  have BK411 := n19_
                  have BK423 := n20_
                  have HB := n21_
                  clear n0_ n1_ n2_ n3_ n4_ n5_ n6_ n7_ n8_ n9_ n10_ n11_ n12_ n13_ n14_ n15_ n16_ n17_ n18_ n19_ n20_ n21_
                  (try clear hb)
                  (try clear hb2)
                  (try clear hk)
                  (try clear hi)
                  (try clear ho0)
                  obtain ⟨Ao267, co267, eo267⟩ := Kd.R_slice HO428.out
                  (first | subst eo267 | (injection eo267 with f1_ f2_ f3_; have f4_ := f1_.symm; have f5_ := f3_.symm; clear f1_ f2_ f3_; subst f4_; subst f5_))
                  obtain ⟨Ao268, co268, eo268⟩ := Kd.R_slice HO431.out
                  (first | subst eo268 | (injection eo268 with f1_ f2_ f3_; have f4_ := f1_.symm; have f5_ := f3_.symm; clear f1_ f2_ f3_; subst f4_; subst f5_))
                  refine hK.out _ _ ⟨(blk_cell BK326.out 0).trans rfl, (blk_cell BK326.out 1).trans rfl, (blk_cell BK326.out 2).trans rfl, (blk_cell BK326.out 3).trans rfl, (blk_cell BK326.out 4).trans rfl, (blk_cell BK326.out 5).trans rfl⟩ (fun hHeld => ?_)
                  clear hK K
                  refine norm_ (a' := ?_) ?_ ?_
                  rotate_left
                  ·show Act.put _ (some 123) _ = _
                   simp only [Act.put, List.setIfInBounds_toArray, List.set_cons_zero, List.set_cons_succ, i64_w, i32_w]
                   rfl
                  refine one_ (i := 4) (N := some 124) #[true, true, true, true, true, false] rfl rfl (by kernel_rfl) (by decide) (fun K hK => ?_)
                  refine goes_ Try.func20 (by kernel_rfl) rfl #[.slice Ao267 t426.length co267, .slice Ao268 t429.length co268] (by rfl) rfl rfl (by (try simp only [List.map_toArray, List.map_cons, List.map_nil]); first | done | rfl | (simp only [List.length_drop, List.length_take]; rfl)) ?_
                  with_reducible refine (drydockref01_Ints.calls kj171 _ _ t426 _ _ t429 true _ ?side1 ?side2 ?side3 ?side4 A254.out).mono ?_
                  (case side1 => repeat (first | exact (Kd.R_reads' HO428.out).2.2 | (with_reducible refine Kd.C_alloc ?_ _) | (with_reducible refine Kd.C_drewN ?_ _) | (with_reducible refine Kd.C_drew ?_)))
                  (case side2 => exact (Kd.R_reads' HO428.out).2.1)
                  (case side3 => repeat (first | exact (Kd.R_reads' HO431.out).2.2 | (with_reducible refine Kd.C_alloc ?_ _) | (with_reducible refine Kd.C_drewN ?_ _) | (with_reducible refine Kd.C_drew ?_)))
                  (case side4 => exact (Kd.R_reads' HO431.out).2.1)
                  rintro e w' ⟨rfl, ⟨nd, rfl⟩⟩
                  refine ⟨_, rfl, ?_⟩
                  refine hK.out _ _ ⟨(blk_cell BK326.out 0).trans rfl, (blk_cell BK326.out 1).trans rfl, (blk_cell BK326.out 2).trans rfl, (blk_cell BK326.out 3).trans rfl, (blk_cell BK326.out 4).trans rfl, (blk_cell BK326.out 5).trans rfl⟩ (fun hHeld => ?_)
                  clear hK K
                  refine norm_ (a' := ?_) ?_ ?_
                  rotate_left
                  ·show Act.put _ (some 124) _ = _
                   simp only [Act.put, List.setIfInBounds_toArray, List.set_cons_zero, List.set_cons_succ, i64_w, i32_w]
                   rfl
                  refine pure_ (i := 5) (N := some 29) (v := ?_) (a' := ?_) #[true, true, true, true, true, true] rfl rfl (by kernel_rfl) (fun _ _ _ h => h) (Or.inl ⟨by rfl, ?_⟩) ?_ ?_
                  rotate_left
                  ·intro w'
                   go_simp
                   with_reducible rfl
                  rotate_left
                  ·simp only [Act.put, List.setIfInBounds_toArray, List.set_cons_zero, List.set_cons_succ, i64_w, i32_w]
                   rfl
                  refine done_ (by kernel_rfl) ?_
                  try go_wp2
                  (try (rw [drewN_self w266]; generalize hq_ : World.drewN w266 _ = w266; have n0_ : Aside0 (Kd.R (Kd.int .i64) 3 w266 w.heap.size (fun k_ => some k_ ≠ (.slice Ao268 t429.length co268 : Value).ownBlock) (.slice Ao267 t426.length co267) t426) := ⟨by rw [← hq_]; exact (by (with_reducible repeat (first | apply Kd.R_alloc | apply Kd.R_drewN | apply Kd.R_drew)); exact Kd.R_mono HO428.out (fun _ hk => hk.2))⟩; have n1_ : Aside0 (Kd.R (Kd.int .i64) 3 w266 w.heap.size (fun k_ => some k_ ≠ (.slice Ao267 t426.length co267 : Value).ownBlock) (.slice Ao268 t429.length co268) t429) := ⟨by rw [← hq_]; exact (by (with_reducible repeat (first | apply Kd.R_alloc | apply Kd.R_drewN | apply Kd.R_drew)); exact Kd.R_mono HO431.out (fun _ hk => hk.2))⟩; have n2_ : Aside0 (Kd.R k43 43 w266 w.heap.size (fun k_ => some k_ ≠ (.slice Ao23 t342.length co23 : Value).ownBlock ∧ some k_ ≠ (.slice Ao30 t352.length co30 : Value).ownBlock ∧ some k_ ≠ (.slice Ao62 t363.length co62 : Value).ownBlock ∧ some k_ ≠ (.slice Ao71 t373.length co71 : Value).ownBlock ∧ some k_ ≠ (.slice Ao115 t384.length co115 : Value).ownBlock ∧ some k_ ≠ (.slice Ao126 t394.length co126 : Value).ownBlock ∧ some k_ ≠ (.slice Ao183 t405.length co183 : Value).ownBlock ∧ some k_ ≠ (.slice Ao197 t417.length co197 : Value).ownBlock) (.slice Ao17 t333.length co17) t333) := ⟨by rw [← hq_]; exact (rk_ HO_337005)⟩; have n3_ : Aside0 (Kd.R k43 43 w266 w.heap.size (fun k_ => some k_ ≠ (.slice Ao17 t333.length co17 : Value).ownBlock ∧ some k_ ≠ (.slice Ao30 t352.length co30 : Value).ownBlock ∧ some k_ ≠ (.slice Ao62 t363.length co62 : Value).ownBlock ∧ some k_ ≠ (.slice Ao71 t373.length co71 : Value).ownBlock ∧ some k_ ≠ (.slice Ao115 t384.length co115 : Value).ownBlock ∧ some k_ ≠ (.slice Ao126 t394.length co126 : Value).ownBlock ∧ some k_ ≠ (.slice Ao183 t405.length co183 : Value).ownBlock ∧ some k_ ≠ (.slice Ao197 t417.length co197 : Value).ownBlock) (.slice Ao23 t342.length co23) t342) := ⟨by rw [← hq_]; exact (rk_ HO_347005)⟩; have n4_ : Aside0 (Kd.R k43 43 w266 w.heap.size (fun k_ => some k_ ≠ (.slice Ao17 t333.length co17 : Value).ownBlock ∧ some k_ ≠ (.slice Ao23 t342.length co23 : Value).ownBlock ∧ some k_ ≠ (.slice Ao62 t363.length co62 : Value).ownBlock ∧ some k_ ≠ (.slice Ao71 t373.length co71 : Value).ownBlock ∧ some k_ ≠ (.slice Ao115 t384.length co115 : Value).ownBlock ∧ some k_ ≠ (.slice Ao126 t394.length co126 : Value).ownBlock ∧ some k_ ≠ (.slice Ao183 t405.length co183 : Value).ownBlock ∧ some k_ ≠ (.slice Ao197 t417.length co197 : Value).ownBlock) (.slice Ao30 t352.length co30) t352) := ⟨by rw [← hq_]; exact (rk_ HO_357005)⟩; have n5_ : Aside0 (Kd.R k43 43 w266 w.heap.size (fun k_ => some k_ ≠ (.slice Ao17 t333.length co17 : Value).ownBlock ∧ some k_ ≠ (.slice Ao23 t342.length co23 : Value).ownBlock ∧ some k_ ≠ (.slice Ao30 t352.length co30 : Value).ownBlock ∧ some k_ ≠ (.slice Ao71 t373.length co71 : Value).ownBlock ∧ some k_ ≠ (.slice Ao115 t384.length co115 : Value).ownBlock ∧ some k_ ≠ (.slice Ao126 t394.length co126 : Value).ownBlock ∧ some k_ ≠ (.slice Ao183 t405.length co183 : Value).ownBlock ∧ some k_ ≠ (.slice Ao197 t417.length co197 : Value).ownBlock) (.slice Ao62 t363.length co62) t363) := ⟨by rw [← hq_]; exact (rk_ HO_368005)⟩; have n6_ : Aside0 (Kd.R k43 43 w266 w.heap.size (fun k_ => some k_ ≠ (.slice Ao17 t333.length co17 : Value).ownBlock ∧ some k_ ≠ (.slice Ao23 t342.length co23 : Value).ownBlock ∧ some k_ ≠ (.slice Ao30 t352.length co30 : Value).ownBlock ∧ some k_ ≠ (.slice Ao62 t363.length co62 : Value).ownBlock ∧ some k_ ≠ (.slice Ao115 t384.length co115 : Value).ownBlock ∧ some k_ ≠ (.slice Ao126 t394.length co126 : Value).ownBlock ∧ some k_ ≠ (.slice Ao183 t405.length co183 : Value).ownBlock ∧ some k_ ≠ (.slice Ao197 t417.length co197 : Value).ownBlock) (.slice Ao71 t373.length co71) t373) := ⟨by rw [← hq_]; exact (rk_ HO_378005)⟩; have n7_ : Aside0 (Kd.R k43 43 w266 w.heap.size (fun k_ => some k_ ≠ (.slice Ao17 t333.length co17 : Value).ownBlock ∧ some k_ ≠ (.slice Ao23 t342.length co23 : Value).ownBlock ∧ some k_ ≠ (.slice Ao30 t352.length co30 : Value).ownBlock ∧ some k_ ≠ (.slice Ao62 t363.length co62 : Value).ownBlock ∧ some k_ ≠ (.slice Ao71 t373.length co71 : Value).ownBlock ∧ some k_ ≠ (.slice Ao126 t394.length co126 : Value).ownBlock ∧ some k_ ≠ (.slice Ao183 t405.length co183 : Value).ownBlock ∧ some k_ ≠ (.slice Ao197 t417.length co197 : Value).ownBlock) (.slice Ao115 t384.length co115) t384) := ⟨by rw [← hq_]; exact (rk_ HO_389005)⟩; have n8_ : Aside0 (Kd.R k43 43 w266 w.heap.size (fun k_ => some k_ ≠ (.slice Ao17 t333.length co17 : Value).ownBlock ∧ some k_ ≠ (.slice Ao23 t342.length co23 : Value).ownBlock ∧ some k_ ≠ (.slice Ao30 t352.length co30 : Value).ownBlock ∧ some k_ ≠ (.slice Ao62 t363.length co62 : Value).ownBlock ∧ some k_ ≠ (.slice Ao71 t373.length co71 : Value).ownBlock ∧ some k_ ≠ (.slice Ao115 t384.length co115 : Value).ownBlock ∧ some k_ ≠ (.slice Ao183 t405.length co183 : Value).ownBlock ∧ some k_ ≠ (.slice Ao197 t417.length co197 : Value).ownBlock) (.slice Ao126 t394.length co126) t394) := ⟨by rw [← hq_]; exact (rk_ HO_399005)⟩; have n9_ : Aside0 (Kd.R k43 43 w266 w.heap.size (fun k_ => some k_ ≠ (.slice Ao17 t333.length co17 : Value).ownBlock ∧ some k_ ≠ (.slice Ao23 t342.length co23 : Value).ownBlock ∧ some k_ ≠ (.slice Ao30 t352.length co30 : Value).ownBlock ∧ some k_ ≠ (.slice Ao62 t363.length co62 : Value).ownBlock ∧ some k_ ≠ (.slice Ao71 t373.length co71 : Value).ownBlock ∧ some k_ ≠ (.slice Ao115 t384.length co115 : Value).ownBlock ∧ some k_ ≠ (.slice Ao126 t394.length co126 : Value).ownBlock ∧ some k_ ≠ (.slice Ao197 t417.length co197 : Value).ownBlock) (.slice Ao183 t405.length co183) t405) := ⟨by rw [← hq_]; exact (rk_ HO_412005)⟩; have n10_ : Aside0 (Kd.R k43 43 w266 w.heap.size (fun k_ => some k_ ≠ (.slice Ao17 t333.length co17 : Value).ownBlock ∧ some k_ ≠ (.slice Ao23 t342.length co23 : Value).ownBlock ∧ some k_ ≠ (.slice Ao30 t352.length co30 : Value).ownBlock ∧ some k_ ≠ (.slice Ao62 t363.length co62 : Value).ownBlock ∧ some k_ ≠ (.slice Ao71 t373.length co71 : Value).ownBlock ∧ some k_ ≠ (.slice Ao115 t384.length co115 : Value).ownBlock ∧ some k_ ≠ (.slice Ao126 t394.length co126 : Value).ownBlock ∧ some k_ ≠ (.slice Ao183 t405.length co183 : Value).ownBlock) (.slice Ao197 t417.length co197) t417) := ⟨by rw [← hq_]; exact (rk_ HO_424005)⟩; have n11_ : Aside0 (w266.heap[gb326]? = some (.cells #[.int .i64 a0_0, .int .i64 a0_1, .int .i64 a0_2, .int .i64 a0_3, .int .i64 a0_4, .slice A0_5 l0_5.length c0_5] 25 (0, 0))) := ⟨by rw [← hq_]; exact (by (with_reducible repeat (first | refine blk_drewN ?_ _ | refine blk_drew ?_ | refine blk_alloc ?_ _)); exact BK326.out)⟩; have n12_ : Aside0 (w266.heap[gb336]? = some (.cells #[.int .i64 t328, .int .i64 t329, .int .i64 t330, .int .i64 t331, .int .i64 t332, .slice Ao17 t333.length co17] 25 (0, 0))) := ⟨by rw [← hq_]; exact (by (with_reducible repeat (first | refine blk_drewN ?_ _ | refine blk_drew ?_ | refine blk_alloc ?_ _)); exact BK336.out)⟩; have n13_ : Aside0 (w266.heap[gb346]? = some (.cells #[.int .i64 t337, .int .i64 t338, .int .i64 t339, .int .i64 t340, .int .i64 t341, .slice Ao23 t342.length co23] 25 (0, 0))) := ⟨by rw [← hq_]; exact (by (with_reducible repeat (first | refine blk_drewN ?_ _ | refine blk_drew ?_ | refine blk_alloc ?_ _)); exact BK346.out)⟩; have n14_ : Aside0 (w266.heap[gb356]? = some (.cells #[.int .i64 t347, .int .i64 t348, .int .i64 t349, .int .i64 t350, .int .i64 t351, .slice Ao30 t352.length co30] 25 (0, 0))) := ⟨by rw [← hq_]; exact (by (with_reducible repeat (first | refine blk_drewN ?_ _ | refine blk_drew ?_ | refine blk_alloc ?_ _)); exact BK356.out)⟩; have n15_ : Aside0 (w266.heap[gb367]? = some (.cells #[.int .i64 t358, .int .i64 t359, .int .i64 t360, .int .i64 t361, .int .i64 t362, .slice Ao62 t363.length co62] 25 (0, 0))) := ⟨by rw [← hq_]; exact (by (with_reducible repeat (first | refine blk_drewN ?_ _ | refine blk_drew ?_ | refine blk_alloc ?_ _)); exact BK367.out)⟩; have n16_ : Aside0 (w266.heap[gb377]? = some (.cells #[.int .i64 t368, .int .i64 t369, .int .i64 t370, .int .i64 t371, .int .i64 t372, .slice Ao71 t373.length co71] 25 (0, 0))) := ⟨by rw [← hq_]; exact (by (with_reducible repeat (first | refine blk_drewN ?_ _ | refine blk_drew ?_ | refine blk_alloc ?_ _)); exact BK377.out)⟩; have n17_ : Aside0 (w266.heap[gb388]? = some (.cells #[.int .i64 t379, .int .i64 t380, .int .i64 t381, .int .i64 t382, .int .i64 t383, .slice Ao115 t384.length co115] 25 (0, 0))) := ⟨by rw [← hq_]; exact (by (with_reducible repeat (first | refine blk_drewN ?_ _ | refine blk_drew ?_ | refine blk_alloc ?_ _)); exact BK388.out)⟩; have n18_ : Aside0 (w266.heap[gb398]? = some (.cells #[.int .i64 t389, .int .i64 t390, .int .i64 t391, .int .i64 t392, .int .i64 t393, .slice Ao126 t394.length co126] 25 (0, 0))) := ⟨by rw [← hq_]; exact (by (with_reducible repeat (first | refine blk_drewN ?_ _ | refine blk_drew ?_ | refine blk_alloc ?_ _)); exact BK398.out)⟩; have n19_ : Aside0 (w266.heap[gb411]? = some (.cells #[.int .i64 t400, .int .i64 t401, .int .i64 t402, .int .i64 t403, .int .i64 t404, .slice Ao183 t405.length co183] 25 (0, 0))) := ⟨by rw [← hq_]; exact (by (with_reducible repeat (first | refine blk_drewN ?_ _ | refine blk_drew ?_ | refine blk_alloc ?_ _)); exact BK411.out)⟩; have n20_ : Aside0 (w266.heap[gb423]? = some (.cells #[.int .i64 t412, .int .i64 t413, .int .i64 t414, .int .i64 t415, .int .i64 t416, .slice Ao197 t417.length co197] 25 (0, 0))) := ⟨by rw [← hq_]; exact (by (with_reducible repeat (first | refine blk_drewN ?_ _ | refine blk_drew ?_ | refine blk_alloc ?_ _)); exact BK423.out)⟩; have n21_ : Aside0 (Below w.heap.size w w266) := ⟨by rw [← hq_]; exact bs_⟩; clear HO428 HO431 HO_337005 HO_347005 HO_357005 HO_368005 HO_378005 HO_389005 HO_399005 HO_412005 HO_424005 BK326 BK336 BK346 BK356 BK367 BK377 BK388 BK398 BK411 BK423 HB hq_; have HO428 := n0_; have HO431 := n1_; have HO_337005 := n2_; have HO_347005 := n3_; have HO_357005 := n4_; have HO_368005 := n5_; have HO_378005 := n6_; have HO_389005 := n7_; have HO_399005 := n8_; have HO_412005 := n9_; have HO_424005 := n10_; have BK326 := n11_; have BK336 := n12_; have BK346 := n13_; have BK356 := n14_; have BK367 := n15_; have BK377 := n16_; have BK388 := n17_; have BK398 := n18_; have BK411 := n19_; have BK423 := n20_; have HB := n21_; clear n0_ n1_ n2_ n3_ n4_ n5_ n6_ n7_ n8_ n9_ n10_ n11_ n12_ n13_ n14_ n15_ n16_ n17_ n18_ n19_ n20_ n21_))
                  have n0_ := Aside0.mk (Kd.R_drew HO_337005.out)
                  have n1_ := Aside0.mk (Kd.R_drew HO_347005.out)
                  have n2_ := Aside0.mk (Kd.R_drew HO_357005.out)
                  have n3_ := Aside0.mk (Kd.R_drew HO_368005.out)
                  have n4_ := Aside0.mk (Kd.R_drew HO_378005.out)
                  have n5_ := Aside0.mk (Kd.R_drew HO_389005.out)
                  have n6_ := Aside0.mk (Kd.R_drew HO_399005.out)
                  have n7_ := Aside0.mk (Kd.R_drew HO_412005.out)
                  have n8_ := Aside0.mk (Kd.R_drew HO_424005.out)
                  have n9_ := Aside0.mk (Kd.R_drew HO428.out)
                  have n10_ := Aside0.mk (Kd.R_drew HO431.out)
                  have n11_ := Aside0.mk (blk_drew BK326.out)
                  have n12_ := Aside0.mk (blk_drew BK336.out)
                  have n13_ := Aside0.mk (blk_drew BK346.out)
                  have n14_ := Aside0.mk (blk_drew BK356.out)
                  have n15_ := Aside0.mk (blk_drew BK367.out)
                  have n16_ := Aside0.mk (blk_drew BK377.out)
                  have n17_ := Aside0.mk (blk_drew BK388.out)
                  have n18_ := Aside0.mk (blk_drew BK398.out)
                  have n19_ := Aside0.mk (blk_drew BK411.out)
                  have n20_ := Aside0.mk (blk_drew BK423.out)
                  have n21_ := Aside0.mk (below_drew1 HB.out)
                  clear HO_337005
                  clear HO_347005
                  clear HO_357005
                  clear HO_368005
                  clear HO_378005
                  clear HO_389005
                  clear HO_399005
                  clear HO_412005
                  clear HO_424005
                  clear HO428
                  clear HO431
                  clear BK326
                  clear BK336
                  clear BK346
                  clear BK356
                  clear BK367
                  clear BK377
                  clear BK388
                  clear BK398
                  clear BK411
                  clear BK423
                  clear HB
                  have HO_337005 := n0_
                  have HO_347005 := n1_
                  have HO_357005 := n2_
                  have HO_368005 := n3_
                  have HO_378005 := n4_
                  have HO_389005 := n5_
                  have HO_399005 := n6_
                  have HO_412005 := n7_
                  have HO_424005 := n8_
                  have HO428 := n9_
                  have HO431 := n10_
                  have BK326 := n11_
                  have BK336 := n12_
                  have BK346 := n13_
                  have BK356 := n14_
                  have BK367 := n15_
                  have BK377 := n16_
                  have BK388 := n17_
                  have BK398 := n18_
                  have BK411 := n19_
                  have BK423 := n20_
                  have HB := n21_
                  clear n0_ n1_ n2_ n3_ n4_ n5_ n6_ n7_ n8_ n9_ n10_ n11_ n12_ n13_ n14_ n15_ n16_ n17_ n18_ n19_ n20_ n21_
                  refine start_ (n := 26) (S := fun w' => w'.cell? ⟨gb326, 0, none⟩ = some (.int .i64 a0_0) ∧ w'.cell? ⟨gb326, 1, none⟩ = some (.int .i64 a0_1) ∧ w'.cell? ⟨gb326, 2, none⟩ = some (.int .i64 a0_2) ∧ w'.cell? ⟨gb326, 3, none⟩ = some (.int .i64 a0_3) ∧ w'.cell? ⟨gb326, 4, none⟩ = some (.int .i64 a0_4) ∧ w'.cell? ⟨gb326, 5, none⟩ = some (.slice A0_5 l0_5.length c0_5) ∧ w'.cell? ⟨gb336, 0, none⟩ = some (.int .i64 t328) ∧ w'.cell? ⟨gb336, 1, none⟩ = some (.int .i64 t329) ∧ w'.cell? ⟨gb336, 2, none⟩ = some (.int .i64 t330) ∧ w'.cell? ⟨gb336, 3, none⟩ = some (.int .i64 t331) ∧ w'.cell? ⟨gb336, 4, none⟩ = some (.int .i64 t332) ∧ w'.cell? ⟨gb336, 5, none⟩ = some (.slice Ao17 t333.length co17)) (ds := []) #[false, false, false, false, false, false, false, false, false, false, false, false, false, false, false, false, false, false, false, false, false, false, false, false, false, false] (by kernel_rfl) rfl rfl ⟨(blk_cell BK326.out 0).trans rfl, (blk_cell BK326.out 1).trans rfl, (blk_cell BK326.out 2).trans rfl, (blk_cell BK326.out 3).trans rfl, (blk_cell BK326.out 4).trans rfl, (blk_cell BK326.out 5).trans rfl, (blk_cell BK336.out 0).trans rfl, (blk_cell BK336.out 1).trans rfl, (blk_cell BK336.out 2).trans rfl, (blk_cell BK336.out 3).trans rfl, (blk_cell BK336.out 4).trans rfl, (blk_cell BK336.out 5).trans rfl⟩ (fun hHeld => ?_); refine with_tabW drydocklaw17_EpochTells.tab18 drydocklaw17_EpochTells.bits18 (fun HT_ HW_ => ?_)
                  generalize w266.drew = w269 at HO_337005 HO_347005 HO_357005 HO_368005 HO_378005 HO_389005 HO_399005 HO_412005 HO_424005 HO428 HO431 BK326 BK336 BK346 BK356 BK367 BK377 BK388 BK398 BK411 BK423 HB hHeld ⊢
                  refine pv_ 0 (some 125) HT_ (h := ?_)
                  refine pv_ 1 (some 126) HT_ (h := ?_)
                  refine pv_ 2 (some 127) HT_ (h := ?_)
                  refine pv_ 3 (some 128) HT_ (h := ?_)
                  refine pv_ 4 (some 129) HT_ (h := ?_)
                  refine pv_ 5 (some 130) HT_ (h := ?_)
                  refine pv_ 6 (some 131) HT_ (h := ?_)
                  refine pv_ 7 (some 132) HT_ (h := ?_)
                  refine pv_ 8 (some 133) HT_ (h := ?_)
                  refine pv_ 9 (some 134) HT_ (h := ?_)
                  refine pv_ 10 (some 135) HT_ (h := ?_)
                  refine pv_ 11 (some 136) HT_ (h := ?_)
                  refine pv_ 12 (some 137) HT_ (h := ?_)
                  refine pv_ 13 (some 138) HT_ (h := ?_)
                  refine tk_ 14 (some 139) HT_ HW_ hHeld (h := ?_)
                  refine tk_ 15 (some 140) HT_ HW_ hHeld (h := ?_)
                  refine one_ (i := 16) (N := some 141) #[true, true, true, true, true, true, true, true, true, true, true, true, true, true, true, true, true, false, false, false, false, false, false, false, false, false] rfl rfl (one_of HT_.out (by kernel_rfl)) (by decide) (fun K hK => ?_)
                  refine goes_ Try.func13 (by kernel_rfl) rfl #[.agg #[.int .i64 a0_0, .int .i64 a0_1, .int .i64 a0_2, .int .i64 a0_3, .int .i64 a0_4, .slice A0_5 l0_5.length c0_5], .agg #[.int .i64 t328, .int .i64 t329, .int .i64 t330, .int .i64 t331, .int .i64 t332, .slice Ao17 t333.length co17]] (by rfl) rfl rfl (by (try simp only [List.map_toArray, List.map_cons, List.map_nil]); first | done | rfl | (simp only [List.length_drop, List.length_take]; rfl)) ?_
                  with_reducible refine (drydockref17_Same.calls kj171 a0_0 a0_1 a0_2 a0_3 a0_4 _ _ l0_5 t328 t329 t330 t331 t332 _ _ t333 true _ ?side1 ?side2 ?side3 ?side4 A260.out).mono ?_
                  (case side1 => repeat (first | exact (Kd.C_below HR0_5.out HB.out) | (with_reducible refine Kd.C_alloc ?_ _) | (with_reducible refine Kd.C_drewN ?_ _) | (with_reducible refine Kd.C_drew ?_)))
                  (case side2 => exact HC0_5.out)
                  (case side3 => repeat (first | exact (Kd.R_reads' HO_337005.out).2.2 | (with_reducible refine Kd.C_alloc ?_ _) | (with_reducible refine Kd.C_drewN ?_ _) | (with_reducible refine Kd.C_drew ?_)))
                  (case side4 => exact (Kd.R_reads' HO_337005.out).2.1)
                  rintro e w270 ⟨rfl, hb⟩
                  refine ⟨_, rfl, ?_⟩
                  have n0_ := Aside0.mk (Kd.R_below (rk_ HO_337005) hb)
                  have n1_ := Aside0.mk (Kd.R_below (rk_ HO_347005) hb)
                  have n2_ := Aside0.mk (Kd.R_below (rk_ HO_357005) hb)
                  have n3_ := Aside0.mk (Kd.R_below (rk_ HO_368005) hb)
                  have n4_ := Aside0.mk (Kd.R_below (rk_ HO_378005) hb)
                  have n5_ := Aside0.mk (Kd.R_below (rk_ HO_389005) hb)
                  have n6_ := Aside0.mk (Kd.R_below (rk_ HO_399005) hb)
                  have n7_ := Aside0.mk (Kd.R_below (rk_ HO_412005) hb)
                  have n8_ := Aside0.mk (Kd.R_below (rk_ HO_424005) hb)
                  have n9_ := Aside0.mk (Kd.R_below (rk_ HO428) hb)
                  have n10_ := Aside0.mk (Kd.R_below (rk_ HO431) hb)
                  have n11_ := Aside0.mk (blk_below (bk_ BK326) hb)
                  have n12_ := Aside0.mk (blk_below (bk_ BK336) hb)
                  have n13_ := Aside0.mk (blk_below (bk_ BK346) hb)
                  have n14_ := Aside0.mk (blk_below (bk_ BK356) hb)
                  have n15_ := Aside0.mk (blk_below (bk_ BK367) hb)
                  have n16_ := Aside0.mk (blk_below (bk_ BK377) hb)
                  have n17_ := Aside0.mk (blk_below (bk_ BK388) hb)
                  have n18_ := Aside0.mk (blk_below (bk_ BK398) hb)
                  have n19_ := Aside0.mk (blk_below (bk_ BK411) hb)
                  have n20_ := Aside0.mk (blk_below (bk_ BK423) hb)
                  have n21_ := Aside0.mk (below_step bs_ hb)
                  clear HO_337005
                  clear HO_347005
                  clear HO_357005
                  clear HO_368005
                  clear HO_378005
                  clear HO_389005
                  clear HO_399005
                  clear HO_412005
                  clear HO_424005
                  clear HO428
                  clear HO431
                  clear BK326
                  clear BK336
                  clear BK346
                  clear BK356
                  clear BK367
                  clear BK377
                  clear BK388
                  clear BK398
                  clear BK411
                  clear BK423
                  clear HB
                  have HO_337005 := n0_
                  have HO_347005 := n1_
                  have HO_357005 := n2_
                  have HO_368005 := n3_
                  have HO_378005 := n4_
                  have HO_389005 := n5_
                  have HO_399005 := n6_
                  have HO_412005 := n7_
                  have HO_424005 := n8_
                  have HO428 := n9_
                  have HO431 := n10_
                  have BK326 := n11_
                  have BK336 := n12_
                  have BK346 := n13_
                  have BK356 := n14_
                  have BK367 := n15_
                  have BK377 := n16_
                  have BK388 := n17_
                  have BK398 := n18_
                  have BK411 := n19_
                  have BK423 := n20_
                  have HB := n21_
                  clear n0_ n1_ n2_ n3_ n4_ n5_ n6_ n7_ n8_ n9_ n10_ n11_ n12_ n13_ n14_ n15_ n16_ n17_ n18_ n19_ n20_ n21_
                  (try clear hb)
                  (try clear hb2)
                  (try clear hk)
                  (try clear hi)
                  refine hK.out _ _ ⟨(blk_cell BK326.out 0).trans rfl, (blk_cell BK326.out 1).trans rfl, (blk_cell BK326.out 2).trans rfl, (blk_cell BK326.out 3).trans rfl, (blk_cell BK326.out 4).trans rfl, (blk_cell BK326.out 5).trans rfl, (blk_cell BK336.out 0).trans rfl, (blk_cell BK336.out 1).trans rfl, (blk_cell BK336.out 2).trans rfl, (blk_cell BK336.out 3).trans rfl, (blk_cell BK336.out 4).trans rfl, (blk_cell BK336.out 5).trans rfl⟩ (fun hHeld => ?_)
                  clear hK K
                  refine norm_ (a' := ?_) ?_ ?_
                  rotate_left
                  ·show Act.put _ (some 141) _ = _
                   simp only [Act.put, List.setIfInBounds_toArray, List.set_cons_zero, List.set_cons_succ, i64_w, i32_w]
                   rfl
                  refine pv_ 17 (some 142) HT_ (h := ?_)
                  refine pv_ 18 (some 143) HT_ (h := ?_)
                  refine tk_ 19 (some 144) HT_ HW_ hHeld (h := ?_)
                  refine tk_ 21 (some 146) HT_ HW_ hHeld (h := ?_)
                  refine one_ (i := 20) (N := some 145) #[true, true, true, true, true, true, true, true, true, true, true, true, true, true, true, true, true, true, true, true, true, true, false, false, false, false] rfl rfl (one_of HT_.out (by kernel_rfl)) (by decide) (fun K hK => ?_)
                  refine goes_ Try.func23 (by kernel_rfl) rfl #[.agg #[.int .i64 a0_0, .int .i64 a0_1, .int .i64 a0_2, .int .i64 a0_3, .int .i64 a0_4, .slice A0_5 l0_5.length c0_5]] (by rfl) rfl rfl (by (try simp only [List.map_toArray, List.map_cons, List.map_nil]); first | done | rfl | (simp only [List.length_drop, List.length_take]; rfl)) ?_
                  with_reducible refine (epoch_May.calls kj171 a0_0 a0_1 a0_2 a0_3 a0_4 _ _ l0_5 t434 _ ?side1 ?side2 A262.out).mono ?_
                  (case side1 => repeat (first | exact (Kd.C_below HR0_5.out HB.out) | (with_reducible refine Kd.C_alloc ?_ _) | (with_reducible refine Kd.C_drewN ?_ _) | (with_reducible refine Kd.C_drew ?_)))
                  (case side2 => exact HC0_5.out)
                  rintro e w271 ⟨rfl, hb⟩
                  refine ⟨_, rfl, ?_⟩
                  have n0_ := Aside0.mk (Kd.R_below (rk_ HO_337005) hb)
                  have n1_ := Aside0.mk (Kd.R_below (rk_ HO_347005) hb)
                  have n2_ := Aside0.mk (Kd.R_below (rk_ HO_357005) hb)
                  have n3_ := Aside0.mk (Kd.R_below (rk_ HO_368005) hb)
                  have n4_ := Aside0.mk (Kd.R_below (rk_ HO_378005) hb)
                  have n5_ := Aside0.mk (Kd.R_below (rk_ HO_389005) hb)
                  have n6_ := Aside0.mk (Kd.R_below (rk_ HO_399005) hb)
                  have n7_ := Aside0.mk (Kd.R_below (rk_ HO_412005) hb)
                  have n8_ := Aside0.mk (Kd.R_below (rk_ HO_424005) hb)
                  have n9_ := Aside0.mk (Kd.R_below (rk_ HO428) hb)
                  have n10_ := Aside0.mk (Kd.R_below (rk_ HO431) hb)
                  have n11_ := Aside0.mk (blk_below (bk_ BK326) hb)
                  have n12_ := Aside0.mk (blk_below (bk_ BK336) hb)
                  have n13_ := Aside0.mk (blk_below (bk_ BK346) hb)
                  have n14_ := Aside0.mk (blk_below (bk_ BK356) hb)
                  have n15_ := Aside0.mk (blk_below (bk_ BK367) hb)
                  have n16_ := Aside0.mk (blk_below (bk_ BK377) hb)
                  have n17_ := Aside0.mk (blk_below (bk_ BK388) hb)
                  have n18_ := Aside0.mk (blk_below (bk_ BK398) hb)
                  have n19_ := Aside0.mk (blk_below (bk_ BK411) hb)
                  have n20_ := Aside0.mk (blk_below (bk_ BK423) hb)
                  have n21_ := Aside0.mk (below_step bs_ hb)
                  clear HO_337005
                  clear HO_347005
                  clear HO_357005
                  clear HO_368005
                  clear HO_378005
                  clear HO_389005
                  clear HO_399005
                  clear HO_412005
                  clear HO_424005
                  clear HO428
                  clear HO431
                  clear BK326
                  clear BK336
                  clear BK346
                  clear BK356
                  clear BK367
                  clear BK377
                  clear BK388
                  clear BK398
                  clear BK411
                  clear BK423
                  clear HB
                  have HO_337005 := n0_
                  have HO_347005 := n1_
                  have HO_357005 := n2_
                  have HO_368005 := n3_
                  have HO_378005 := n4_
                  have HO_389005 := n5_
                  have HO_399005 := n6_
                  have HO_412005 := n7_
                  have HO_424005 := n8_
                  have HO428 := n9_
                  have HO431 := n10_
                  have BK326 := n11_
                  have BK336 := n12_
                  have BK346 := n13_
                  have BK356 := n14_
                  have BK367 := n15_
                  have BK377 := n16_
                  have BK388 := n17_
                  have BK398 := n18_
                  have BK411 := n19_
                  have BK423 := n20_
                  have HB := n21_
                  clear n0_ n1_ n2_ n3_ n4_ n5_ n6_ n7_ n8_ n9_ n10_ n11_ n12_ n13_ n14_ n15_ n16_ n17_ n18_ n19_ n20_ n21_
                  (try clear hb)
                  (try clear hb2)
                  (try clear hk)
                  (try clear hi)
                  refine hK.out _ _ ⟨(blk_cell BK326.out 0).trans rfl, (blk_cell BK326.out 1).trans rfl, (blk_cell BK326.out 2).trans rfl, (blk_cell BK326.out 3).trans rfl, (blk_cell BK326.out 4).trans rfl, (blk_cell BK326.out 5).trans rfl, (blk_cell BK336.out 0).trans rfl, (blk_cell BK336.out 1).trans rfl, (blk_cell BK336.out 2).trans rfl, (blk_cell BK336.out 3).trans rfl, (blk_cell BK336.out 4).trans rfl, (blk_cell BK336.out 5).trans rfl⟩ (fun hHeld => ?_)
                  clear hK K
                  refine norm_ (a' := ?_) ?_ ?_
                  rotate_left
                  ·show Act.put _ (some 145) _ = _
                   simp only [Act.put, List.setIfInBounds_toArray, List.set_cons_zero, List.set_cons_succ, i64_w, i32_w]
                   rfl
                  refine one_ (i := 22) (N := some 147) #[true, true, true, true, true, true, true, true, true, true, true, true, true, true, true, true, true, true, true, true, true, true, true, false, false, false] rfl rfl (one_of HT_.out (by kernel_rfl)) (by decide) (fun K hK => ?_)
                  refine goes_ Try.func24 (by kernel_rfl) rfl #[.agg #[.int .i64 a0_0, .int .i64 a0_1, .int .i64 a0_2, .int .i64 a0_3, .int .i64 a0_4, .slice A0_5 l0_5.length c0_5]] (by rfl) rfl rfl (by (try simp only [List.map_toArray, List.map_cons, List.map_nil]); first | done | rfl | (simp only [List.length_drop, List.length_take]; rfl)) ?_
                  with_reducible refine (drydockref17_May.calls kj171 a0_0 a0_1 a0_2 a0_3 a0_4 _ _ l0_5 t435 _ ?side1 ?side2 A263.out).mono ?_
                  (case side1 => repeat (first | exact (Kd.C_below HR0_5.out HB.out) | (with_reducible refine Kd.C_alloc ?_ _) | (with_reducible refine Kd.C_drewN ?_ _) | (with_reducible refine Kd.C_drew ?_)))
                  (case side2 => exact HC0_5.out)
                  rintro e w272 ⟨rfl, hb⟩
                  refine ⟨_, rfl, ?_⟩
                  have n0_ := Aside0.mk (Kd.R_below (rk_ HO_337005) hb)
                  have n1_ := Aside0.mk (Kd.R_below (rk_ HO_347005) hb)
                  have n2_ := Aside0.mk (Kd.R_below (rk_ HO_357005) hb)
                  have n3_ := Aside0.mk (Kd.R_below (rk_ HO_368005) hb)
                  have n4_ := Aside0.mk (Kd.R_below (rk_ HO_378005) hb)
                  have n5_ := Aside0.mk (Kd.R_below (rk_ HO_389005) hb)
                  have n6_ := Aside0.mk (Kd.R_below (rk_ HO_399005) hb)
                  have n7_ := Aside0.mk (Kd.R_below (rk_ HO_412005) hb)
                  have n8_ := Aside0.mk (Kd.R_below (rk_ HO_424005) hb)
                  have n9_ := Aside0.mk (Kd.R_below (rk_ HO428) hb)
                  have n10_ := Aside0.mk (Kd.R_below (rk_ HO431) hb)
                  have n11_ := Aside0.mk (blk_below (bk_ BK326) hb)
                  have n12_ := Aside0.mk (blk_below (bk_ BK336) hb)
                  have n13_ := Aside0.mk (blk_below (bk_ BK346) hb)
                  have n14_ := Aside0.mk (blk_below (bk_ BK356) hb)
                  have n15_ := Aside0.mk (blk_below (bk_ BK367) hb)
                  have n16_ := Aside0.mk (blk_below (bk_ BK377) hb)
                  have n17_ := Aside0.mk (blk_below (bk_ BK388) hb)
                  have n18_ := Aside0.mk (blk_below (bk_ BK398) hb)
                  have n19_ := Aside0.mk (blk_below (bk_ BK411) hb)
                  have n20_ := Aside0.mk (blk_below (bk_ BK423) hb)
                  have n21_ := Aside0.mk (below_step bs_ hb)
                  clear HO_337005
                  clear HO_347005
                  clear HO_357005
                  clear HO_368005
                  clear HO_378005
                  clear HO_389005
                  clear HO_399005
                  clear HO_412005
                  clear HO_424005
                  clear HO428
                  clear HO431
                  clear BK326
                  clear BK336
                  clear BK346
                  clear BK356
                  clear BK367
                  clear BK377
                  clear BK388
                  clear BK398
                  clear BK411
                  clear BK423
                  clear HB
                  have HO_337005 := n0_
                  have HO_347005 := n1_
                  have HO_357005 := n2_
                  have HO_368005 := n3_
                  have HO_378005 := n4_
                  have HO_389005 := n5_
                  have HO_399005 := n6_
                  have HO_412005 := n7_
                  have HO_424005 := n8_
                  have HO428 := n9_
                  have HO431 := n10_
                  have BK326 := n11_
                  have BK336 := n12_
                  have BK346 := n13_
                  have BK356 := n14_
                  have BK367 := n15_
                  have BK377 := n16_
                  have BK388 := n17_
                  have BK398 := n18_
                  have BK411 := n19_
                  have BK423 := n20_
                  have HB := n21_
                  clear n0_ n1_ n2_ n3_ n4_ n5_ n6_ n7_ n8_ n9_ n10_ n11_ n12_ n13_ n14_ n15_ n16_ n17_ n18_ n19_ n20_ n21_
                  (try clear hb)
                  (try clear hb2)
                  (try clear hk)
                  (try clear hi)
                  refine hK.out _ _ ⟨(blk_cell BK326.out 0).trans rfl, (blk_cell BK326.out 1).trans rfl, (blk_cell BK326.out 2).trans rfl, (blk_cell BK326.out 3).trans rfl, (blk_cell BK326.out 4).trans rfl, (blk_cell BK326.out 5).trans rfl, (blk_cell BK336.out 0).trans rfl, (blk_cell BK336.out 1).trans rfl, (blk_cell BK336.out 2).trans rfl, (blk_cell BK336.out 3).trans rfl, (blk_cell BK336.out 4).trans rfl, (blk_cell BK336.out 5).trans rfl⟩ (fun hHeld => ?_)
                  clear hK K
                  refine norm_ (a' := ?_) ?_ ?_
                  rotate_left
                  ·show Act.put _ (some 147) _ = _
                   simp only [Act.put, List.setIfInBounds_toArray, List.set_cons_zero, List.set_cons_succ, i64_w, i32_w]
                   rfl
                  refine pv_ 23 (some 148) HT_ (h := ?_)
                  refine pv_ 24 (some 149) HT_ (h := ?_)
                  refine pv_ 25 (some 6) HT_ (h := ?_)
                  refine done_ (done_of HT_.out (by kernel_rfl)) ?_
                  try go_wp2
                  go_ret
                  exact ⟨by first | rfl | (simp [errW_none, errW_some] <;> rfl) | (simp [*, errW_none, errW_some] <;> rfl), by repeat (first | (with_reducible first | exact HB.out | apply below_alloc | apply pw_below_drewN | apply below_drew1 | refine below_set ?_ GE326.out | refine below_set ?_ GE336.out | refine below_set ?_ GE346.out | refine below_set ?_ GE356.out | refine below_set ?_ GE367.out | refine below_set ?_ GE377.out | refine below_set ?_ GE388.out | refine below_set ?_ GE398.out | refine below_set ?_ GE411.out | refine below_set ?_ GE423.out) | exact HB.out)⟩
                 ·replace c261 := Bool.eq_false_iff.mpr c261
                  subst c261
                  have H1 : (none) = some r := by rw [if_neg (show ¬ (false = true) by decide)] at H; exact H
                  clear H
                  have H := H1
                  clear H1
                  exact absurd H (by simp)
                ·replace c259 := Bool.eq_false_iff.mpr c259
                 subst c259
                 have H1 : (none) = some r := by rw [if_neg (show ¬ (false = true) by decide)] at H; exact H
                 clear H
                 have H := H1
                 clear H1
                 exact absurd H (by simp)
               ·replace c258 := Bool.eq_false_iff.mpr c258
                subst c258
                have H1 : (none) = some r := by rw [if_neg (show ¬ (false = true) by decide)] at H; exact H
                clear H
                have H := H1
                clear H1
                exact absurd H (by simp)
              ·replace c257 := Bool.eq_false_iff.mpr c257
               subst c257
               have H1 : (none) = some r := by rw [if_neg (show ¬ (false = true) by decide)] at H; exact H
               clear H
               have H := H1
               clear H1
               exact absurd H (by simp)
             ·replace c256 := Bool.eq_false_iff.mpr c256
              subst c256
              have H1 : (none) = some r := by rw [if_neg (show ¬ (false = true) by decide)] at H; exact H
              clear H
              have H := H1
              clear H1
              exact absurd H (by simp)
            ·replace c255 := Bool.eq_false_iff.mpr c255
             subst c255
             have H1 : (none) = some r := by rw [if_neg (show ¬ (false = true) by decide)] at H; exact H
             clear H
             have H := H1
             clear H1
             exact absurd H (by simp)

end Go.Proofs.Ytipnfcicpnmggaa.P
