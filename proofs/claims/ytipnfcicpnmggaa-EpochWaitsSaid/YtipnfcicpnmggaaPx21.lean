-- Written by a program of this session over the kit's print of the translation. Lean checks it.
import Derived.Test.YtipnfcicpnmggaaPx0
import Derived.Test.YtipnfcicpnmggaaPx5
import Derived.Test.YtipnfcicpnmggaaPx6
import Derived.Test.YtipnfcicpnmggaaPx7
import Derived.Test.YtipnfcicpnmggaaPx8
import Derived.Test.YtipnfcicpnmggaaPx10
import Derived.Test.YtipnfcicpnmggaaPx11
import Derived.Test.YtipnfcicpnmggaaSel
-- shorter
namespace Go.Proofs.Ytipnfcicpnmggaa.P
open Go.RowKit Go.Proofs.YtipnfcicpnmggaaW.PrintWords Go.Proofs.YtipnfcicpnmggaaW.PrintLast Go.Proofs.YtipnfcicpnmggaaW.PrintMore
attribute [local go_sem] max2_int min2_int max_two min_two max_three min_three max_four min_four   -- for this text's walks alone
set_option linter.unusedVariables false
set_option linter.unusedSimpArgs false

/-! ### drydocklaw17_EpochWaits: function 4 -/
mutual
def drydocklaw17_EpochWaits.l0 : Nat → Bool → Int → Bool → Bool → Bool → Bool → Bool → Bool → Bool → Bool → Bool → Bool → Bool → Bool → Int → Int → Int → Int → Int → List (S43) → Option (Bool)
  | 0, _, _, _, _, _, _, _, _, _, _, _, _, _, _, _, _, _, _, _, _ => none
  | k + 1, x7, x9, x437000, x437001, x437002, x437003, x438000, x438001, x438002, x438003, x439000, x439001, x439002, x439003, x441000, x441001, x441002, x441003, x441004, x441005 => if x9 < 4 then (if 0 ≤ x9 then (if sel4B x437000 x437001 x437002 x437003 x9 = true then ((epoch_Enter.f k x441000 x441001 x441002 x441003 x441004 x441005 x9).bind fun bt441 => (drydocklaw17_EpochWaits.l0 k x7 (wrap64 (x9 + 1)) x437000 x437001 x437002 x437003 x438000 x438001 x438002 x438003 x439000 x439001 x439002 x439003 bt441.1 bt441.2.1 bt441.2.2.1 bt441.2.2.2.1 bt441.2.2.2.2.1 bt441.2.2.2.2.2.1)) else (drydocklaw17_EpochWaits.l0 k x7 (wrap64 (x9 + 1)) x437000 x437001 x437002 x437003 x438000 x438001 x438002 x438003 x439000 x439001 x439002 x439003 x441000 x441001 x441002 x441003 x441004 x441005)) else (none)) else ((epoch_Retire.f k x441000 x441001 x441002 x441003 x441004 x441005 7).bind fun bt450 => (drydocklaw17_EpochWaits.l1 k x7 bt450.2.2.2.2.2.2 false 0 x437000 x437001 x437002 x437003 x438000 x438001 x438002 x438003 x439000 x439001 x439002 x439003 bt450.1 bt450.2.1 bt450.2.2.1 bt450.2.2.2.1 bt450.2.2.2.2.1 bt450.2.2.2.2.2.1))
def drydocklaw17_EpochWaits.l1 : Nat → Bool → Int → Bool → Int → Bool → Bool → Bool → Bool → Bool → Bool → Bool → Bool → Bool → Bool → Bool → Bool → Int → Int → Int → Int → Int → List (S43) → Option (Bool)
  | 0, _, _, _, _, _, _, _, _, _, _, _, _, _, _, _, _, _, _, _, _, _, _ => none
  | k + 1, x7, x10, x11, x12, x437000, x437001, x437002, x437003, x438000, x438001, x438002, x438003, x439000, x439001, x439002, x439003, x441000, x441001, x441002, x441003, x441004, x441005 => if x12 < 4 then (if 0 ≤ x12 then (if sel4B x437000 x437001 x437002 x437003 x12 = true then (drydocklaw17_EpochWaits.j2 k x7 x10 x11 x12 (sel4B x439000 x439001 x439002 x439003 x12) x437000 x437001 x437002 x437003 x438000 x438001 x438002 x438003 x439000 x439001 x439002 x439003 x441000 x441001 x441002 x441003 x441004 x441005) else (drydocklaw17_EpochWaits.j2 k x7 x10 x11 x12 false x437000 x437001 x437002 x437003 x438000 x438001 x438002 x438003 x439000 x439001 x439002 x439003 x441000 x441001 x441002 x441003 x441004 x441005)) else (none)) else ((epoch_Ready.f k x441000 x441001 x441002 x441003 x441004 x441005).bind fun t486 => ((epoch_Clear.f k x441000 x441001 x441002 x441003 x441004 x441005).bind fun bt489 => (if x7 = true then (if x10 = 0 then ((drydockref01_Ints.f k t486 bt489.2.2.2.2.2.2).bind fun t501 => (if t501 = true then (if (((t486.length : Int) == 0) == x11) = true then (if x11 = true then ((epoch_May.f k x441000 x441001 x441002 x441003 x441004 x441005).bind fun t502 => (some t502)) else (if 0 < (t486.length : Int) then (if (rd t486 0) = 7 then ((epoch_May.f k x441000 x441001 x441002 x441003 x441004 x441005).bind fun t504 => (some t504)) else (none)) else (none))) else (none)) else (none))) else (none)) else (none))))
def drydocklaw17_EpochWaits.j2 : Nat → Bool → Int → Bool → Int → Bool → Bool → Bool → Bool → Bool → Bool → Bool → Bool → Bool → Bool → Bool → Bool → Bool → Int → Int → Int → Int → Int → List (S43) → Option (Bool)
  | 0, _, _, _, _, _, _, _, _, _, _, _, _, _, _, _, _, _, _, _, _, _, _, _ => none
  | k + 1, x7, x10, x11, x12, x47, x437000, x437001, x437002, x437003, x438000, x438001, x438002, x438003, x439000, x439001, x439002, x439003, x441000, x441001, x441002, x441003, x441004, x441005 => if x47 = true then ((epoch_Leave.f k x441000 x441001 x441002 x441003 x441004 x441005 x12).bind fun bt459 => (if 0 ≤ x12 then (if x12 < 4 then (if sel4B x437000 x437001 x437002 x437003 x12 = true then (if x11 = true then (drydocklaw17_EpochWaits.l1 k x7 x10 true (wrap64 (x12 + 1)) x437000 x437001 x437002 x437003 x438000 x438001 x438002 x438003 x439000 x439001 x439002 x439003 bt459.1 bt459.2.1 bt459.2.2.1 bt459.2.2.2.1 bt459.2.2.2.2.1 bt459.2.2.2.2.2.1) else (drydocklaw17_EpochWaits.l1 k x7 x10 (!(sel4B x439000 x439001 x439002 x439003 x12)) (wrap64 (x12 + 1)) x437000 x437001 x437002 x437003 x438000 x438001 x438002 x438003 x439000 x439001 x439002 x439003 bt459.1 bt459.2.1 bt459.2.2.1 bt459.2.2.2.1 bt459.2.2.2.2.1 bt459.2.2.2.2.2.1)) else (if sel4B x438000 x438001 x438002 x438003 x12 = true then ((epoch_Enter.f k bt459.1 bt459.2.1 bt459.2.2.1 bt459.2.2.2.1 bt459.2.2.2.2.1 bt459.2.2.2.2.2.1 x12).bind fun bt468 => (if x11 = true then (drydocklaw17_EpochWaits.l1 k x7 x10 true (wrap64 (x12 + 1)) x437000 x437001 x437002 x437003 x438000 x438001 x438002 x438003 x439000 x439001 x439002 x439003 bt468.1 bt468.2.1 bt468.2.2.1 bt468.2.2.2.1 bt468.2.2.2.2.1 bt468.2.2.2.2.2.1) else (drydocklaw17_EpochWaits.l1 k x7 x10 false (wrap64 (x12 + 1)) x437000 x437001 x437002 x437003 x438000 x438001 x438002 x438003 x439000 x439001 x439002 x439003 bt468.1 bt468.2.1 bt468.2.2.1 bt468.2.2.2.1 bt468.2.2.2.2.1 bt468.2.2.2.2.2.1))) else (if x11 = true then (drydocklaw17_EpochWaits.l1 k x7 x10 true (wrap64 (x12 + 1)) x437000 x437001 x437002 x437003 x438000 x438001 x438002 x438003 x439000 x439001 x439002 x439003 bt459.1 bt459.2.1 bt459.2.2.1 bt459.2.2.2.1 bt459.2.2.2.2.1 bt459.2.2.2.2.2.1) else (drydocklaw17_EpochWaits.l1 k x7 x10 false (wrap64 (x12 + 1)) x437000 x437001 x437002 x437003 x438000 x438001 x438002 x438003 x439000 x439001 x439002 x439003 bt459.1 bt459.2.1 bt459.2.2.1 bt459.2.2.2.1 bt459.2.2.2.2.1 bt459.2.2.2.2.2.1)))) else (none)) else (none))) else (if 0 ≤ x12 then (if x12 < 4 then (if sel4B x437000 x437001 x437002 x437003 x12 = true then (if x11 = true then (drydocklaw17_EpochWaits.l1 k x7 x10 true (wrap64 (x12 + 1)) x437000 x437001 x437002 x437003 x438000 x438001 x438002 x438003 x439000 x439001 x439002 x439003 x441000 x441001 x441002 x441003 x441004 x441005) else (drydocklaw17_EpochWaits.l1 k x7 x10 (!(sel4B x439000 x439001 x439002 x439003 x12)) (wrap64 (x12 + 1)) x437000 x437001 x437002 x437003 x438000 x438001 x438002 x438003 x439000 x439001 x439002 x439003 x441000 x441001 x441002 x441003 x441004 x441005)) else (if sel4B x438000 x438001 x438002 x438003 x12 = true then ((epoch_Enter.f k x441000 x441001 x441002 x441003 x441004 x441005 x12).bind fun bt477 => (if x11 = true then (drydocklaw17_EpochWaits.l1 k x7 x10 true (wrap64 (x12 + 1)) x437000 x437001 x437002 x437003 x438000 x438001 x438002 x438003 x439000 x439001 x439002 x439003 bt477.1 bt477.2.1 bt477.2.2.1 bt477.2.2.2.1 bt477.2.2.2.2.1 bt477.2.2.2.2.2.1) else (drydocklaw17_EpochWaits.l1 k x7 x10 false (wrap64 (x12 + 1)) x437000 x437001 x437002 x437003 x438000 x438001 x438002 x438003 x439000 x439001 x439002 x439003 bt477.1 bt477.2.1 bt477.2.2.1 bt477.2.2.2.1 bt477.2.2.2.2.1 bt477.2.2.2.2.2.1))) else (if x11 = true then (drydocklaw17_EpochWaits.l1 k x7 x10 true (wrap64 (x12 + 1)) x437000 x437001 x437002 x437003 x438000 x438001 x438002 x438003 x439000 x439001 x439002 x439003 x441000 x441001 x441002 x441003 x441004 x441005) else (drydocklaw17_EpochWaits.l1 k x7 x10 false (wrap64 (x12 + 1)) x437000 x437001 x437002 x437003 x438000 x438001 x438002 x438003 x439000 x439001 x439002 x439003 x441000 x441001 x441002 x441003 x441004 x441005)))) else (none)) else (none))
end
def drydocklaw17_EpochWaits.f (k : Nat) (a0_0 : Bool) (a0_1 : Bool) (a0_2 : Bool) (a0_3 : Bool) (a1_0 : Bool) (a1_1 : Bool) (a1_2 : Bool) (a1_3 : Bool) (a2_0 : Bool) (a2_1 : Bool) (a2_2 : Bool) (a2_3 : Bool) : Option (Bool) := (drydocklaw17_awake.f k).bind fun t439 => (drydocklaw17_EpochWaits.l0 k t439 0 a0_0 a0_1 a0_2 a0_3 a1_0 a1_1 a1_2 a1_3 a2_0 a2_1 a2_2 a2_3 1 0 0 0 0 ([] : List (S43)))
theorem drydocklaw17_EpochWaits.mono_l : ∀ k, (∀ y0 y1 y2 y3 y4 y5 y6 y7 y8 y9 y10 y11 y12 y13 y14 y15 y16 y17 y18 y19, LeO (drydocklaw17_EpochWaits.l0 k y0 y1 y2 y3 y4 y5 y6 y7 y8 y9 y10 y11 y12 y13 y14 y15 y16 y17 y18 y19) (drydocklaw17_EpochWaits.l0 (k + 1) y0 y1 y2 y3 y4 y5 y6 y7 y8 y9 y10 y11 y12 y13 y14 y15 y16 y17 y18 y19)) ∧ (∀ y0 y1 y2 y3 y4 y5 y6 y7 y8 y9 y10 y11 y12 y13 y14 y15 y16 y17 y18 y19 y20 y21, LeO (drydocklaw17_EpochWaits.l1 k y0 y1 y2 y3 y4 y5 y6 y7 y8 y9 y10 y11 y12 y13 y14 y15 y16 y17 y18 y19 y20 y21) (drydocklaw17_EpochWaits.l1 (k + 1) y0 y1 y2 y3 y4 y5 y6 y7 y8 y9 y10 y11 y12 y13 y14 y15 y16 y17 y18 y19 y20 y21)) ∧ (∀ y0 y1 y2 y3 y4 y5 y6 y7 y8 y9 y10 y11 y12 y13 y14 y15 y16 y17 y18 y19 y20 y21 y22, LeO (drydocklaw17_EpochWaits.j2 k y0 y1 y2 y3 y4 y5 y6 y7 y8 y9 y10 y11 y12 y13 y14 y15 y16 y17 y18 y19 y20 y21 y22) (drydocklaw17_EpochWaits.j2 (k + 1) y0 y1 y2 y3 y4 y5 y6 y7 y8 y9 y10 y11 y12 y13 y14 y15 y16 y17 y18 y19 y20 y21 y22))
  | 0 => ⟨fun _ _ _ _ _ _ _ _ _ _ _ _ _ _ _ _ _ _ _ _ r h => by simp [drydocklaw17_EpochWaits.l0] at h, fun _ _ _ _ _ _ _ _ _ _ _ _ _ _ _ _ _ _ _ _ _ _ r h => by simp [drydocklaw17_EpochWaits.l1] at h, fun _ _ _ _ _ _ _ _ _ _ _ _ _ _ _ _ _ _ _ _ _ _ _ r h => by simp [drydocklaw17_EpochWaits.j2] at h⟩
  | k + 1 => by
    obtain ⟨ih0, ih1, ih2⟩ := drydocklaw17_EpochWaits.mono_l k
    refine ⟨?_, ?_, ?_⟩
    · intro y0 y1 y2 y3 y4 y5 y6 y7 y8 y9 y10 y11 y12 y13 y14 y15 y16 y17 y18 y19
      unfold drydocklaw17_EpochWaits.l0
      repeat' first
      | (with_reducible exact ih0 _ _ _ _ _ _ _ _ _ _ _ _ _ _ _ _ _ _ _ _)
      | (with_reducible exact ih1 _ _ _ _ _ _ _ _ _ _ _ _ _ _ _ _ _ _ _ _ _ _)
      | (with_reducible exact ih2 _ _ _ _ _ _ _ _ _ _ _ _ _ _ _ _ _ _ _ _ _ _ _)
      | (with_reducible exact drydocklaw17_awake.mono _)
      | (with_reducible exact drydockref01_Ints.mono _ _ _)
      | (with_reducible exact epoch_Clear.mono _ _ _ _ _ _ _)
      | (with_reducible exact epoch_Enter.mono _ _ _ _ _ _ _ _)
      | (with_reducible exact epoch_Leave.mono _ _ _ _ _ _ _ _)
      | (with_reducible exact epoch_May.mono _ _ _ _ _ _ _)
      | (with_reducible exact epoch_Ready.mono _ _ _ _ _ _ _)
      | (with_reducible exact epoch_Retire.mono _ _ _ _ _ _ _ _)
      | (with_reducible exact LeO.refl _)
      | (with_reducible exact LeO.none _)
      | (with_reducible refine LeO.ite ?_ ?_)
      | (with_reducible refine LeO.bind ?_ (fun _ => ?_))
      | exact ih0 _ _ _ _ _ _ _ _ _ _ _ _ _ _ _ _ _ _ _ _
      | exact ih1 _ _ _ _ _ _ _ _ _ _ _ _ _ _ _ _ _ _ _ _ _ _
      | exact ih2 _ _ _ _ _ _ _ _ _ _ _ _ _ _ _ _ _ _ _ _ _ _ _
      | exact drydocklaw17_awake.mono _
      | exact drydockref01_Ints.mono _ _ _
      | exact epoch_Clear.mono _ _ _ _ _ _ _
      | exact epoch_Enter.mono _ _ _ _ _ _ _ _
      | exact epoch_Leave.mono _ _ _ _ _ _ _ _
      | exact epoch_May.mono _ _ _ _ _ _ _
      | exact epoch_Ready.mono _ _ _ _ _ _ _
      | exact epoch_Retire.mono _ _ _ _ _ _ _ _
      | exact LeO.none _
      | refine LeO.ite ?_ ?_
      | refine LeO.bind ?_ (fun _ => ?_)
    · intro y0 y1 y2 y3 y4 y5 y6 y7 y8 y9 y10 y11 y12 y13 y14 y15 y16 y17 y18 y19 y20 y21
      unfold drydocklaw17_EpochWaits.l1
      repeat' first
      | (with_reducible exact ih0 _ _ _ _ _ _ _ _ _ _ _ _ _ _ _ _ _ _ _ _)
      | (with_reducible exact ih1 _ _ _ _ _ _ _ _ _ _ _ _ _ _ _ _ _ _ _ _ _ _)
      | (with_reducible exact ih2 _ _ _ _ _ _ _ _ _ _ _ _ _ _ _ _ _ _ _ _ _ _ _)
      | (with_reducible exact drydocklaw17_awake.mono _)
      | (with_reducible exact drydockref01_Ints.mono _ _ _)
      | (with_reducible exact epoch_Clear.mono _ _ _ _ _ _ _)
      | (with_reducible exact epoch_Enter.mono _ _ _ _ _ _ _ _)
      | (with_reducible exact epoch_Leave.mono _ _ _ _ _ _ _ _)
      | (with_reducible exact epoch_May.mono _ _ _ _ _ _ _)
      | (with_reducible exact epoch_Ready.mono _ _ _ _ _ _ _)
      | (with_reducible exact epoch_Retire.mono _ _ _ _ _ _ _ _)
      | (with_reducible exact LeO.refl _)
      | (with_reducible exact LeO.none _)
      | (with_reducible refine LeO.ite ?_ ?_)
      | (with_reducible refine LeO.bind ?_ (fun _ => ?_))
      | exact ih0 _ _ _ _ _ _ _ _ _ _ _ _ _ _ _ _ _ _ _ _
      | exact ih1 _ _ _ _ _ _ _ _ _ _ _ _ _ _ _ _ _ _ _ _ _ _
      | exact ih2 _ _ _ _ _ _ _ _ _ _ _ _ _ _ _ _ _ _ _ _ _ _ _
      | exact drydocklaw17_awake.mono _
      | exact drydockref01_Ints.mono _ _ _
      | exact epoch_Clear.mono _ _ _ _ _ _ _
      | exact epoch_Enter.mono _ _ _ _ _ _ _ _
      | exact epoch_Leave.mono _ _ _ _ _ _ _ _
      | exact epoch_May.mono _ _ _ _ _ _ _
      | exact epoch_Ready.mono _ _ _ _ _ _ _
      | exact epoch_Retire.mono _ _ _ _ _ _ _ _
      | exact LeO.none _
      | refine LeO.ite ?_ ?_
      | refine LeO.bind ?_ (fun _ => ?_)
    · intro y0 y1 y2 y3 y4 y5 y6 y7 y8 y9 y10 y11 y12 y13 y14 y15 y16 y17 y18 y19 y20 y21 y22
      unfold drydocklaw17_EpochWaits.j2
      repeat' first
      | (with_reducible exact ih0 _ _ _ _ _ _ _ _ _ _ _ _ _ _ _ _ _ _ _ _)
      | (with_reducible exact ih1 _ _ _ _ _ _ _ _ _ _ _ _ _ _ _ _ _ _ _ _ _ _)
      | (with_reducible exact ih2 _ _ _ _ _ _ _ _ _ _ _ _ _ _ _ _ _ _ _ _ _ _ _)
      | (with_reducible exact drydocklaw17_awake.mono _)
      | (with_reducible exact drydockref01_Ints.mono _ _ _)
      | (with_reducible exact epoch_Clear.mono _ _ _ _ _ _ _)
      | (with_reducible exact epoch_Enter.mono _ _ _ _ _ _ _ _)
      | (with_reducible exact epoch_Leave.mono _ _ _ _ _ _ _ _)
      | (with_reducible exact epoch_May.mono _ _ _ _ _ _ _)
      | (with_reducible exact epoch_Ready.mono _ _ _ _ _ _ _)
      | (with_reducible exact epoch_Retire.mono _ _ _ _ _ _ _ _)
      | (with_reducible exact LeO.refl _)
      | (with_reducible exact LeO.none _)
      | (with_reducible refine LeO.ite ?_ ?_)
      | (with_reducible refine LeO.bind ?_ (fun _ => ?_))
      | exact ih0 _ _ _ _ _ _ _ _ _ _ _ _ _ _ _ _ _ _ _ _
      | exact ih1 _ _ _ _ _ _ _ _ _ _ _ _ _ _ _ _ _ _ _ _ _ _
      | exact ih2 _ _ _ _ _ _ _ _ _ _ _ _ _ _ _ _ _ _ _ _ _ _ _
      | exact drydocklaw17_awake.mono _
      | exact drydockref01_Ints.mono _ _ _
      | exact epoch_Clear.mono _ _ _ _ _ _ _
      | exact epoch_Enter.mono _ _ _ _ _ _ _ _
      | exact epoch_Leave.mono _ _ _ _ _ _ _ _
      | exact epoch_May.mono _ _ _ _ _ _ _
      | exact epoch_Ready.mono _ _ _ _ _ _ _
      | exact epoch_Retire.mono _ _ _ _ _ _ _ _
      | exact LeO.none _
      | refine LeO.ite ?_ ?_
      | refine LeO.bind ?_ (fun _ => ?_)
theorem drydocklaw17_EpochWaits.mono : ∀ a0 a1 a2 a3 a4 a5 a6 a7 a8 a9 a10 a11 k, LeO (drydocklaw17_EpochWaits.f k a0 a1 a2 a3 a4 a5 a6 a7 a8 a9 a10 a11) (drydocklaw17_EpochWaits.f (k + 1) a0 a1 a2 a3 a4 a5 a6 a7 a8 a9 a10 a11) := by
 intro a0 a1 a2 a3 a4 a5 a6 a7 a8 a9 a10 a11 k
 obtain ⟨ih0, ih1, ih2⟩ := drydocklaw17_EpochWaits.mono_l k
 unfold drydocklaw17_EpochWaits.f
 repeat' first
  | (with_reducible exact ih0 _ _ _ _ _ _ _ _ _ _ _ _ _ _ _ _ _ _ _ _)
  | (with_reducible exact ih1 _ _ _ _ _ _ _ _ _ _ _ _ _ _ _ _ _ _ _ _ _ _)
  | (with_reducible exact ih2 _ _ _ _ _ _ _ _ _ _ _ _ _ _ _ _ _ _ _ _ _ _ _)
  | (with_reducible exact drydocklaw17_awake.mono _)
  | (with_reducible exact drydockref01_Ints.mono _ _ _)
  | (with_reducible exact epoch_Clear.mono _ _ _ _ _ _ _)
  | (with_reducible exact epoch_Enter.mono _ _ _ _ _ _ _ _)
  | (with_reducible exact epoch_Leave.mono _ _ _ _ _ _ _ _)
  | (with_reducible exact epoch_May.mono _ _ _ _ _ _ _)
  | (with_reducible exact epoch_Ready.mono _ _ _ _ _ _ _)
  | (with_reducible exact epoch_Retire.mono _ _ _ _ _ _ _ _)
  | (with_reducible exact LeO.refl _)
  | (with_reducible exact LeO.none _)
  | (with_reducible refine LeO.ite ?_ ?_)
  | (with_reducible refine LeO.bind ?_ (fun _ => ?_))
  | exact ih0 _ _ _ _ _ _ _ _ _ _ _ _ _ _ _ _ _ _ _ _
  | exact ih1 _ _ _ _ _ _ _ _ _ _ _ _ _ _ _ _ _ _ _ _ _ _
  | exact ih2 _ _ _ _ _ _ _ _ _ _ _ _ _ _ _ _ _ _ _ _ _ _ _
  | exact drydocklaw17_awake.mono _
  | exact drydockref01_Ints.mono _ _ _
  | exact epoch_Clear.mono _ _ _ _ _ _ _
  | exact epoch_Enter.mono _ _ _ _ _ _ _ _
  | exact epoch_Leave.mono _ _ _ _ _ _ _ _
  | exact epoch_May.mono _ _ _ _ _ _ _
  | exact epoch_Ready.mono _ _ _ _ _ _ _
  | exact epoch_Retire.mono _ _ _ _ _ _ _ _
  | exact LeO.none _
  | refine LeO.ite ?_ ?_
  | refine LeO.bind ?_ (fun _ => ?_)
set_option maxHeartbeats 8000000 in
set_option maxRecDepth 100000 in
theorem drydocklaw17_EpochWaits.calls (k : Nat) (a0_0 : Bool) (a0_1 : Bool) (a0_2 : Bool) (a0_3 : Bool) (a1_0 : Bool) (a1_1 : Bool) (a1_2 : Bool) (a1_3 : Bool) (a2_0 : Bool) (a2_1 : Bool) (a2_2 : Bool) (a2_3 : Bool) (r : Bool) (w : World) (h : drydocklaw17_EpochWaits.f k a0_0 a0_1 a0_2 a0_3 a1_0 a1_1 a1_2 a1_3 a2_0 a2_1 a2_2 a2_3 = some r) :
    Calls Try.prog 4 #[.agg #[.bool a0_0, .bool a0_1, .bool a0_2, .bool a0_3], .agg #[.bool a1_0, .bool a1_1, .bool a1_2, .bool a1_3], .agg #[.bool a2_0, .bool a2_1, .bool a2_2, .bool a2_3]] w fun e w' => e = .returned (.bool r) ∧ Below w.heap.size w w' := by
 have hu39 := Try.underlying39
 have hu25 := Try.underlying25
 have HB := Aside0.mk (Below.refl w.heap.size w)
 have H : ((drydocklaw17_awake.f k).bind fun t439 => (drydocklaw17_EpochWaits.l0 k t439 0 a0_0 a0_1 a0_2 a0_3 a1_0 a1_1 a1_2 a1_3 a2_0 a2_1 a2_2 a2_3 1 0 0 0 0 ([] : List (S43)))) = some r := h
 clear h
 replace H := Option.bind_eq_some_iff.mp H
 obtain ⟨t439, A40, H⟩ := H
 replace H : (drydocklaw17_EpochWaits.l0 k t439 0 a0_0 a0_1 a0_2 a0_3 a1_0 a1_1 a1_2 a1_3 a2_0 a2_1 a2_2 a2_3 1 0 0 0 0 ([] : List (S43))) = some r := H
 have A4 := Aside0.mk A40
 clear A40
 have H' := Aside0.mk H
 clear H
 go_enter Try.func4, Try.ntmps4
 go_wp2_with (first | ((with_reducible refine gate_dst (N := 3) rfl ?_); (try (refine gate_guard (by rfl) ?_; dsimp only)); refine box_event ?hg (N := 3) ?hd (cs := #[.bool a0_0, .bool a0_1, .bool a0_2, .bool a0_3]) (t := 39) ?hr ?_; (case hd => rfl); (case hg => rfl); (case hr => first | (go_simp; done) | (go_simp; rfl)); intro gb436 hg w5 hbox hb; have n0_ := Aside0.mk (below_step bs_ hb); have n1_ := Aside0.mk (hbox); have n2_ := Aside0.mk ((by rw [hg]; exact (below_size bs_) : w.heap.size ≤ gb436)); have n3_ := Aside0.mk ((by rw [hg]; exact (below_size bs_) : w.heap.size ≤ gb436)); clear HB; have HB := n0_; have BK436 := n1_; have GW436 := n2_; have GE436 := n3_; clear n0_ n1_ n2_ n3_; clear hb hbox hg) | ((with_reducible refine gate_dst (N := 4) rfl ?_); (try (refine gate_guard (by rfl) ?_; dsimp only)); refine box_event ?hg (N := 4) ?hd (cs := #[.bool a1_0, .bool a1_1, .bool a1_2, .bool a1_3]) (t := 39) ?hr ?_; (case hd => rfl); (case hg => rfl); (case hr => first | (go_simp; done) | (go_simp; rfl)); intro gb437 hg w6 hbox hb; have n0_ := Aside0.mk (blk_below (bk_ BK436) hb); have n1_ := Aside0.mk (below_step bs_ hb); have n2_ := Aside0.mk (hbox); have n3_ := Aside0.mk ((by rw [hg]; exact (below_size bs_) : w.heap.size ≤ gb437)); have n4_ := Aside0.mk ((by rw [hg]; exact (below_size bs_) : w.heap.size ≤ gb437)); have n5_ := Aside0.mk ((by rw [hg]; exact Nat.ne_of_lt (blk_lt (bk_ BK436)) : gb436 ≠ gb437)); have n6_ := Aside0.mk ((by rw [hg]; exact Nat.ne_of_gt (blk_lt (bk_ BK436)) : gb437 ≠ gb436)); clear BK436 HB; have BK436 := n0_; have HB := n1_; have BK437 := n2_; have GW437 := n3_; have GE437 := n4_; have NB436_437 := n5_; have NB437_436 := n6_; clear n0_ n1_ n2_ n3_ n4_ n5_ n6_; clear hb hbox hg) | ((with_reducible refine gate_dst (N := 5) rfl ?_); (try (refine gate_guard (by rfl) ?_; dsimp only)); refine box_event ?hg (N := 5) ?hd (cs := #[.bool a2_0, .bool a2_1, .bool a2_2, .bool a2_3]) (t := 39) ?hr ?_; (case hd => rfl); (case hg => rfl); (case hr => first | (go_simp; done) | (go_simp; rfl)); intro gb438 hg w7 hbox hb; have n0_ := Aside0.mk (blk_below (bk_ BK436) hb); have n1_ := Aside0.mk (blk_below (bk_ BK437) hb); have n2_ := Aside0.mk (below_step bs_ hb); have n3_ := Aside0.mk (hbox); have n4_ := Aside0.mk ((by rw [hg]; exact (below_size bs_) : w.heap.size ≤ gb438)); have n5_ := Aside0.mk ((by rw [hg]; exact (below_size bs_) : w.heap.size ≤ gb438)); have n6_ := Aside0.mk ((by rw [hg]; exact Nat.ne_of_lt (blk_lt (bk_ BK436)) : gb436 ≠ gb438)); have n7_ := Aside0.mk ((by rw [hg]; exact Nat.ne_of_gt (blk_lt (bk_ BK436)) : gb438 ≠ gb436)); have n8_ := Aside0.mk ((by rw [hg]; exact Nat.ne_of_lt (blk_lt (bk_ BK437)) : gb437 ≠ gb438)); have n9_ := Aside0.mk ((by rw [hg]; exact Nat.ne_of_gt (blk_lt (bk_ BK437)) : gb438 ≠ gb437)); clear BK436 BK437 HB; have BK436 := n0_; have BK437 := n1_; have HB := n2_; have BK438 := n3_; have GW438 := n4_; have GE438 := n5_; have NB436_438 := n6_; have NB438_436 := n7_; have NB437_438 := n8_; have NB438_437 := n9_; clear n0_ n1_ n2_ n3_ n4_ n5_ n6_ n7_ n8_ n9_; clear hb hbox hg) | ((with_reducible refine gate_callee (f := 9) rfl ?_); refine goesL_ (some 16) rfl rfl Try.func9 (by kernel_rfl) rfl #[] rfl (by (try simp only [List.map_toArray, List.map_cons, List.map_nil]); first | done | rfl | (simp only [List.length_drop, List.length_take]; rfl)) ?_; (with_reducible refine (drydocklaw17_awake.calls k  t439 _ A4.out).mono ?_); rintro e w8 ⟨rfl, hb⟩; refine ⟨_, rfl, ?_⟩; have n0_ := Aside0.mk (blk_below (bk_ BK436) hb); have n1_ := Aside0.mk (blk_below (bk_ BK437) hb); have n2_ := Aside0.mk (blk_below (bk_ BK438) hb); have n3_ := Aside0.mk (below_step bs_ hb); clear BK436 BK437 BK438 HB; have BK436 := n0_; have BK437 := n1_; have BK438 := n2_; have HB := n3_; clear n0_ n1_ n2_ n3_; (try clear hb); (try clear hb2); (try clear hk); (try clear hi)) | ((with_reducible refine gate_dst (N := 8) rfl ?_); (try (refine gate_guard (by rfl) ?_; dsimp only)); refine box_event ?hg (N := 8) ?hd (cs := #[.int .i64 0, .int .i64 0, .int .i64 0, .int .i64 0, .int .i64 0, .slice none 0 0]) (t := 25) ?hr ?_; (case hd => rfl); (case hg => rfl); (case hr => first | (go_simp; done) | (go_simp; rfl)); intro gb440 hg w9 hbox hb; have n0_ := Aside0.mk (blk_below (bk_ BK436) hb); have n1_ := Aside0.mk (blk_below (bk_ BK437) hb); have n2_ := Aside0.mk (blk_below (bk_ BK438) hb); have n3_ := Aside0.mk (below_step bs_ hb); have n4_ := Aside0.mk (hbox); have n5_ := Aside0.mk ((by rw [hg]; exact (below_size bs_) : w.heap.size ≤ gb440)); have n6_ := Aside0.mk ((by rw [hg]; exact (below_size bs_) : w.heap.size ≤ gb440)); have n7_ := Aside0.mk ((by rw [hg]; exact Nat.ne_of_lt (blk_lt (bk_ BK436)) : gb436 ≠ gb440)); have n8_ := Aside0.mk ((by rw [hg]; exact Nat.ne_of_gt (blk_lt (bk_ BK436)) : gb440 ≠ gb436)); have n9_ := Aside0.mk ((by rw [hg]; exact Nat.ne_of_lt (blk_lt (bk_ BK437)) : gb437 ≠ gb440)); have n10_ := Aside0.mk ((by rw [hg]; exact Nat.ne_of_gt (blk_lt (bk_ BK437)) : gb440 ≠ gb437)); have n11_ := Aside0.mk ((by rw [hg]; exact Nat.ne_of_lt (blk_lt (bk_ BK438)) : gb438 ≠ gb440)); have n12_ := Aside0.mk ((by rw [hg]; exact Nat.ne_of_gt (blk_lt (bk_ BK438)) : gb440 ≠ gb438)); clear BK436 BK437 BK438 HB; have BK436 := n0_; have BK437 := n1_; have BK438 := n2_; have HB := n3_; have BK440 := n4_; have GW440 := n5_; have GE440 := n6_; have NB436_440 := n7_; have NB440_436 := n8_; have NB437_440 := n9_; have NB440_437 := n10_; have NB438_440 := n11_; have NB440_438 := n12_; clear n0_ n1_ n2_ n3_ n4_ n5_ n6_ n7_ n8_ n9_ n10_ n11_ n12_; clear hb hbox hg; have hnb10 := NB440_436.out; have hnc10 := NB436_440.out; have hnb11 := NB440_437.out; have hnc11 := NB437_440.out; have hnb12 := NB440_438.out; have hnc12 := NB438_440.out; obtain ⟨hcz13_0, hcz13_1, hcz13_2, hcz13_3, hcz13_4, hcz13_5, hfz13_0, hfz13_1, hfz13_2, hfz13_3, hfz13_4, hfz13_5⟩ := blk6 BK440))
 go_loopg [9] k (fun kq v9 w' => ∃ (x9_1 : Int) (x441000_1 : Int) (x441001_1 : Int) (x441002_1 : Int) (x441003_1 : Int) (x441004_1 : Int) (x441005_1 : List (S43)) (u441005 : Value), v9 = .int .i64 x9_1 ∧ Aside0 (drydocklaw17_EpochWaits.l0 kq t439 x9_1 a0_0 a0_1 a0_2 a0_3 a1_0 a1_1 a1_2 a1_3 a2_0 a2_1 a2_2 a2_3 x441000_1 x441001_1 x441002_1 x441003_1 x441004_1 x441005_1 = some r) ∧ Aside0 (kq ≤ k) ∧ Aside0 (Kd.R k43 43 w' w.heap.size (fun _ => True) u441005 x441005_1) ∧ Aside0 (w'.heap[gb436]? = some (.cells #[.bool a0_0, .bool a0_1, .bool a0_2, .bool a0_3] 39 (0, 0))) ∧ Aside0 (w'.heap[gb437]? = some (.cells #[.bool a1_0, .bool a1_1, .bool a1_2, .bool a1_3] 39 (0, 0))) ∧ Aside0 (w'.heap[gb438]? = some (.cells #[.bool a2_0, .bool a2_1, .bool a2_2, .bool a2_3] 39 (0, 0))) ∧ Aside0 (w'.heap[gb440]? = some (.cells #[.int .i64 x441000_1, .int .i64 x441001_1, .int .i64 x441002_1, .int .i64 x441003_1, .int .i64 x441004_1, u441005] 25 (0, 0))) ∧ Aside0 (Below w.heap.size w w'))
 case atStart => exact ⟨(0), (1), (0), (0), (0), (0), (([] : List (S43))), (.slice none 0 0), eq_, H', ⟨Nat.le_refl _⟩, ⟨by first | exact Kd.R_nil _ _ _ _ _ | exact Kd.N_nil _ _ _ _ _ | exact Kd.V_nil _ _ _ _ _ | exact Kd.Q_nil _ _ _ _ _ | exact Kd.S_nil _ _ _ _ _⟩, ⟨bf_ BK436⟩, ⟨bf_ BK437⟩, ⟨bf_ BK438⟩, ⟨bp_ BK440⟩, ⟨bs_⟩⟩
 case round =>
  clear H'
  obtain ⟨x9_1, x441000_1, x441001_1, x441002_1, x441003_1, x441004_1, x441005_1, u441005, rfl, HA, HK1, HO_441005, BK436, BK437, BK438, BK440, HB⟩ := hrel
  cases gk with
  | zero => exact absurd HA.out (by simp [drydocklaw17_EpochWaits.l0])
  | succ k1 =>
   have H := HA.out
   clear HA
   simp only [drydocklaw17_EpochWaits.l0] at H
   by_cases c14 : x9_1 < 4
   ·rw [if_pos c14] at H
    have c14b0 : decide (x9_1 < 4) = true := decide_eq_true c14
    clear c14
    by_cases c15 : 0 ≤ x9_1
    ·rw [if_pos c15] at H
     have c15b0 : decide (0 ≤ x9_1) = true := decide_eq_true c15
     clear c15
     by_cases c16 : sel4B a0_0 a0_1 a0_2 a0_3 x9_1 = true
     ·rw [if_pos c16] at H
      have c16b0 : sel4B a0_0 a0_1 a0_2 a0_3 x9_1 = true := c16
      clear c16
      replace H := Option.bind_eq_some_iff.mp H
      obtain ⟨⟨t441, t442, t443, t444, t445, t446, t449⟩, A170, H⟩ := H
      replace H : (drydocklaw17_EpochWaits.l0 k1 t439 (wrap64 (x9_1 + 1)) a0_0 a0_1 a0_2 a0_3 a1_0 a1_1 a1_2 a1_3 a2_0 a2_1 a2_2 a2_3 t441 t442 t443 t444 t445 t446) = some r := H
      have A17 := Aside0.mk A170
      clear A170
      have H' := Aside0.mk H
      clear H
      have hnb18 := NB436_437.out
      have hnc18 := NB437_436.out
      have hnb19 := NB436_438.out
      have hnc19 := NB438_436.out
      have hnb20 := NB436_440.out
      have hnc20 := NB440_436.out
      obtain ⟨hcz21_0, hcz21_1, hcz21_2, hcz21_3, hfz21_0, hfz21_1, hfz21_2, hfz21_3⟩ := blk4 BK436
      have pz22 : (0 ≤ (x9_1 : Int)) = True := eq_true (of_decide_eq_true (by first | (with_reducible assumption) | assumption))
      have qz22 : ((x9_1 : Int) < 4) = True := eq_true (of_decide_eq_true (by first | (with_reducible assumption) | assumption))
      have hcz22_v : wr.cell? ⟨gb436, (x9_1).toNat, none⟩ = some (.bool (sel4B a0_0 a0_1 a0_2 a0_3 x9_1)) := (blk_sel4B0 BK436.out rfl rfl rfl rfl (of_eq_true pz22) (of_eq_true qz22))
      have hnb23 := NB440_437.out
      have hnc23 := NB437_440.out
      have hnb24 := NB440_438.out
      have hnc24 := NB438_440.out
      obtain ⟨hcz25_0, hcz25_1, hcz25_2, hcz25_3, hcz25_4, hcz25_5, hfz25_0, hfz25_1, hfz25_2, hfz25_3, hfz25_4, hfz25_5⟩ := blk6 BK440
      obtain ⟨Ao26, co26, eo26⟩ := Kd.R_slice HO_441005.out
      subst eo26
      go_wp2_with (first | ((with_reducible refine gate_callee (f := 11) rfl ?_); refine goesL_ (some 28) rfl rfl Try.func11 (by kernel_rfl) rfl #[.agg #[.int .i64 x441000_1, .int .i64 x441001_1, .int .i64 x441002_1, .int .i64 x441003_1, .int .i64 x441004_1, .slice Ao26 x441005_1.length co26], .int .i64 x9_1] rfl (by (try simp only [List.map_toArray, List.map_cons, List.map_nil]); first | done | rfl | (simp only [List.length_drop, List.length_take]; rfl)) ?_; (with_reducible refine (epoch_Enter.calls k1 x441000_1 x441001_1 x441002_1 x441003_1 x441004_1 _ _ x441005_1 x9_1 t441 t442 t443 t444 t445 t446 t449 _ ?side1 ?side2 A17.out).mono ?_); (case side1 => repeat (first | exact (Kd.R_reads' HO_441005.out).2.2 | (with_reducible refine Kd.C_alloc ?_ _) | (with_reducible refine Kd.C_drewN ?_ _) | (with_reducible refine Kd.C_drew ?_))); (case side2 => exact (Kd.R_reads' HO_441005.out).2.1); rintro e w27 ⟨v447, rfl, ho0, hb⟩; refine ⟨_, rfl, ?_⟩; have n0_ := Aside0.mk (Kd.R_elder' (rk_ HO_441005) (Kd.R_base ho0) hb); have n1_ := Aside0.mk (Kd.R_lower (Kd.R_new' ho0 (Kd.R_lt (rk_ HO_441005))) (below_size bs_)); have n2_ := Aside0.mk (blk_below (bk_ BK436) hb); have n3_ := Aside0.mk (blk_below (bk_ BK437) hb); have n4_ := Aside0.mk (blk_below (bk_ BK438) hb); have n5_ := Aside0.mk (blk_below (bk_ BK440) hb); have n6_ := Aside0.mk (below_step bs_ hb); clear HO_441005 BK436 BK437 BK438 BK440 HB; have HO_441005 := n0_; have HO448 := n1_; have BK436 := n2_; have BK437 := n3_; have BK438 := n4_; have BK440 := n5_; have HB := n6_; clear n0_ n1_ n2_ n3_ n4_ n5_ n6_; (try clear hb); (try clear hb2); (try clear hk); (try clear hi); (try clear ho0); obtain ⟨Ao28, co28, eo28⟩ := Kd.R_slice HO448.out; subst eo28; obtain ⟨hcz29_0, hcz29_1, hcz29_2, hcz29_3, hcz29_4, hcz29_5, hfz29_0, hfz29_1, hfz29_2, hfz29_3, hfz29_4, hfz29_5⟩ := blk6 BK440))
      go_roundg k1
      case measure => have := HK1.out; omega
      case rel => exact ⟨(wrap64 (x9_1 + 1)), (t441), (t442), (t443), (t444), (t445), (t446), (.slice Ao28 t446.length co28), eq_, H', ⟨by have := HK1.out; omega⟩, ⟨by (with_reducible repeat (first | apply Kd.R_alloc | apply Kd.R_drewN | apply Kd.R_drew)); exact Kd.R_mono (far6 gb440 (Kd.R_types HO448.out BK440.out (by decide)) (fun _ hk => hk.2)) (fun _ hk => trivial)⟩, ⟨bf_ BK436⟩, ⟨bf_ BK437⟩, ⟨bf_ BK438⟩, ⟨bp_ BK440⟩, ⟨bs_⟩⟩
     ·rw [if_neg c16] at H
      have c16b0 : sel4B a0_0 a0_1 a0_2 a0_3 x9_1 = false := by simpa using c16
      clear c16
      have H' := Aside0.mk H
      clear H
      have hnb30 := NB436_437.out
      have hnc30 := NB437_436.out
      have hnb31 := NB436_438.out
      have hnc31 := NB438_436.out
      have hnb32 := NB436_440.out
      have hnc32 := NB440_436.out
      obtain ⟨hcz33_0, hcz33_1, hcz33_2, hcz33_3, hfz33_0, hfz33_1, hfz33_2, hfz33_3⟩ := blk4 BK436
      have pz34 : (0 ≤ (x9_1 : Int)) = True := eq_true (of_decide_eq_true (by first | (with_reducible assumption) | assumption))
      have qz34 : ((x9_1 : Int) < 4) = True := eq_true (of_decide_eq_true (by first | (with_reducible assumption) | assumption))
      have hcz34_v : wr.cell? ⟨gb436, (x9_1).toNat, none⟩ = some (.bool (sel4B a0_0 a0_1 a0_2 a0_3 x9_1)) := (blk_sel4B0 BK436.out rfl rfl rfl rfl (of_eq_true pz34) (of_eq_true qz34))
      go_wp2
      go_roundg k1
      case measure => have := HK1.out; omega
      case rel => exact ⟨(wrap64 (x9_1 + 1)), (x441000_1), (x441001_1), (x441002_1), (x441003_1), (x441004_1), (x441005_1), (u441005), eq_, H', ⟨by have := HK1.out; omega⟩, ⟨by (with_reducible repeat (first | apply Kd.R_alloc | apply Kd.R_drewN | apply Kd.R_drew)); exact HO_441005.out⟩, ⟨bk_ BK436⟩, ⟨bk_ BK437⟩, ⟨bk_ BK438⟩, ⟨bk_ BK440⟩, ⟨bs_⟩⟩
    ·rw [if_neg c15] at H
     exact absurd H (by simp)
   ·rw [if_neg c14] at H
    have c14b0 : decide (x9_1 < 4) = false := decide_eq_false c14
    clear c14
    replace H := Option.bind_eq_some_iff.mp H
    obtain ⟨⟨t450, t451, t452, t453, t454, t455, t458⟩, A350, H⟩ := H
    replace H : (drydocklaw17_EpochWaits.l1 k1 t439 t458 false 0 a0_0 a0_1 a0_2 a0_3 a1_0 a1_1 a1_2 a1_3 a2_0 a2_1 a2_2 a2_3 t450 t451 t452 t453 t454 t455) = some r := H
    have A35 := Aside0.mk A350
    clear A350
    have H' := Aside0.mk H
    clear H
    have hnb36 := NB440_436.out
    have hnc36 := NB436_440.out
    have hnb37 := NB440_437.out
    have hnc37 := NB437_440.out
    have hnb38 := NB440_438.out
    have hnc38 := NB438_440.out
    obtain ⟨hcz39_0, hcz39_1, hcz39_2, hcz39_3, hcz39_4, hcz39_5, hfz39_0, hfz39_1, hfz39_2, hfz39_3, hfz39_4, hfz39_5⟩ := blk6 BK440
    obtain ⟨Ao40, co40, eo40⟩ := Kd.R_slice HO_441005.out
    subst eo40
    go_wp2_with (first | ((with_reducible refine gate_callee (f := 16) rfl ?_); refine goesL_ (some 33) rfl rfl Try.func16 (by kernel_rfl) rfl #[.agg #[.int .i64 x441000_1, .int .i64 x441001_1, .int .i64 x441002_1, .int .i64 x441003_1, .int .i64 x441004_1, .slice Ao40 x441005_1.length co40], .int .i64 7] rfl (by (try simp only [List.map_toArray, List.map_cons, List.map_nil]); first | done | rfl | (simp only [List.length_drop, List.length_take]; rfl)) ?_; (with_reducible refine (epoch_Retire.calls k1 x441000_1 x441001_1 x441002_1 x441003_1 x441004_1 _ _ x441005_1 7 t450 t451 t452 t453 t454 t455 t458 _ ?side1 ?side2 A35.out).mono ?_); (case side1 => repeat (first | exact (Kd.R_reads' HO_441005.out).2.2 | (with_reducible refine Kd.C_alloc ?_ _) | (with_reducible refine Kd.C_drewN ?_ _) | (with_reducible refine Kd.C_drew ?_))); (case side2 => exact (Kd.R_reads' HO_441005.out).2.1); rintro e w41 ⟨v456, rfl, ho0, hb⟩; refine ⟨_, rfl, ?_⟩; have n0_ := Aside0.mk (Kd.R_elder' (rk_ HO_441005) (Kd.R_base ho0) hb); have n1_ := Aside0.mk (Kd.R_lower (Kd.R_new' ho0 (Kd.R_lt (rk_ HO_441005))) (below_size bs_)); have n2_ := Aside0.mk (blk_below (bk_ BK436) hb); have n3_ := Aside0.mk (blk_below (bk_ BK437) hb); have n4_ := Aside0.mk (blk_below (bk_ BK438) hb); have n5_ := Aside0.mk (blk_below (bk_ BK440) hb); have n6_ := Aside0.mk (below_step bs_ hb); clear HO_441005 BK436 BK437 BK438 BK440 HB; have HO_441005 := n0_; have HO457 := n1_; have BK436 := n2_; have BK437 := n3_; have BK438 := n4_; have BK440 := n5_; have HB := n6_; clear n0_ n1_ n2_ n3_ n4_ n5_ n6_; (try clear hb); (try clear hb2); (try clear hk); (try clear hi); (try clear ho0); obtain ⟨Ao42, co42, eo42⟩ := Kd.R_slice HO457.out; subst eo42; obtain ⟨hcz43_0, hcz43_1, hcz43_2, hcz43_3, hcz43_4, hcz43_5, hfz43_0, hfz43_1, hfz43_2, hfz43_3, hfz43_4, hfz43_5⟩ := blk6 BK440))
    go_loopg [11, 12] k1 (fun kq v11 v12 w' => ∃ (x11_2 : Bool) (x12_2 : Int) (x441000_2 : Int) (x441001_2 : Int) (x441002_2 : Int) (x441003_2 : Int) (x441004_2 : Int) (x441005_2 : List (S43)) (u441005 : Value), v11 = .bool x11_2 ∧ v12 = .int .i64 x12_2 ∧ Aside0 (drydocklaw17_EpochWaits.l1 kq t439 t458 x11_2 x12_2 a0_0 a0_1 a0_2 a0_3 a1_0 a1_1 a1_2 a1_3 a2_0 a2_1 a2_2 a2_3 x441000_2 x441001_2 x441002_2 x441003_2 x441004_2 x441005_2 = some r) ∧ Aside0 (kq ≤ k1) ∧ Aside0 (Kd.R k43 43 w' w.heap.size (fun _ => True) u441005 x441005_2) ∧ Aside0 (w'.heap[gb436]? = some (.cells #[.bool a0_0, .bool a0_1, .bool a0_2, .bool a0_3] 39 (0, 0))) ∧ Aside0 (w'.heap[gb437]? = some (.cells #[.bool a1_0, .bool a1_1, .bool a1_2, .bool a1_3] 39 (0, 0))) ∧ Aside0 (w'.heap[gb438]? = some (.cells #[.bool a2_0, .bool a2_1, .bool a2_2, .bool a2_3] 39 (0, 0))) ∧ Aside0 (w'.heap[gb440]? = some (.cells #[.int .i64 x441000_2, .int .i64 x441001_2, .int .i64 x441002_2, .int .i64 x441003_2, .int .i64 x441004_2, u441005] 25 (0, 0))) ∧ Aside0 (Below w.heap.size w w'))
    case atStart => exact ⟨(false), (0), (t450), (t451), (t452), (t453), (t454), (t455), (.slice Ao42 t455.length co42), eq_, eq_, H', ⟨Nat.le_refl _⟩, ⟨by (with_reducible repeat (first | apply Kd.R_alloc | apply Kd.R_drewN | apply Kd.R_drew)); exact Kd.R_mono (far6 gb440 (Kd.R_types HO457.out BK440.out (by decide)) (fun _ hk => hk.2)) (fun _ hk => trivial)⟩, ⟨bf_ BK436⟩, ⟨bf_ BK437⟩, ⟨bf_ BK438⟩, ⟨bp_ BK440⟩, ⟨bs_⟩⟩
    case round =>
     clear H'
     try clear c14
     obtain ⟨x11_2, x12_2, x441000_2, x441001_2, x441002_2, x441003_2, x441004_2, x441005_2, u441005, rfl, rfl, HA, HK2, HO_441005, BK436, BK437, BK438, BK440, HB⟩ := hrel
     cases gk with
     | zero => exact absurd HA.out (by simp [drydocklaw17_EpochWaits.l1])
     | succ k2 =>
      have H := HA.out
      clear HA
      simp only [drydocklaw17_EpochWaits.l1] at H
      by_cases c44 : x12_2 < 4
      ·rw [if_pos c44] at H
       have c44b0 : decide (x12_2 < 4) = true := decide_eq_true c44
       clear c44
       have HC45 := Aside0.mk H
       clear H
       go_upto_region 13 with (fail)
       go_cut [47] (fun v47 wc => ∃ (kq : Nat) (x47_44 : Bool), v47 = .bool x47_44 ∧ Aside0 (drydocklaw17_EpochWaits.j2 kq t439 t458 x11_2 x12_2 x47_44 a0_0 a0_1 a0_2 a0_3 a1_0 a1_1 a1_2 a1_3 a2_0 a2_1 a2_2 a2_3 x441000_2 x441001_2 x441002_2 x441003_2 x441004_2 x441005_2 = some r) ∧ Aside0 (kq ≤ k2) ∧ Aside0 (Kd.R k43 43 wc w.heap.size (fun _ => True) u441005 x441005_2) ∧ Aside0 (wc.heap[gb436]? = some (.cells #[.bool a0_0, .bool a0_1, .bool a0_2, .bool a0_3] 39 (0, 0))) ∧ Aside0 (wc.heap[gb437]? = some (.cells #[.bool a1_0, .bool a1_1, .bool a1_2, .bool a1_3] 39 (0, 0))) ∧ Aside0 (wc.heap[gb438]? = some (.cells #[.bool a2_0, .bool a2_1, .bool a2_2, .bool a2_3] 39 (0, 0))) ∧ Aside0 (wc.heap[gb440]? = some (.cells #[.int .i64 x441000_2, .int .i64 x441001_2, .int .i64 x441002_2, .int .i64 x441003_2, .int .i64 x441004_2, u441005] 25 (0, 0))) ∧ Aside0 (Below w.heap.size w wc))
       case first =>
        have H := HC45.out
        clear HC45
        by_cases c46 : 0 ≤ x12_2
        ·rw [if_pos c46] at H
         have c46b0 : decide (0 ≤ x12_2) = true := decide_eq_true c46
         clear c46
         (first | rw [c46b0] | (simp only [i64_w, i32_w]; rw [c46b0]) | skip)
         by_cases c47 : sel4B a0_0 a0_1 a0_2 a0_3 x12_2 = true
         ·rw [if_pos c47] at H
          have c47b0 : sel4B a0_0 a0_1 a0_2 a0_3 x12_2 = true := c47
          clear c47
          have H' := Aside0.mk H
          clear H
          have hnb48 := NB436_437.out
          have hnc48 := NB437_436.out
          have hnb49 := NB436_438.out
          have hnc49 := NB438_436.out
          have hnb50 := NB436_440.out
          have hnc50 := NB440_436.out
          obtain ⟨hcz51_0, hcz51_1, hcz51_2, hcz51_3, hfz51_0, hfz51_1, hfz51_2, hfz51_3⟩ := blk4 BK436
          have pz52 : (0 ≤ (x12_2 : Int)) = True := eq_true (of_decide_eq_true (by first | (with_reducible assumption) | assumption))
          have qz52 : ((x12_2 : Int) < 4) = True := eq_true (of_decide_eq_true (by first | (with_reducible assumption) | assumption))
          have hcz52_v : wr.cell? ⟨gb436, (x12_2).toNat, none⟩ = some (.bool (sel4B a0_0 a0_1 a0_2 a0_3 x12_2)) := (blk_sel4B0 BK436.out rfl rfl rfl rfl (of_eq_true pz52) (of_eq_true qz52))
          have hnb53 := NB438_437.out
          have hnc53 := NB437_438.out
          have hnb54 := NB438_440.out
          have hnc54 := NB440_438.out
          obtain ⟨hcz55_0, hcz55_1, hcz55_2, hcz55_3, hfz55_0, hfz55_1, hfz55_2, hfz55_3⟩ := blk4 BK438
          have pz56 : (0 ≤ (x12_2 : Int)) = True := eq_true (of_decide_eq_true (by first | (with_reducible assumption) | assumption))
          have qz56 : ((x12_2 : Int) < 4) = True := eq_true (of_decide_eq_true (by first | (with_reducible assumption) | assumption))
          have hcz56_v : wr.cell? ⟨gb438, (x12_2).toNat, none⟩ = some (.bool (sel4B a2_0 a2_1 a2_2 a2_3 x12_2)) := (blk_sel4B0 BK438.out rfl rfl rfl rfl (of_eq_true pz56) (of_eq_true qz56))
          go_wp2
          go_meet
          case rel => exact ⟨_, (sel4B a2_0 a2_1 a2_2 a2_3 x12_2), eq_, H', ⟨by have := HK1.out; have := HK2.out; first | omega | exact Nat.le_refl _⟩, ⟨by (with_reducible repeat (first | apply Kd.R_alloc | apply Kd.R_drewN | apply Kd.R_drew)); exact HO_441005.out⟩, ⟨bk_ BK436⟩, ⟨bk_ BK437⟩, ⟨bk_ BK438⟩, ⟨bk_ BK440⟩, ⟨bs_⟩⟩
         ·rw [if_neg c47] at H
          have c47b0 : sel4B a0_0 a0_1 a0_2 a0_3 x12_2 = false := by simpa using c47
          clear c47
          have H' := Aside0.mk H
          clear H
          have hnb57 := NB436_437.out
          have hnc57 := NB437_436.out
          have hnb58 := NB436_438.out
          have hnc58 := NB438_436.out
          have hnb59 := NB436_440.out
          have hnc59 := NB440_436.out
          obtain ⟨hcz60_0, hcz60_1, hcz60_2, hcz60_3, hfz60_0, hfz60_1, hfz60_2, hfz60_3⟩ := blk4 BK436
          have pz61 : (0 ≤ (x12_2 : Int)) = True := eq_true (of_decide_eq_true (by first | (with_reducible assumption) | assumption))
          have qz61 : ((x12_2 : Int) < 4) = True := eq_true (of_decide_eq_true (by first | (with_reducible assumption) | assumption))
          have hcz61_v : wr.cell? ⟨gb436, (x12_2).toNat, none⟩ = some (.bool (sel4B a0_0 a0_1 a0_2 a0_3 x12_2)) := (blk_sel4B0 BK436.out rfl rfl rfl rfl (of_eq_true pz61) (of_eq_true qz61))
          go_wp2
          go_meet
          case rel => exact ⟨_, (false), eq_, H', ⟨by have := HK1.out; have := HK2.out; first | omega | exact Nat.le_refl _⟩, ⟨by (with_reducible repeat (first | apply Kd.R_alloc | apply Kd.R_drewN | apply Kd.R_drew)); exact HO_441005.out⟩, ⟨bk_ BK436⟩, ⟨bk_ BK437⟩, ⟨bk_ BK438⟩, ⟨bk_ BK440⟩, ⟨bs_⟩⟩
        ·rw [if_neg c46] at H
         exact absurd H (by simp)
       case rest =>
        clear HC45
        try clear c14
        try clear c44
        obtain ⟨kq, x47_44, rfl, HA, HJ44, HO_441005, BK436, BK437, BK438, BK440, HB⟩ := hcut
        cases kq with
        | zero => exact absurd HA.out (by simp [drydocklaw17_EpochWaits.j2])
        | succ kj44 =>
         have H := HA.out
         clear HA
         simp only [drydocklaw17_EpochWaits.j2] at H
         by_cases c62 : x47_44 = true
         ·subst c62
          have H1 : ((epoch_Leave.f kj44 x441000_2 x441001_2 x441002_2 x441003_2 x441004_2 x441005_2 x12_2).bind fun bt459 => (if 0 ≤ x12_2 then (if x12_2 < 4 then (if sel4B a0_0 a0_1 a0_2 a0_3 x12_2 = true then (if x11_2 = true then (drydocklaw17_EpochWaits.l1 kj44 t439 t458 true (wrap64 (x12_2 + 1)) a0_0 a0_1 a0_2 a0_3 a1_0 a1_1 a1_2 a1_3 a2_0 a2_1 a2_2 a2_3 bt459.1 bt459.2.1 bt459.2.2.1 bt459.2.2.2.1 bt459.2.2.2.2.1 bt459.2.2.2.2.2.1) else (drydocklaw17_EpochWaits.l1 kj44 t439 t458 (!(sel4B a2_0 a2_1 a2_2 a2_3 x12_2)) (wrap64 (x12_2 + 1)) a0_0 a0_1 a0_2 a0_3 a1_0 a1_1 a1_2 a1_3 a2_0 a2_1 a2_2 a2_3 bt459.1 bt459.2.1 bt459.2.2.1 bt459.2.2.2.1 bt459.2.2.2.2.1 bt459.2.2.2.2.2.1)) else (if sel4B a1_0 a1_1 a1_2 a1_3 x12_2 = true then ((epoch_Enter.f kj44 bt459.1 bt459.2.1 bt459.2.2.1 bt459.2.2.2.1 bt459.2.2.2.2.1 bt459.2.2.2.2.2.1 x12_2).bind fun bt468 => (if x11_2 = true then (drydocklaw17_EpochWaits.l1 kj44 t439 t458 true (wrap64 (x12_2 + 1)) a0_0 a0_1 a0_2 a0_3 a1_0 a1_1 a1_2 a1_3 a2_0 a2_1 a2_2 a2_3 bt468.1 bt468.2.1 bt468.2.2.1 bt468.2.2.2.1 bt468.2.2.2.2.1 bt468.2.2.2.2.2.1) else (drydocklaw17_EpochWaits.l1 kj44 t439 t458 false (wrap64 (x12_2 + 1)) a0_0 a0_1 a0_2 a0_3 a1_0 a1_1 a1_2 a1_3 a2_0 a2_1 a2_2 a2_3 bt468.1 bt468.2.1 bt468.2.2.1 bt468.2.2.2.1 bt468.2.2.2.2.1 bt468.2.2.2.2.2.1))) else (if x11_2 = true then (drydocklaw17_EpochWaits.l1 kj44 t439 t458 true (wrap64 (x12_2 + 1)) a0_0 a0_1 a0_2 a0_3 a1_0 a1_1 a1_2 a1_3 a2_0 a2_1 a2_2 a2_3 bt459.1 bt459.2.1 bt459.2.2.1 bt459.2.2.2.1 bt459.2.2.2.2.1 bt459.2.2.2.2.2.1) else (drydocklaw17_EpochWaits.l1 kj44 t439 t458 false (wrap64 (x12_2 + 1)) a0_0 a0_1 a0_2 a0_3 a1_0 a1_1 a1_2 a1_3 a2_0 a2_1 a2_2 a2_3 bt459.1 bt459.2.1 bt459.2.2.1 bt459.2.2.2.1 bt459.2.2.2.2.1 bt459.2.2.2.2.2.1)))) else (none)) else (none))) = some r := by rw [if_pos rfl] at H; exact H
          clear H
          have H := H1
          clear H1
          replace H := Option.bind_eq_some_iff.mp H
          obtain ⟨⟨t459, t460, t461, t462, t463, t464, t467⟩, A630, H⟩ := H
          replace H : (if 0 ≤ x12_2 then (if x12_2 < 4 then (if sel4B a0_0 a0_1 a0_2 a0_3 x12_2 = true then (if x11_2 = true then (drydocklaw17_EpochWaits.l1 kj44 t439 t458 true (wrap64 (x12_2 + 1)) a0_0 a0_1 a0_2 a0_3 a1_0 a1_1 a1_2 a1_3 a2_0 a2_1 a2_2 a2_3 t459 t460 t461 t462 t463 t464) else (drydocklaw17_EpochWaits.l1 kj44 t439 t458 (!(sel4B a2_0 a2_1 a2_2 a2_3 x12_2)) (wrap64 (x12_2 + 1)) a0_0 a0_1 a0_2 a0_3 a1_0 a1_1 a1_2 a1_3 a2_0 a2_1 a2_2 a2_3 t459 t460 t461 t462 t463 t464)) else (if sel4B a1_0 a1_1 a1_2 a1_3 x12_2 = true then ((epoch_Enter.f kj44 t459 t460 t461 t462 t463 t464 x12_2).bind fun bt468 => (if x11_2 = true then (drydocklaw17_EpochWaits.l1 kj44 t439 t458 true (wrap64 (x12_2 + 1)) a0_0 a0_1 a0_2 a0_3 a1_0 a1_1 a1_2 a1_3 a2_0 a2_1 a2_2 a2_3 bt468.1 bt468.2.1 bt468.2.2.1 bt468.2.2.2.1 bt468.2.2.2.2.1 bt468.2.2.2.2.2.1) else (drydocklaw17_EpochWaits.l1 kj44 t439 t458 false (wrap64 (x12_2 + 1)) a0_0 a0_1 a0_2 a0_3 a1_0 a1_1 a1_2 a1_3 a2_0 a2_1 a2_2 a2_3 bt468.1 bt468.2.1 bt468.2.2.1 bt468.2.2.2.1 bt468.2.2.2.2.1 bt468.2.2.2.2.2.1))) else (if x11_2 = true then (drydocklaw17_EpochWaits.l1 kj44 t439 t458 true (wrap64 (x12_2 + 1)) a0_0 a0_1 a0_2 a0_3 a1_0 a1_1 a1_2 a1_3 a2_0 a2_1 a2_2 a2_3 t459 t460 t461 t462 t463 t464) else (drydocklaw17_EpochWaits.l1 kj44 t439 t458 false (wrap64 (x12_2 + 1)) a0_0 a0_1 a0_2 a0_3 a1_0 a1_1 a1_2 a1_3 a2_0 a2_1 a2_2 a2_3 t459 t460 t461 t462 t463 t464)))) else (none)) else (none)) = some r := H
          have A63 := Aside0.mk A630
          clear A630
          by_cases c64 : 0 ≤ x12_2
          ·rw [if_pos c64] at H
           have c64b0 : decide (0 ≤ x12_2) = true := decide_eq_true c64
           clear c64
           by_cases c65 : x12_2 < 4
           ·rw [if_pos c65] at H
            have c65b0 : decide (x12_2 < 4) = true := decide_eq_true c65
            clear c65
            by_cases c66 : sel4B a0_0 a0_1 a0_2 a0_3 x12_2 = true
            ·rw [if_pos c66] at H
             have c66b0 : sel4B a0_0 a0_1 a0_2 a0_3 x12_2 = true := c66
             clear c66
             by_cases c67 : x11_2 = true
             ·subst c67
              have H1 : (drydocklaw17_EpochWaits.l1 kj44 t439 t458 true (wrap64 (x12_2 + 1)) a0_0 a0_1 a0_2 a0_3 a1_0 a1_1 a1_2 a1_3 a2_0 a2_1 a2_2 a2_3 t459 t460 t461 t462 t463 t464) = some r := by rw [if_pos rfl] at H; exact H
              clear H
              have H := H1
              clear H1
              have H' := Aside0.mk H
              clear H
              have hnb68 := NB440_436.out
              have hnc68 := NB436_440.out
              have hnb69 := NB440_437.out
              have hnc69 := NB437_440.out
              have hnb70 := NB440_438.out
              have hnc70 := NB438_440.out
              obtain ⟨hcz71_0, hcz71_1, hcz71_2, hcz71_3, hcz71_4, hcz71_5, hfz71_0, hfz71_1, hfz71_2, hfz71_3, hfz71_4, hfz71_5⟩ := blk6 BK440
              obtain ⟨Ao72, co72, eo72⟩ := Kd.R_slice HO_441005.out
              subst eo72
              go_wp2_with (first | ((with_reducible refine gate_callee (f := 14) rfl ?_); refine goesL_ (some 51) rfl rfl Try.func14 (by kernel_rfl) rfl #[.agg #[.int .i64 x441000_2, .int .i64 x441001_2, .int .i64 x441002_2, .int .i64 x441003_2, .int .i64 x441004_2, .slice Ao72 x441005_2.length co72], .int .i64 x12_2] rfl (by (try simp only [List.map_toArray, List.map_cons, List.map_nil]); first | done | rfl | (simp only [List.length_drop, List.length_take]; rfl)) ?_; (with_reducible refine (epoch_Leave.calls kj44 x441000_2 x441001_2 x441002_2 x441003_2 x441004_2 _ _ x441005_2 x12_2 t459 t460 t461 t462 t463 t464 t467 _ ?side1 ?side2 A63.out).mono ?_); (case side1 => repeat (first | exact (Kd.R_reads' HO_441005.out).2.2 | (with_reducible refine Kd.C_alloc ?_ _) | (with_reducible refine Kd.C_drewN ?_ _) | (with_reducible refine Kd.C_drew ?_))); (case side2 => exact (Kd.R_reads' HO_441005.out).2.1); rintro e w73 ⟨v465, rfl, ho0, hb⟩; refine ⟨_, rfl, ?_⟩; have n0_ := Aside0.mk (Kd.R_elder' (rk_ HO_441005) (Kd.R_base ho0) hb); have n1_ := Aside0.mk (Kd.R_lower (Kd.R_new' ho0 (Kd.R_lt (rk_ HO_441005))) (below_size bs_)); have n2_ := Aside0.mk (blk_below (bk_ BK436) hb); have n3_ := Aside0.mk (blk_below (bk_ BK437) hb); have n4_ := Aside0.mk (blk_below (bk_ BK438) hb); have n5_ := Aside0.mk (blk_below (bk_ BK440) hb); have n6_ := Aside0.mk (below_step bs_ hb); clear HO_441005 BK436 BK437 BK438 BK440 HB; have HO_441005 := n0_; have HO466 := n1_; have BK436 := n2_; have BK437 := n3_; have BK438 := n4_; have BK440 := n5_; have HB := n6_; clear n0_ n1_ n2_ n3_ n4_ n5_ n6_; (try clear hb); (try clear hb2); (try clear hk); (try clear hi); (try clear ho0); obtain ⟨Ao74, co74, eo74⟩ := Kd.R_slice HO466.out; subst eo74; obtain ⟨hcz75_0, hcz75_1, hcz75_2, hcz75_3, hcz75_4, hcz75_5, hfz75_0, hfz75_1, hfz75_2, hfz75_3, hfz75_4, hfz75_5⟩ := blk6 BK440; have hnb76 := NB436_437.out; have hnc76 := NB437_436.out; have hnb77 := NB436_438.out; have hnc77 := NB438_436.out; obtain ⟨hcz78_0, hcz78_1, hcz78_2, hcz78_3, hfz78_0, hfz78_1, hfz78_2, hfz78_3⟩ := blk4 BK436; have pz79 : (0 ≤ (x12_2 : Int)) = True := eq_true (of_decide_eq_true (by first | (with_reducible assumption) | assumption)); have qz79 : ((x12_2 : Int) < 4) = True := eq_true (of_decide_eq_true (by first | (with_reducible assumption) | assumption)); have hcz79_v : w73.cell? ⟨gb436, (x12_2).toNat, none⟩ = some (.bool (sel4B a0_0 a0_1 a0_2 a0_3 x12_2)) := (blk_sel4B0 BK436.out rfl rfl rfl rfl (of_eq_true pz79) (of_eq_true qz79))))
              go_roundg kj44
              case measure => have := HK1.out; have := HK2.out; have := HJ44.out; omega
              case rel => exact ⟨(true), (wrap64 (x12_2 + 1)), (t459), (t460), (t461), (t462), (t463), (t464), (.slice Ao74 t464.length co74), eq_, eq_, H', ⟨by have := HK1.out; have := HK2.out; have := HJ44.out; omega⟩, ⟨by (with_reducible repeat (first | apply Kd.R_alloc | apply Kd.R_drewN | apply Kd.R_drew)); exact Kd.R_mono (far6 gb440 (Kd.R_types HO466.out BK440.out (by decide)) (fun _ hk => hk.2)) (fun _ hk => trivial)⟩, ⟨bf_ BK436⟩, ⟨bf_ BK437⟩, ⟨bf_ BK438⟩, ⟨bp_ BK440⟩, ⟨bs_⟩⟩
             ·replace c67 := Bool.eq_false_iff.mpr c67
              subst c67
              have H1 : (drydocklaw17_EpochWaits.l1 kj44 t439 t458 (!(sel4B a2_0 a2_1 a2_2 a2_3 x12_2)) (wrap64 (x12_2 + 1)) a0_0 a0_1 a0_2 a0_3 a1_0 a1_1 a1_2 a1_3 a2_0 a2_1 a2_2 a2_3 t459 t460 t461 t462 t463 t464) = some r := by rw [if_neg (show ¬ (false = true) by decide)] at H; exact H
              clear H
              have H := H1
              clear H1
              have H' := Aside0.mk H
              clear H
              have hnb80 := NB440_436.out
              have hnc80 := NB436_440.out
              have hnb81 := NB440_437.out
              have hnc81 := NB437_440.out
              have hnb82 := NB440_438.out
              have hnc82 := NB438_440.out
              obtain ⟨hcz83_0, hcz83_1, hcz83_2, hcz83_3, hcz83_4, hcz83_5, hfz83_0, hfz83_1, hfz83_2, hfz83_3, hfz83_4, hfz83_5⟩ := blk6 BK440
              obtain ⟨Ao84, co84, eo84⟩ := Kd.R_slice HO_441005.out
              subst eo84
              go_wp2_with (first | ((with_reducible refine gate_callee (f := 14) rfl ?_); refine goesL_ (some 51) rfl rfl Try.func14 (by kernel_rfl) rfl #[.agg #[.int .i64 x441000_2, .int .i64 x441001_2, .int .i64 x441002_2, .int .i64 x441003_2, .int .i64 x441004_2, .slice Ao84 x441005_2.length co84], .int .i64 x12_2] rfl (by (try simp only [List.map_toArray, List.map_cons, List.map_nil]); first | done | rfl | (simp only [List.length_drop, List.length_take]; rfl)) ?_; (with_reducible refine (epoch_Leave.calls kj44 x441000_2 x441001_2 x441002_2 x441003_2 x441004_2 _ _ x441005_2 x12_2 t459 t460 t461 t462 t463 t464 t467 _ ?side1 ?side2 A63.out).mono ?_); (case side1 => repeat (first | exact (Kd.R_reads' HO_441005.out).2.2 | (with_reducible refine Kd.C_alloc ?_ _) | (with_reducible refine Kd.C_drewN ?_ _) | (with_reducible refine Kd.C_drew ?_))); (case side2 => exact (Kd.R_reads' HO_441005.out).2.1); rintro e w85 ⟨v465, rfl, ho0, hb⟩; refine ⟨_, rfl, ?_⟩; have n0_ := Aside0.mk (Kd.R_elder' (rk_ HO_441005) (Kd.R_base ho0) hb); have n1_ := Aside0.mk (Kd.R_lower (Kd.R_new' ho0 (Kd.R_lt (rk_ HO_441005))) (below_size bs_)); have n2_ := Aside0.mk (blk_below (bk_ BK436) hb); have n3_ := Aside0.mk (blk_below (bk_ BK437) hb); have n4_ := Aside0.mk (blk_below (bk_ BK438) hb); have n5_ := Aside0.mk (blk_below (bk_ BK440) hb); have n6_ := Aside0.mk (below_step bs_ hb); clear HO_441005 BK436 BK437 BK438 BK440 HB; have HO_441005 := n0_; have HO466 := n1_; have BK436 := n2_; have BK437 := n3_; have BK438 := n4_; have BK440 := n5_; have HB := n6_; clear n0_ n1_ n2_ n3_ n4_ n5_ n6_; (try clear hb); (try clear hb2); (try clear hk); (try clear hi); (try clear ho0); obtain ⟨Ao86, co86, eo86⟩ := Kd.R_slice HO466.out; subst eo86; obtain ⟨hcz87_0, hcz87_1, hcz87_2, hcz87_3, hcz87_4, hcz87_5, hfz87_0, hfz87_1, hfz87_2, hfz87_3, hfz87_4, hfz87_5⟩ := blk6 BK440; have hnb88 := NB436_437.out; have hnc88 := NB437_436.out; have hnb89 := NB436_438.out; have hnc89 := NB438_436.out; obtain ⟨hcz90_0, hcz90_1, hcz90_2, hcz90_3, hfz90_0, hfz90_1, hfz90_2, hfz90_3⟩ := blk4 BK436; have pz91 : (0 ≤ (x12_2 : Int)) = True := eq_true (of_decide_eq_true (by first | (with_reducible assumption) | assumption)); have qz91 : ((x12_2 : Int) < 4) = True := eq_true (of_decide_eq_true (by first | (with_reducible assumption) | assumption)); have hcz91_v : w85.cell? ⟨gb436, (x12_2).toNat, none⟩ = some (.bool (sel4B a0_0 a0_1 a0_2 a0_3 x12_2)) := (blk_sel4B0 BK436.out rfl rfl rfl rfl (of_eq_true pz91) (of_eq_true qz91)); have pz92 : (0 ≤ (x12_2 : Int)) = True := eq_true (of_decide_eq_true (by first | (with_reducible assumption) | assumption)); have qz92 : ((x12_2 : Int) < 4) = True := eq_true (of_decide_eq_true (by first | (with_reducible assumption) | assumption)); have hcz92_v : w85.cell? ⟨gb436, (x12_2).toNat, none⟩ = some (.bool (sel4B a0_0 a0_1 a0_2 a0_3 x12_2)) := (blk_sel4B0 BK436.out rfl rfl rfl rfl (of_eq_true pz92) (of_eq_true qz92)); have hnb93 := NB438_437.out; have hnc93 := NB437_438.out; obtain ⟨hcz94_0, hcz94_1, hcz94_2, hcz94_3, hfz94_0, hfz94_1, hfz94_2, hfz94_3⟩ := blk4 BK438; have pz95 : (0 ≤ (x12_2 : Int)) = True := eq_true (of_decide_eq_true (by first | (with_reducible assumption) | assumption)); have qz95 : ((x12_2 : Int) < 4) = True := eq_true (of_decide_eq_true (by first | (with_reducible assumption) | assumption)); have hcz95_v : w85.cell? ⟨gb438, (x12_2).toNat, none⟩ = some (.bool (sel4B a2_0 a2_1 a2_2 a2_3 x12_2)) := (blk_sel4B0 BK438.out rfl rfl rfl rfl (of_eq_true pz95) (of_eq_true qz95))))
              go_roundg kj44
              case measure => have := HK1.out; have := HK2.out; have := HJ44.out; omega
              case rel => exact ⟨(!(sel4B a2_0 a2_1 a2_2 a2_3 x12_2)), (wrap64 (x12_2 + 1)), (t459), (t460), (t461), (t462), (t463), (t464), (.slice Ao86 t464.length co86), eq_, eq_, H', ⟨by have := HK1.out; have := HK2.out; have := HJ44.out; omega⟩, ⟨by (with_reducible repeat (first | apply Kd.R_alloc | apply Kd.R_drewN | apply Kd.R_drew)); exact Kd.R_mono (far6 gb440 (Kd.R_types HO466.out BK440.out (by decide)) (fun _ hk => hk.2)) (fun _ hk => trivial)⟩, ⟨bf_ BK436⟩, ⟨bf_ BK437⟩, ⟨bf_ BK438⟩, ⟨bp_ BK440⟩, ⟨bs_⟩⟩
            ·rw [if_neg c66] at H
             have c66b0 : sel4B a0_0 a0_1 a0_2 a0_3 x12_2 = false := by simpa using c66
             clear c66
             by_cases c96 : sel4B a1_0 a1_1 a1_2 a1_3 x12_2 = true
             ·rw [if_pos c96] at H
              have c96b0 : sel4B a1_0 a1_1 a1_2 a1_3 x12_2 = true := c96
              clear c96
              replace H := Option.bind_eq_some_iff.mp H
              obtain ⟨⟨t468, t469, t470, t471, t472, t473, t476⟩, A970, H⟩ := H
              replace H : (if x11_2 = true then (drydocklaw17_EpochWaits.l1 kj44 t439 t458 true (wrap64 (x12_2 + 1)) a0_0 a0_1 a0_2 a0_3 a1_0 a1_1 a1_2 a1_3 a2_0 a2_1 a2_2 a2_3 t468 t469 t470 t471 t472 t473) else (drydocklaw17_EpochWaits.l1 kj44 t439 t458 false (wrap64 (x12_2 + 1)) a0_0 a0_1 a0_2 a0_3 a1_0 a1_1 a1_2 a1_3 a2_0 a2_1 a2_2 a2_3 t468 t469 t470 t471 t472 t473)) = some r := H
              have A97 := Aside0.mk A970
              clear A970
              by_cases c98 : x11_2 = true
              ·subst c98
               have H1 : (drydocklaw17_EpochWaits.l1 kj44 t439 t458 true (wrap64 (x12_2 + 1)) a0_0 a0_1 a0_2 a0_3 a1_0 a1_1 a1_2 a1_3 a2_0 a2_1 a2_2 a2_3 t468 t469 t470 t471 t472 t473) = some r := by rw [if_pos rfl] at H; exact H
               clear H
               have H := H1
               clear H1
               have H' := Aside0.mk H
               clear H
               have hnb99 := NB440_436.out
               have hnc99 := NB436_440.out
               have hnb100 := NB440_437.out
               have hnc100 := NB437_440.out
               have hnb101 := NB440_438.out
               have hnc101 := NB438_440.out
               obtain ⟨hcz102_0, hcz102_1, hcz102_2, hcz102_3, hcz102_4, hcz102_5, hfz102_0, hfz102_1, hfz102_2, hfz102_3, hfz102_4, hfz102_5⟩ := blk6 BK440
               obtain ⟨Ao103, co103, eo103⟩ := Kd.R_slice HO_441005.out
               subst eo103
               go_wp2_with (first | ((with_reducible refine gate_callee (f := 14) rfl ?_); refine goesL_ (some 51) rfl rfl Try.func14 (by kernel_rfl) rfl #[.agg #[.int .i64 x441000_2, .int .i64 x441001_2, .int .i64 x441002_2, .int .i64 x441003_2, .int .i64 x441004_2, .slice Ao103 x441005_2.length co103], .int .i64 x12_2] rfl (by (try simp only [List.map_toArray, List.map_cons, List.map_nil]); first | done | rfl | (simp only [List.length_drop, List.length_take]; rfl)) ?_; (with_reducible refine (epoch_Leave.calls kj44 x441000_2 x441001_2 x441002_2 x441003_2 x441004_2 _ _ x441005_2 x12_2 t459 t460 t461 t462 t463 t464 t467 _ ?side1 ?side2 A63.out).mono ?_); (case side1 => repeat (first | exact (Kd.R_reads' HO_441005.out).2.2 | (with_reducible refine Kd.C_alloc ?_ _) | (with_reducible refine Kd.C_drewN ?_ _) | (with_reducible refine Kd.C_drew ?_))); (case side2 => exact (Kd.R_reads' HO_441005.out).2.1); rintro e w104 ⟨v465, rfl, ho0, hb⟩; refine ⟨_, rfl, ?_⟩; have n0_ := Aside0.mk (Kd.R_elder' (rk_ HO_441005) (Kd.R_base ho0) hb); have n1_ := Aside0.mk (Kd.R_lower (Kd.R_new' ho0 (Kd.R_lt (rk_ HO_441005))) (below_size bs_)); have n2_ := Aside0.mk (blk_below (bk_ BK436) hb); have n3_ := Aside0.mk (blk_below (bk_ BK437) hb); have n4_ := Aside0.mk (blk_below (bk_ BK438) hb); have n5_ := Aside0.mk (blk_below (bk_ BK440) hb); have n6_ := Aside0.mk (below_step bs_ hb); clear HO_441005 BK436 BK437 BK438 BK440 HB; have HO_441005 := n0_; have HO466 := n1_; have BK436 := n2_; have BK437 := n3_; have BK438 := n4_; have BK440 := n5_; have HB := n6_; clear n0_ n1_ n2_ n3_ n4_ n5_ n6_; (try clear hb); (try clear hb2); (try clear hk); (try clear hi); (try clear ho0); obtain ⟨Ao105, co105, eo105⟩ := Kd.R_slice HO466.out; subst eo105; obtain ⟨hcz106_0, hcz106_1, hcz106_2, hcz106_3, hcz106_4, hcz106_5, hfz106_0, hfz106_1, hfz106_2, hfz106_3, hfz106_4, hfz106_5⟩ := blk6 BK440; have hnb107 := NB436_437.out; have hnc107 := NB437_436.out; have hnb108 := NB436_438.out; have hnc108 := NB438_436.out; obtain ⟨hcz109_0, hcz109_1, hcz109_2, hcz109_3, hfz109_0, hfz109_1, hfz109_2, hfz109_3⟩ := blk4 BK436; have pz110 : (0 ≤ (x12_2 : Int)) = True := eq_true (of_decide_eq_true (by first | (with_reducible assumption) | assumption)); have qz110 : ((x12_2 : Int) < 4) = True := eq_true (of_decide_eq_true (by first | (with_reducible assumption) | assumption)); have hcz110_v : w104.cell? ⟨gb436, (x12_2).toNat, none⟩ = some (.bool (sel4B a0_0 a0_1 a0_2 a0_3 x12_2)) := (blk_sel4B0 BK436.out rfl rfl rfl rfl (of_eq_true pz110) (of_eq_true qz110)); have hnb111 := NB437_438.out; have hnc111 := NB438_437.out; obtain ⟨hcz112_0, hcz112_1, hcz112_2, hcz112_3, hfz112_0, hfz112_1, hfz112_2, hfz112_3⟩ := blk4 BK437; have pz113 : (0 ≤ (x12_2 : Int)) = True := eq_true (of_decide_eq_true (by first | (with_reducible assumption) | assumption)); have qz113 : ((x12_2 : Int) < 4) = True := eq_true (of_decide_eq_true (by first | (with_reducible assumption) | assumption)); have hcz113_v : w104.cell? ⟨gb437, (x12_2).toNat, none⟩ = some (.bool (sel4B a1_0 a1_1 a1_2 a1_3 x12_2)) := (blk_sel4B0 BK437.out rfl rfl rfl rfl (of_eq_true pz113) (of_eq_true qz113))) | ((with_reducible refine gate_callee (f := 11) rfl ?_); refine goesL_ (some 66) rfl rfl Try.func11 (by kernel_rfl) rfl #[.agg #[.int .i64 t459, .int .i64 t460, .int .i64 t461, .int .i64 t462, .int .i64 t463, .slice Ao105 t464.length co105], .int .i64 x12_2] rfl (by (try simp only [List.map_toArray, List.map_cons, List.map_nil]); first | done | rfl | (simp only [List.length_drop, List.length_take]; rfl)) ?_; (with_reducible refine (epoch_Enter.calls kj44 t459 t460 t461 t462 t463 _ _ t464 x12_2 t468 t469 t470 t471 t472 t473 t476 _ ?side1 ?side2 A97.out).mono ?_); (case side1 => refine (Kd.R_reads' (e := 43) (base := w.heap.size) (ok := fun k_ => (True ∧ some k_ ≠ (.slice Ao103 x441005_2.length co103 : Value).ownBlock)) (n := t464.length) (c := co105) ?_).2.2; exact (by (with_reducible repeat (first | apply Kd.R_alloc | apply Kd.R_drewN | apply Kd.R_drew)); exact (Kd.R_mono (far6 gb440 (Kd.R_types HO466.out BK440.out (by decide)) (fun _ hk => hk.2)) (fun _ h_ => h_.1)))); (case side2 => exact (Kd.R_reads' HO466.out).2.1); rintro e w114 ⟨v474, rfl, ho0, hb⟩; refine ⟨_, rfl, ?_⟩; have n0_ := Aside0.mk (Kd.R_elder' (by (with_reducible repeat (first | apply Kd.R_alloc | apply Kd.R_drewN | apply Kd.R_drew)); exact (Kd.R_mono (far6 gb440 (Kd.R_types HO_441005.out BK440.out (by decide)) (fun _ hk => hk.2)) (fun _ h_ => h_.1))) (Kd.R_base ho0) hb); have n1_ := Aside0.mk (Kd.R_elder' (by (with_reducible repeat (first | apply Kd.R_alloc | apply Kd.R_drewN | apply Kd.R_drew)); exact (Kd.R_mono (far6 gb440 (Kd.R_types HO466.out BK440.out (by decide)) (fun _ hk => hk.2)) (fun _ h_ => h_.1))) (Kd.R_base ho0) hb); have n2_ := Aside0.mk (Kd.R_lower (Kd.R_new' (Kd.R_new' ho0 (Kd.R_lt (by (with_reducible repeat (first | apply Kd.R_alloc | apply Kd.R_drewN | apply Kd.R_drew)); exact (Kd.R_mono (far6 gb440 (Kd.R_types HO_441005.out BK440.out (by decide)) (fun _ hk => hk.2)) (fun _ h_ => h_.1))))) (Kd.R_lt (by (with_reducible repeat (first | apply Kd.R_alloc | apply Kd.R_drewN | apply Kd.R_drew)); exact (Kd.R_mono (far6 gb440 (Kd.R_types HO466.out BK440.out (by decide)) (fun _ hk => hk.2)) (fun _ h_ => h_.1))))) (below_size bs_)); have n3_ := Aside0.mk (blk_below (bf_ BK436) hb); have n4_ := Aside0.mk (blk_below (bf_ BK437) hb); have n5_ := Aside0.mk (blk_below (bf_ BK438) hb); have n6_ := Aside0.mk (blk_below (bp_ (o := .cells #[.int .i64 t459, .int .i64 t460, .int .i64 t461, .int .i64 t462, .int .i64 t463, .slice Ao105 t464.length co105] 25 (0, 0)) BK440) hb); have n7_ := Aside0.mk (below_step bs_ hb); clear HO_441005 HO466 BK436 BK437 BK438 BK440 HB; have HO_441005 := n0_; have HO466 := n1_; have HO475 := n2_; have BK436 := n3_; have BK437 := n4_; have BK438 := n5_; have BK440 := n6_; have HB := n7_; clear n0_ n1_ n2_ n3_ n4_ n5_ n6_ n7_; (try clear hb); (try clear hb2); (try clear hk); (try clear hi); (try clear ho0); obtain ⟨Ao115, co115, eo115⟩ := Kd.R_slice HO475.out; subst eo115; obtain ⟨hcz116_0, hcz116_1, hcz116_2, hcz116_3, hcz116_4, hcz116_5, hfz116_0, hfz116_1, hfz116_2, hfz116_3, hfz116_4, hfz116_5⟩ := blk6 BK440))
               go_roundg kj44
               case measure => have := HK1.out; have := HK2.out; have := HJ44.out; omega
               case rel => exact ⟨(true), (wrap64 (x12_2 + 1)), (t468), (t469), (t470), (t471), (t472), (t473), (.slice Ao115 t473.length co115), eq_, eq_, H', ⟨by have := HK1.out; have := HK2.out; have := HJ44.out; omega⟩, ⟨by (with_reducible repeat (first | apply Kd.R_alloc | apply Kd.R_drewN | apply Kd.R_drew)); exact Kd.R_mono (far6 gb440 (Kd.R_types HO475.out BK440.out (by decide)) (fun _ hk => hk.2)) (fun _ hk => trivial)⟩, ⟨bf_ BK436⟩, ⟨bf_ BK437⟩, ⟨bf_ BK438⟩, ⟨bp_ BK440⟩, ⟨bs_⟩⟩
              ·replace c98 := Bool.eq_false_iff.mpr c98
               subst c98
               have H1 : (drydocklaw17_EpochWaits.l1 kj44 t439 t458 false (wrap64 (x12_2 + 1)) a0_0 a0_1 a0_2 a0_3 a1_0 a1_1 a1_2 a1_3 a2_0 a2_1 a2_2 a2_3 t468 t469 t470 t471 t472 t473) = some r := by rw [if_neg (show ¬ (false = true) by decide)] at H; exact H
               clear H
               have H := H1
               clear H1
               have H' := Aside0.mk H
               clear H
               have hnb117 := NB440_436.out
               have hnc117 := NB436_440.out
               have hnb118 := NB440_437.out
               have hnc118 := NB437_440.out
               have hnb119 := NB440_438.out
               have hnc119 := NB438_440.out
               obtain ⟨hcz120_0, hcz120_1, hcz120_2, hcz120_3, hcz120_4, hcz120_5, hfz120_0, hfz120_1, hfz120_2, hfz120_3, hfz120_4, hfz120_5⟩ := blk6 BK440
               obtain ⟨Ao121, co121, eo121⟩ := Kd.R_slice HO_441005.out
               subst eo121
               go_wp2_with (first | ((with_reducible refine gate_callee (f := 14) rfl ?_); refine goesL_ (some 51) rfl rfl Try.func14 (by kernel_rfl) rfl #[.agg #[.int .i64 x441000_2, .int .i64 x441001_2, .int .i64 x441002_2, .int .i64 x441003_2, .int .i64 x441004_2, .slice Ao121 x441005_2.length co121], .int .i64 x12_2] rfl (by (try simp only [List.map_toArray, List.map_cons, List.map_nil]); first | done | rfl | (simp only [List.length_drop, List.length_take]; rfl)) ?_; (with_reducible refine (epoch_Leave.calls kj44 x441000_2 x441001_2 x441002_2 x441003_2 x441004_2 _ _ x441005_2 x12_2 t459 t460 t461 t462 t463 t464 t467 _ ?side1 ?side2 A63.out).mono ?_); (case side1 => repeat (first | exact (Kd.R_reads' HO_441005.out).2.2 | (with_reducible refine Kd.C_alloc ?_ _) | (with_reducible refine Kd.C_drewN ?_ _) | (with_reducible refine Kd.C_drew ?_))); (case side2 => exact (Kd.R_reads' HO_441005.out).2.1); rintro e w122 ⟨v465, rfl, ho0, hb⟩; refine ⟨_, rfl, ?_⟩; have n0_ := Aside0.mk (Kd.R_elder' (rk_ HO_441005) (Kd.R_base ho0) hb); have n1_ := Aside0.mk (Kd.R_lower (Kd.R_new' ho0 (Kd.R_lt (rk_ HO_441005))) (below_size bs_)); have n2_ := Aside0.mk (blk_below (bk_ BK436) hb); have n3_ := Aside0.mk (blk_below (bk_ BK437) hb); have n4_ := Aside0.mk (blk_below (bk_ BK438) hb); have n5_ := Aside0.mk (blk_below (bk_ BK440) hb); have n6_ := Aside0.mk (below_step bs_ hb); clear HO_441005 BK436 BK437 BK438 BK440 HB; have HO_441005 := n0_; have HO466 := n1_; have BK436 := n2_; have BK437 := n3_; have BK438 := n4_; have BK440 := n5_; have HB := n6_; clear n0_ n1_ n2_ n3_ n4_ n5_ n6_; (try clear hb); (try clear hb2); (try clear hk); (try clear hi); (try clear ho0); obtain ⟨Ao123, co123, eo123⟩ := Kd.R_slice HO466.out; subst eo123; obtain ⟨hcz124_0, hcz124_1, hcz124_2, hcz124_3, hcz124_4, hcz124_5, hfz124_0, hfz124_1, hfz124_2, hfz124_3, hfz124_4, hfz124_5⟩ := blk6 BK440; have hnb125 := NB436_437.out; have hnc125 := NB437_436.out; have hnb126 := NB436_438.out; have hnc126 := NB438_436.out; obtain ⟨hcz127_0, hcz127_1, hcz127_2, hcz127_3, hfz127_0, hfz127_1, hfz127_2, hfz127_3⟩ := blk4 BK436; have pz128 : (0 ≤ (x12_2 : Int)) = True := eq_true (of_decide_eq_true (by first | (with_reducible assumption) | assumption)); have qz128 : ((x12_2 : Int) < 4) = True := eq_true (of_decide_eq_true (by first | (with_reducible assumption) | assumption)); have hcz128_v : w122.cell? ⟨gb436, (x12_2).toNat, none⟩ = some (.bool (sel4B a0_0 a0_1 a0_2 a0_3 x12_2)) := (blk_sel4B0 BK436.out rfl rfl rfl rfl (of_eq_true pz128) (of_eq_true qz128)); have hnb129 := NB437_438.out; have hnc129 := NB438_437.out; obtain ⟨hcz130_0, hcz130_1, hcz130_2, hcz130_3, hfz130_0, hfz130_1, hfz130_2, hfz130_3⟩ := blk4 BK437; have pz131 : (0 ≤ (x12_2 : Int)) = True := eq_true (of_decide_eq_true (by first | (with_reducible assumption) | assumption)); have qz131 : ((x12_2 : Int) < 4) = True := eq_true (of_decide_eq_true (by first | (with_reducible assumption) | assumption)); have hcz131_v : w122.cell? ⟨gb437, (x12_2).toNat, none⟩ = some (.bool (sel4B a1_0 a1_1 a1_2 a1_3 x12_2)) := (blk_sel4B0 BK437.out rfl rfl rfl rfl (of_eq_true pz131) (of_eq_true qz131))) | ((with_reducible refine gate_callee (f := 11) rfl ?_); refine goesL_ (some 66) rfl rfl Try.func11 (by kernel_rfl) rfl #[.agg #[.int .i64 t459, .int .i64 t460, .int .i64 t461, .int .i64 t462, .int .i64 t463, .slice Ao123 t464.length co123], .int .i64 x12_2] rfl (by (try simp only [List.map_toArray, List.map_cons, List.map_nil]); first | done | rfl | (simp only [List.length_drop, List.length_take]; rfl)) ?_; (with_reducible refine (epoch_Enter.calls kj44 t459 t460 t461 t462 t463 _ _ t464 x12_2 t468 t469 t470 t471 t472 t473 t476 _ ?side1 ?side2 A97.out).mono ?_); (case side1 => refine (Kd.R_reads' (e := 43) (base := w.heap.size) (ok := fun k_ => (True ∧ some k_ ≠ (.slice Ao121 x441005_2.length co121 : Value).ownBlock)) (n := t464.length) (c := co123) ?_).2.2; exact (by (with_reducible repeat (first | apply Kd.R_alloc | apply Kd.R_drewN | apply Kd.R_drew)); exact (Kd.R_mono (far6 gb440 (Kd.R_types HO466.out BK440.out (by decide)) (fun _ hk => hk.2)) (fun _ h_ => h_.1)))); (case side2 => exact (Kd.R_reads' HO466.out).2.1); rintro e w132 ⟨v474, rfl, ho0, hb⟩; refine ⟨_, rfl, ?_⟩; have n0_ := Aside0.mk (Kd.R_elder' (by (with_reducible repeat (first | apply Kd.R_alloc | apply Kd.R_drewN | apply Kd.R_drew)); exact (Kd.R_mono (far6 gb440 (Kd.R_types HO_441005.out BK440.out (by decide)) (fun _ hk => hk.2)) (fun _ h_ => h_.1))) (Kd.R_base ho0) hb); have n1_ := Aside0.mk (Kd.R_elder' (by (with_reducible repeat (first | apply Kd.R_alloc | apply Kd.R_drewN | apply Kd.R_drew)); exact (Kd.R_mono (far6 gb440 (Kd.R_types HO466.out BK440.out (by decide)) (fun _ hk => hk.2)) (fun _ h_ => h_.1))) (Kd.R_base ho0) hb); have n2_ := Aside0.mk (Kd.R_lower (Kd.R_new' (Kd.R_new' ho0 (Kd.R_lt (by (with_reducible repeat (first | apply Kd.R_alloc | apply Kd.R_drewN | apply Kd.R_drew)); exact (Kd.R_mono (far6 gb440 (Kd.R_types HO_441005.out BK440.out (by decide)) (fun _ hk => hk.2)) (fun _ h_ => h_.1))))) (Kd.R_lt (by (with_reducible repeat (first | apply Kd.R_alloc | apply Kd.R_drewN | apply Kd.R_drew)); exact (Kd.R_mono (far6 gb440 (Kd.R_types HO466.out BK440.out (by decide)) (fun _ hk => hk.2)) (fun _ h_ => h_.1))))) (below_size bs_)); have n3_ := Aside0.mk (blk_below (bf_ BK436) hb); have n4_ := Aside0.mk (blk_below (bf_ BK437) hb); have n5_ := Aside0.mk (blk_below (bf_ BK438) hb); have n6_ := Aside0.mk (blk_below (bp_ (o := .cells #[.int .i64 t459, .int .i64 t460, .int .i64 t461, .int .i64 t462, .int .i64 t463, .slice Ao123 t464.length co123] 25 (0, 0)) BK440) hb); have n7_ := Aside0.mk (below_step bs_ hb); clear HO_441005 HO466 BK436 BK437 BK438 BK440 HB; have HO_441005 := n0_; have HO466 := n1_; have HO475 := n2_; have BK436 := n3_; have BK437 := n4_; have BK438 := n5_; have BK440 := n6_; have HB := n7_; clear n0_ n1_ n2_ n3_ n4_ n5_ n6_ n7_; (try clear hb); (try clear hb2); (try clear hk); (try clear hi); (try clear ho0); obtain ⟨Ao133, co133, eo133⟩ := Kd.R_slice HO475.out; subst eo133; obtain ⟨hcz134_0, hcz134_1, hcz134_2, hcz134_3, hcz134_4, hcz134_5, hfz134_0, hfz134_1, hfz134_2, hfz134_3, hfz134_4, hfz134_5⟩ := blk6 BK440; obtain ⟨hcz135_0, hcz135_1, hcz135_2, hcz135_3, hfz135_0, hfz135_1, hfz135_2, hfz135_3⟩ := blk4 BK436; have pz136 : (0 ≤ (x12_2 : Int)) = True := eq_true (of_decide_eq_true (by first | (with_reducible assumption) | assumption)); have qz136 : ((x12_2 : Int) < 4) = True := eq_true (of_decide_eq_true (by first | (with_reducible assumption) | assumption)); have hcz136_v : w132.cell? ⟨gb436, (x12_2).toNat, none⟩ = some (.bool (sel4B a0_0 a0_1 a0_2 a0_3 x12_2)) := (blk_sel4B0 BK436.out rfl rfl rfl rfl (of_eq_true pz136) (of_eq_true qz136))))
               go_roundg kj44
               case measure => have := HK1.out; have := HK2.out; have := HJ44.out; omega
               case rel => exact ⟨(false), (wrap64 (x12_2 + 1)), (t468), (t469), (t470), (t471), (t472), (t473), (.slice Ao133 t473.length co133), eq_, eq_, H', ⟨by have := HK1.out; have := HK2.out; have := HJ44.out; omega⟩, ⟨by (with_reducible repeat (first | apply Kd.R_alloc | apply Kd.R_drewN | apply Kd.R_drew)); exact Kd.R_mono (far6 gb440 (Kd.R_types HO475.out BK440.out (by decide)) (fun _ hk => hk.2)) (fun _ hk => trivial)⟩, ⟨bf_ BK436⟩, ⟨bf_ BK437⟩, ⟨bf_ BK438⟩, ⟨bp_ BK440⟩, ⟨bs_⟩⟩
             ·rw [if_neg c96] at H
              have c96b0 : sel4B a1_0 a1_1 a1_2 a1_3 x12_2 = false := by simpa using c96
              clear c96
              by_cases c137 : x11_2 = true
              ·subst c137
               have H1 : (drydocklaw17_EpochWaits.l1 kj44 t439 t458 true (wrap64 (x12_2 + 1)) a0_0 a0_1 a0_2 a0_3 a1_0 a1_1 a1_2 a1_3 a2_0 a2_1 a2_2 a2_3 t459 t460 t461 t462 t463 t464) = some r := by rw [if_pos rfl] at H; exact H
               clear H
               have H := H1
               clear H1
               have H' := Aside0.mk H
               clear H
               have hnb138 := NB440_436.out
               have hnc138 := NB436_440.out
               have hnb139 := NB440_437.out
               have hnc139 := NB437_440.out
               have hnb140 := NB440_438.out
               have hnc140 := NB438_440.out
               obtain ⟨hcz141_0, hcz141_1, hcz141_2, hcz141_3, hcz141_4, hcz141_5, hfz141_0, hfz141_1, hfz141_2, hfz141_3, hfz141_4, hfz141_5⟩ := blk6 BK440
               obtain ⟨Ao142, co142, eo142⟩ := Kd.R_slice HO_441005.out
               subst eo142
               go_wp2_with (first | ((with_reducible refine gate_callee (f := 14) rfl ?_); refine goesL_ (some 51) rfl rfl Try.func14 (by kernel_rfl) rfl #[.agg #[.int .i64 x441000_2, .int .i64 x441001_2, .int .i64 x441002_2, .int .i64 x441003_2, .int .i64 x441004_2, .slice Ao142 x441005_2.length co142], .int .i64 x12_2] rfl (by (try simp only [List.map_toArray, List.map_cons, List.map_nil]); first | done | rfl | (simp only [List.length_drop, List.length_take]; rfl)) ?_; (with_reducible refine (epoch_Leave.calls kj44 x441000_2 x441001_2 x441002_2 x441003_2 x441004_2 _ _ x441005_2 x12_2 t459 t460 t461 t462 t463 t464 t467 _ ?side1 ?side2 A63.out).mono ?_); (case side1 => repeat (first | exact (Kd.R_reads' HO_441005.out).2.2 | (with_reducible refine Kd.C_alloc ?_ _) | (with_reducible refine Kd.C_drewN ?_ _) | (with_reducible refine Kd.C_drew ?_))); (case side2 => exact (Kd.R_reads' HO_441005.out).2.1); rintro e w143 ⟨v465, rfl, ho0, hb⟩; refine ⟨_, rfl, ?_⟩; have n0_ := Aside0.mk (Kd.R_elder' (rk_ HO_441005) (Kd.R_base ho0) hb); have n1_ := Aside0.mk (Kd.R_lower (Kd.R_new' ho0 (Kd.R_lt (rk_ HO_441005))) (below_size bs_)); have n2_ := Aside0.mk (blk_below (bk_ BK436) hb); have n3_ := Aside0.mk (blk_below (bk_ BK437) hb); have n4_ := Aside0.mk (blk_below (bk_ BK438) hb); have n5_ := Aside0.mk (blk_below (bk_ BK440) hb); have n6_ := Aside0.mk (below_step bs_ hb); clear HO_441005 BK436 BK437 BK438 BK440 HB; have HO_441005 := n0_; have HO466 := n1_; have BK436 := n2_; have BK437 := n3_; have BK438 := n4_; have BK440 := n5_; have HB := n6_; clear n0_ n1_ n2_ n3_ n4_ n5_ n6_; (try clear hb); (try clear hb2); (try clear hk); (try clear hi); (try clear ho0); obtain ⟨Ao144, co144, eo144⟩ := Kd.R_slice HO466.out; subst eo144; obtain ⟨hcz145_0, hcz145_1, hcz145_2, hcz145_3, hcz145_4, hcz145_5, hfz145_0, hfz145_1, hfz145_2, hfz145_3, hfz145_4, hfz145_5⟩ := blk6 BK440; have hnb146 := NB436_437.out; have hnc146 := NB437_436.out; have hnb147 := NB436_438.out; have hnc147 := NB438_436.out; obtain ⟨hcz148_0, hcz148_1, hcz148_2, hcz148_3, hfz148_0, hfz148_1, hfz148_2, hfz148_3⟩ := blk4 BK436; have pz149 : (0 ≤ (x12_2 : Int)) = True := eq_true (of_decide_eq_true (by first | (with_reducible assumption) | assumption)); have qz149 : ((x12_2 : Int) < 4) = True := eq_true (of_decide_eq_true (by first | (with_reducible assumption) | assumption)); have hcz149_v : w143.cell? ⟨gb436, (x12_2).toNat, none⟩ = some (.bool (sel4B a0_0 a0_1 a0_2 a0_3 x12_2)) := (blk_sel4B0 BK436.out rfl rfl rfl rfl (of_eq_true pz149) (of_eq_true qz149)); have hnb150 := NB437_438.out; have hnc150 := NB438_437.out; obtain ⟨hcz151_0, hcz151_1, hcz151_2, hcz151_3, hfz151_0, hfz151_1, hfz151_2, hfz151_3⟩ := blk4 BK437; have pz152 : (0 ≤ (x12_2 : Int)) = True := eq_true (of_decide_eq_true (by first | (with_reducible assumption) | assumption)); have qz152 : ((x12_2 : Int) < 4) = True := eq_true (of_decide_eq_true (by first | (with_reducible assumption) | assumption)); have hcz152_v : w143.cell? ⟨gb437, (x12_2).toNat, none⟩ = some (.bool (sel4B a1_0 a1_1 a1_2 a1_3 x12_2)) := (blk_sel4B0 BK437.out rfl rfl rfl rfl (of_eq_true pz152) (of_eq_true qz152))))
               go_roundg kj44
               case measure => have := HK1.out; have := HK2.out; have := HJ44.out; omega
               case rel => exact ⟨(true), (wrap64 (x12_2 + 1)), (t459), (t460), (t461), (t462), (t463), (t464), (.slice Ao144 t464.length co144), eq_, eq_, H', ⟨by have := HK1.out; have := HK2.out; have := HJ44.out; omega⟩, ⟨by (with_reducible repeat (first | apply Kd.R_alloc | apply Kd.R_drewN | apply Kd.R_drew)); exact Kd.R_mono (far6 gb440 (Kd.R_types HO466.out BK440.out (by decide)) (fun _ hk => hk.2)) (fun _ hk => trivial)⟩, ⟨bf_ BK436⟩, ⟨bf_ BK437⟩, ⟨bf_ BK438⟩, ⟨bp_ BK440⟩, ⟨bs_⟩⟩
              ·replace c137 := Bool.eq_false_iff.mpr c137
               subst c137
               have H1 : (drydocklaw17_EpochWaits.l1 kj44 t439 t458 false (wrap64 (x12_2 + 1)) a0_0 a0_1 a0_2 a0_3 a1_0 a1_1 a1_2 a1_3 a2_0 a2_1 a2_2 a2_3 t459 t460 t461 t462 t463 t464) = some r := by rw [if_neg (show ¬ (false = true) by decide)] at H; exact H
               clear H
               have H := H1
               clear H1
               have H' := Aside0.mk H
               clear H
               have hnb153 := NB440_436.out
               have hnc153 := NB436_440.out
               have hnb154 := NB440_437.out
               have hnc154 := NB437_440.out
               have hnb155 := NB440_438.out
               have hnc155 := NB438_440.out
               obtain ⟨hcz156_0, hcz156_1, hcz156_2, hcz156_3, hcz156_4, hcz156_5, hfz156_0, hfz156_1, hfz156_2, hfz156_3, hfz156_4, hfz156_5⟩ := blk6 BK440
               obtain ⟨Ao157, co157, eo157⟩ := Kd.R_slice HO_441005.out
               subst eo157
               go_wp2_with (first | ((with_reducible refine gate_callee (f := 14) rfl ?_); refine goesL_ (some 51) rfl rfl Try.func14 (by kernel_rfl) rfl #[.agg #[.int .i64 x441000_2, .int .i64 x441001_2, .int .i64 x441002_2, .int .i64 x441003_2, .int .i64 x441004_2, .slice Ao157 x441005_2.length co157], .int .i64 x12_2] rfl (by (try simp only [List.map_toArray, List.map_cons, List.map_nil]); first | done | rfl | (simp only [List.length_drop, List.length_take]; rfl)) ?_; (with_reducible refine (epoch_Leave.calls kj44 x441000_2 x441001_2 x441002_2 x441003_2 x441004_2 _ _ x441005_2 x12_2 t459 t460 t461 t462 t463 t464 t467 _ ?side1 ?side2 A63.out).mono ?_); (case side1 => repeat (first | exact (Kd.R_reads' HO_441005.out).2.2 | (with_reducible refine Kd.C_alloc ?_ _) | (with_reducible refine Kd.C_drewN ?_ _) | (with_reducible refine Kd.C_drew ?_))); (case side2 => exact (Kd.R_reads' HO_441005.out).2.1); rintro e w158 ⟨v465, rfl, ho0, hb⟩; refine ⟨_, rfl, ?_⟩; have n0_ := Aside0.mk (Kd.R_elder' (rk_ HO_441005) (Kd.R_base ho0) hb); have n1_ := Aside0.mk (Kd.R_lower (Kd.R_new' ho0 (Kd.R_lt (rk_ HO_441005))) (below_size bs_)); have n2_ := Aside0.mk (blk_below (bk_ BK436) hb); have n3_ := Aside0.mk (blk_below (bk_ BK437) hb); have n4_ := Aside0.mk (blk_below (bk_ BK438) hb); have n5_ := Aside0.mk (blk_below (bk_ BK440) hb); have n6_ := Aside0.mk (below_step bs_ hb); clear HO_441005 BK436 BK437 BK438 BK440 HB; have HO_441005 := n0_; have HO466 := n1_; have BK436 := n2_; have BK437 := n3_; have BK438 := n4_; have BK440 := n5_; have HB := n6_; clear n0_ n1_ n2_ n3_ n4_ n5_ n6_; (try clear hb); (try clear hb2); (try clear hk); (try clear hi); (try clear ho0); obtain ⟨Ao159, co159, eo159⟩ := Kd.R_slice HO466.out; subst eo159; obtain ⟨hcz160_0, hcz160_1, hcz160_2, hcz160_3, hcz160_4, hcz160_5, hfz160_0, hfz160_1, hfz160_2, hfz160_3, hfz160_4, hfz160_5⟩ := blk6 BK440; have hnb161 := NB436_437.out; have hnc161 := NB437_436.out; have hnb162 := NB436_438.out; have hnc162 := NB438_436.out; obtain ⟨hcz163_0, hcz163_1, hcz163_2, hcz163_3, hfz163_0, hfz163_1, hfz163_2, hfz163_3⟩ := blk4 BK436; have pz164 : (0 ≤ (x12_2 : Int)) = True := eq_true (of_decide_eq_true (by first | (with_reducible assumption) | assumption)); have qz164 : ((x12_2 : Int) < 4) = True := eq_true (of_decide_eq_true (by first | (with_reducible assumption) | assumption)); have hcz164_v : w158.cell? ⟨gb436, (x12_2).toNat, none⟩ = some (.bool (sel4B a0_0 a0_1 a0_2 a0_3 x12_2)) := (blk_sel4B0 BK436.out rfl rfl rfl rfl (of_eq_true pz164) (of_eq_true qz164)); have hnb165 := NB437_438.out; have hnc165 := NB438_437.out; obtain ⟨hcz166_0, hcz166_1, hcz166_2, hcz166_3, hfz166_0, hfz166_1, hfz166_2, hfz166_3⟩ := blk4 BK437; have pz167 : (0 ≤ (x12_2 : Int)) = True := eq_true (of_decide_eq_true (by first | (with_reducible assumption) | assumption)); have qz167 : ((x12_2 : Int) < 4) = True := eq_true (of_decide_eq_true (by first | (with_reducible assumption) | assumption)); have hcz167_v : w158.cell? ⟨gb437, (x12_2).toNat, none⟩ = some (.bool (sel4B a1_0 a1_1 a1_2 a1_3 x12_2)) := (blk_sel4B0 BK437.out rfl rfl rfl rfl (of_eq_true pz167) (of_eq_true qz167)); have pz168 : (0 ≤ (x12_2 : Int)) = True := eq_true (of_decide_eq_true (by first | (with_reducible assumption) | assumption)); have qz168 : ((x12_2 : Int) < 4) = True := eq_true (of_decide_eq_true (by first | (with_reducible assumption) | assumption)); have hcz168_v : w158.cell? ⟨gb436, (x12_2).toNat, none⟩ = some (.bool (sel4B a0_0 a0_1 a0_2 a0_3 x12_2)) := (blk_sel4B0 BK436.out rfl rfl rfl rfl (of_eq_true pz168) (of_eq_true qz168))))
               go_roundg kj44
               case measure => have := HK1.out; have := HK2.out; have := HJ44.out; omega
               case rel => exact ⟨(false), (wrap64 (x12_2 + 1)), (t459), (t460), (t461), (t462), (t463), (t464), (.slice Ao159 t464.length co159), eq_, eq_, H', ⟨by have := HK1.out; have := HK2.out; have := HJ44.out; omega⟩, ⟨by (with_reducible repeat (first | apply Kd.R_alloc | apply Kd.R_drewN | apply Kd.R_drew)); exact Kd.R_mono (far6 gb440 (Kd.R_types HO466.out BK440.out (by decide)) (fun _ hk => hk.2)) (fun _ hk => trivial)⟩, ⟨bf_ BK436⟩, ⟨bf_ BK437⟩, ⟨bf_ BK438⟩, ⟨bp_ BK440⟩, ⟨bs_⟩⟩
           ·rw [if_neg c65] at H
            exact absurd H (by simp)
          ·rw [if_neg c64] at H
           exact absurd H (by simp)
         ·replace c62 := Bool.eq_false_iff.mpr c62
          subst c62
          have H1 : (if 0 ≤ x12_2 then (if x12_2 < 4 then (if sel4B a0_0 a0_1 a0_2 a0_3 x12_2 = true then (if x11_2 = true then (drydocklaw17_EpochWaits.l1 kj44 t439 t458 true (wrap64 (x12_2 + 1)) a0_0 a0_1 a0_2 a0_3 a1_0 a1_1 a1_2 a1_3 a2_0 a2_1 a2_2 a2_3 x441000_2 x441001_2 x441002_2 x441003_2 x441004_2 x441005_2) else (drydocklaw17_EpochWaits.l1 kj44 t439 t458 (!(sel4B a2_0 a2_1 a2_2 a2_3 x12_2)) (wrap64 (x12_2 + 1)) a0_0 a0_1 a0_2 a0_3 a1_0 a1_1 a1_2 a1_3 a2_0 a2_1 a2_2 a2_3 x441000_2 x441001_2 x441002_2 x441003_2 x441004_2 x441005_2)) else (if sel4B a1_0 a1_1 a1_2 a1_3 x12_2 = true then ((epoch_Enter.f kj44 x441000_2 x441001_2 x441002_2 x441003_2 x441004_2 x441005_2 x12_2).bind fun bt477 => (if x11_2 = true then (drydocklaw17_EpochWaits.l1 kj44 t439 t458 true (wrap64 (x12_2 + 1)) a0_0 a0_1 a0_2 a0_3 a1_0 a1_1 a1_2 a1_3 a2_0 a2_1 a2_2 a2_3 bt477.1 bt477.2.1 bt477.2.2.1 bt477.2.2.2.1 bt477.2.2.2.2.1 bt477.2.2.2.2.2.1) else (drydocklaw17_EpochWaits.l1 kj44 t439 t458 false (wrap64 (x12_2 + 1)) a0_0 a0_1 a0_2 a0_3 a1_0 a1_1 a1_2 a1_3 a2_0 a2_1 a2_2 a2_3 bt477.1 bt477.2.1 bt477.2.2.1 bt477.2.2.2.1 bt477.2.2.2.2.1 bt477.2.2.2.2.2.1))) else (if x11_2 = true then (drydocklaw17_EpochWaits.l1 kj44 t439 t458 true (wrap64 (x12_2 + 1)) a0_0 a0_1 a0_2 a0_3 a1_0 a1_1 a1_2 a1_3 a2_0 a2_1 a2_2 a2_3 x441000_2 x441001_2 x441002_2 x441003_2 x441004_2 x441005_2) else (drydocklaw17_EpochWaits.l1 kj44 t439 t458 false (wrap64 (x12_2 + 1)) a0_0 a0_1 a0_2 a0_3 a1_0 a1_1 a1_2 a1_3 a2_0 a2_1 a2_2 a2_3 x441000_2 x441001_2 x441002_2 x441003_2 x441004_2 x441005_2)))) else (none)) else (none)) = some r := by rw [if_neg (show ¬ (false = true) by decide)] at H; exact H
          clear H
          have H := H1
          clear H1
          by_cases c169 : 0 ≤ x12_2
          ·rw [if_pos c169] at H
           have c169b0 : decide (0 ≤ x12_2) = true := decide_eq_true c169
           clear c169
           by_cases c170 : x12_2 < 4
           ·rw [if_pos c170] at H
            have c170b0 : decide (x12_2 < 4) = true := decide_eq_true c170
            clear c170
            by_cases c171 : sel4B a0_0 a0_1 a0_2 a0_3 x12_2 = true
            ·rw [if_pos c171] at H
             have c171b0 : sel4B a0_0 a0_1 a0_2 a0_3 x12_2 = true := c171
             clear c171
             by_cases c172 : x11_2 = true
             ·subst c172
              have H1 : (drydocklaw17_EpochWaits.l1 kj44 t439 t458 true (wrap64 (x12_2 + 1)) a0_0 a0_1 a0_2 a0_3 a1_0 a1_1 a1_2 a1_3 a2_0 a2_1 a2_2 a2_3 x441000_2 x441001_2 x441002_2 x441003_2 x441004_2 x441005_2) = some r := by rw [if_pos rfl] at H; exact H
              clear H
              have H := H1
              clear H1
              have H' := Aside0.mk H
              clear H
              have hnb173 := NB436_437.out
              have hnc173 := NB437_436.out
              have hnb174 := NB436_438.out
              have hnc174 := NB438_436.out
              have hnb175 := NB436_440.out
              have hnc175 := NB440_436.out
              obtain ⟨hcz176_0, hcz176_1, hcz176_2, hcz176_3, hfz176_0, hfz176_1, hfz176_2, hfz176_3⟩ := blk4 BK436
              have pz177 : (0 ≤ (x12_2 : Int)) = True := eq_true (of_decide_eq_true (by first | (with_reducible assumption) | assumption))
              have qz177 : ((x12_2 : Int) < 4) = True := eq_true (of_decide_eq_true (by first | (with_reducible assumption) | assumption))
              have hcz177_v : wc.cell? ⟨gb436, (x12_2).toNat, none⟩ = some (.bool (sel4B a0_0 a0_1 a0_2 a0_3 x12_2)) := (blk_sel4B0 BK436.out rfl rfl rfl rfl (of_eq_true pz177) (of_eq_true qz177))
              go_wp2
              go_roundg kj44
              case measure => have := HK1.out; have := HK2.out; have := HJ44.out; omega
              case rel => exact ⟨(true), (wrap64 (x12_2 + 1)), (x441000_2), (x441001_2), (x441002_2), (x441003_2), (x441004_2), (x441005_2), (u441005), eq_, eq_, H', ⟨by have := HK1.out; have := HK2.out; have := HJ44.out; omega⟩, ⟨by (with_reducible repeat (first | apply Kd.R_alloc | apply Kd.R_drewN | apply Kd.R_drew)); exact HO_441005.out⟩, ⟨bk_ BK436⟩, ⟨bk_ BK437⟩, ⟨bk_ BK438⟩, ⟨bk_ BK440⟩, ⟨bs_⟩⟩
             ·replace c172 := Bool.eq_false_iff.mpr c172
              subst c172
              have H1 : (drydocklaw17_EpochWaits.l1 kj44 t439 t458 (!(sel4B a2_0 a2_1 a2_2 a2_3 x12_2)) (wrap64 (x12_2 + 1)) a0_0 a0_1 a0_2 a0_3 a1_0 a1_1 a1_2 a1_3 a2_0 a2_1 a2_2 a2_3 x441000_2 x441001_2 x441002_2 x441003_2 x441004_2 x441005_2) = some r := by rw [if_neg (show ¬ (false = true) by decide)] at H; exact H
              clear H
              have H := H1
              clear H1
              have H' := Aside0.mk H
              clear H
              have hnb178 := NB436_437.out
              have hnc178 := NB437_436.out
              have hnb179 := NB436_438.out
              have hnc179 := NB438_436.out
              have hnb180 := NB436_440.out
              have hnc180 := NB440_436.out
              obtain ⟨hcz181_0, hcz181_1, hcz181_2, hcz181_3, hfz181_0, hfz181_1, hfz181_2, hfz181_3⟩ := blk4 BK436
              have pz182 : (0 ≤ (x12_2 : Int)) = True := eq_true (of_decide_eq_true (by first | (with_reducible assumption) | assumption))
              have qz182 : ((x12_2 : Int) < 4) = True := eq_true (of_decide_eq_true (by first | (with_reducible assumption) | assumption))
              have hcz182_v : wc.cell? ⟨gb436, (x12_2).toNat, none⟩ = some (.bool (sel4B a0_0 a0_1 a0_2 a0_3 x12_2)) := (blk_sel4B0 BK436.out rfl rfl rfl rfl (of_eq_true pz182) (of_eq_true qz182))
              have pz183 : (0 ≤ (x12_2 : Int)) = True := eq_true (of_decide_eq_true (by first | (with_reducible assumption) | assumption))
              have qz183 : ((x12_2 : Int) < 4) = True := eq_true (of_decide_eq_true (by first | (with_reducible assumption) | assumption))
              have hcz183_v : wc.cell? ⟨gb436, (x12_2).toNat, none⟩ = some (.bool (sel4B a0_0 a0_1 a0_2 a0_3 x12_2)) := (blk_sel4B0 BK436.out rfl rfl rfl rfl (of_eq_true pz183) (of_eq_true qz183))
              have hnb184 := NB438_437.out
              have hnc184 := NB437_438.out
              have hnb185 := NB438_440.out
              have hnc185 := NB440_438.out
              obtain ⟨hcz186_0, hcz186_1, hcz186_2, hcz186_3, hfz186_0, hfz186_1, hfz186_2, hfz186_3⟩ := blk4 BK438
              have pz187 : (0 ≤ (x12_2 : Int)) = True := eq_true (of_decide_eq_true (by first | (with_reducible assumption) | assumption))
              have qz187 : ((x12_2 : Int) < 4) = True := eq_true (of_decide_eq_true (by first | (with_reducible assumption) | assumption))
              have hcz187_v : wc.cell? ⟨gb438, (x12_2).toNat, none⟩ = some (.bool (sel4B a2_0 a2_1 a2_2 a2_3 x12_2)) := (blk_sel4B0 BK438.out rfl rfl rfl rfl (of_eq_true pz187) (of_eq_true qz187))
              go_wp2
              go_roundg kj44
              case measure => have := HK1.out; have := HK2.out; have := HJ44.out; omega
              case rel => exact ⟨(!(sel4B a2_0 a2_1 a2_2 a2_3 x12_2)), (wrap64 (x12_2 + 1)), (x441000_2), (x441001_2), (x441002_2), (x441003_2), (x441004_2), (x441005_2), (u441005), eq_, eq_, H', ⟨by have := HK1.out; have := HK2.out; have := HJ44.out; omega⟩, ⟨by (with_reducible repeat (first | apply Kd.R_alloc | apply Kd.R_drewN | apply Kd.R_drew)); exact HO_441005.out⟩, ⟨bk_ BK436⟩, ⟨bk_ BK437⟩, ⟨bk_ BK438⟩, ⟨bk_ BK440⟩, ⟨bs_⟩⟩
            ·rw [if_neg c171] at H
             have c171b0 : sel4B a0_0 a0_1 a0_2 a0_3 x12_2 = false := by simpa using c171
             clear c171
             by_cases c188 : sel4B a1_0 a1_1 a1_2 a1_3 x12_2 = true
             ·rw [if_pos c188] at H
              have c188b0 : sel4B a1_0 a1_1 a1_2 a1_3 x12_2 = true := c188
              clear c188
              replace H := Option.bind_eq_some_iff.mp H
              obtain ⟨⟨t477, t478, t479, t480, t481, t482, t485⟩, A1890, H⟩ := H
              replace H : (if x11_2 = true then (drydocklaw17_EpochWaits.l1 kj44 t439 t458 true (wrap64 (x12_2 + 1)) a0_0 a0_1 a0_2 a0_3 a1_0 a1_1 a1_2 a1_3 a2_0 a2_1 a2_2 a2_3 t477 t478 t479 t480 t481 t482) else (drydocklaw17_EpochWaits.l1 kj44 t439 t458 false (wrap64 (x12_2 + 1)) a0_0 a0_1 a0_2 a0_3 a1_0 a1_1 a1_2 a1_3 a2_0 a2_1 a2_2 a2_3 t477 t478 t479 t480 t481 t482)) = some r := H
              have A189 := Aside0.mk A1890
              clear A1890
              by_cases c190 : x11_2 = true
              ·subst c190
               have H1 : (drydocklaw17_EpochWaits.l1 kj44 t439 t458 true (wrap64 (x12_2 + 1)) a0_0 a0_1 a0_2 a0_3 a1_0 a1_1 a1_2 a1_3 a2_0 a2_1 a2_2 a2_3 t477 t478 t479 t480 t481 t482) = some r := by rw [if_pos rfl] at H; exact H
               clear H
               have H := H1
               clear H1
               have H' := Aside0.mk H
               clear H
               have hnb191 := NB436_437.out
               have hnc191 := NB437_436.out
               have hnb192 := NB436_438.out
               have hnc192 := NB438_436.out
               have hnb193 := NB436_440.out
               have hnc193 := NB440_436.out
               obtain ⟨hcz194_0, hcz194_1, hcz194_2, hcz194_3, hfz194_0, hfz194_1, hfz194_2, hfz194_3⟩ := blk4 BK436
               have pz195 : (0 ≤ (x12_2 : Int)) = True := eq_true (of_decide_eq_true (by first | (with_reducible assumption) | assumption))
               have qz195 : ((x12_2 : Int) < 4) = True := eq_true (of_decide_eq_true (by first | (with_reducible assumption) | assumption))
               have hcz195_v : wc.cell? ⟨gb436, (x12_2).toNat, none⟩ = some (.bool (sel4B a0_0 a0_1 a0_2 a0_3 x12_2)) := (blk_sel4B0 BK436.out rfl rfl rfl rfl (of_eq_true pz195) (of_eq_true qz195))
               have hnb196 := NB437_438.out
               have hnc196 := NB438_437.out
               have hnb197 := NB437_440.out
               have hnc197 := NB440_437.out
               obtain ⟨hcz198_0, hcz198_1, hcz198_2, hcz198_3, hfz198_0, hfz198_1, hfz198_2, hfz198_3⟩ := blk4 BK437
               have pz199 : (0 ≤ (x12_2 : Int)) = True := eq_true (of_decide_eq_true (by first | (with_reducible assumption) | assumption))
               have qz199 : ((x12_2 : Int) < 4) = True := eq_true (of_decide_eq_true (by first | (with_reducible assumption) | assumption))
               have hcz199_v : wc.cell? ⟨gb437, (x12_2).toNat, none⟩ = some (.bool (sel4B a1_0 a1_1 a1_2 a1_3 x12_2)) := (blk_sel4B0 BK437.out rfl rfl rfl rfl (of_eq_true pz199) (of_eq_true qz199))
               have hnb200 := NB440_438.out
               have hnc200 := NB438_440.out
               obtain ⟨hcz201_0, hcz201_1, hcz201_2, hcz201_3, hcz201_4, hcz201_5, hfz201_0, hfz201_1, hfz201_2, hfz201_3, hfz201_4, hfz201_5⟩ := blk6 BK440
               obtain ⟨Ao202, co202, eo202⟩ := Kd.R_slice HO_441005.out
               subst eo202
               go_wp2_with (first | ((with_reducible refine gate_callee (f := 11) rfl ?_); refine goesL_ (some 66) rfl rfl Try.func11 (by kernel_rfl) rfl #[.agg #[.int .i64 x441000_2, .int .i64 x441001_2, .int .i64 x441002_2, .int .i64 x441003_2, .int .i64 x441004_2, .slice Ao202 x441005_2.length co202], .int .i64 x12_2] rfl (by (try simp only [List.map_toArray, List.map_cons, List.map_nil]); first | done | rfl | (simp only [List.length_drop, List.length_take]; rfl)) ?_; (with_reducible refine (epoch_Enter.calls kj44 x441000_2 x441001_2 x441002_2 x441003_2 x441004_2 _ _ x441005_2 x12_2 t477 t478 t479 t480 t481 t482 t485 _ ?side1 ?side2 A189.out).mono ?_); (case side1 => repeat (first | exact (Kd.R_reads' HO_441005.out).2.2 | (with_reducible refine Kd.C_alloc ?_ _) | (with_reducible refine Kd.C_drewN ?_ _) | (with_reducible refine Kd.C_drew ?_))); (case side2 => exact (Kd.R_reads' HO_441005.out).2.1); rintro e w203 ⟨v483, rfl, ho0, hb⟩; refine ⟨_, rfl, ?_⟩; have n0_ := Aside0.mk (Kd.R_elder' (rk_ HO_441005) (Kd.R_base ho0) hb); have n1_ := Aside0.mk (Kd.R_lower (Kd.R_new' ho0 (Kd.R_lt (rk_ HO_441005))) (below_size bs_)); have n2_ := Aside0.mk (blk_below (bk_ BK436) hb); have n3_ := Aside0.mk (blk_below (bk_ BK437) hb); have n4_ := Aside0.mk (blk_below (bk_ BK438) hb); have n5_ := Aside0.mk (blk_below (bk_ BK440) hb); have n6_ := Aside0.mk (below_step bs_ hb); clear HO_441005 BK436 BK437 BK438 BK440 HB; have HO_441005 := n0_; have HO484 := n1_; have BK436 := n2_; have BK437 := n3_; have BK438 := n4_; have BK440 := n5_; have HB := n6_; clear n0_ n1_ n2_ n3_ n4_ n5_ n6_; (try clear hb); (try clear hb2); (try clear hk); (try clear hi); (try clear ho0); obtain ⟨Ao204, co204, eo204⟩ := Kd.R_slice HO484.out; subst eo204; obtain ⟨hcz205_0, hcz205_1, hcz205_2, hcz205_3, hcz205_4, hcz205_5, hfz205_0, hfz205_1, hfz205_2, hfz205_3, hfz205_4, hfz205_5⟩ := blk6 BK440))
               go_roundg kj44
               case measure => have := HK1.out; have := HK2.out; have := HJ44.out; omega
               case rel => exact ⟨(true), (wrap64 (x12_2 + 1)), (t477), (t478), (t479), (t480), (t481), (t482), (.slice Ao204 t482.length co204), eq_, eq_, H', ⟨by have := HK1.out; have := HK2.out; have := HJ44.out; omega⟩, ⟨by (with_reducible repeat (first | apply Kd.R_alloc | apply Kd.R_drewN | apply Kd.R_drew)); exact Kd.R_mono (far6 gb440 (Kd.R_types HO484.out BK440.out (by decide)) (fun _ hk => hk.2)) (fun _ hk => trivial)⟩, ⟨bf_ BK436⟩, ⟨bf_ BK437⟩, ⟨bf_ BK438⟩, ⟨bp_ BK440⟩, ⟨bs_⟩⟩
              ·replace c190 := Bool.eq_false_iff.mpr c190
               subst c190
               have H1 : (drydocklaw17_EpochWaits.l1 kj44 t439 t458 false (wrap64 (x12_2 + 1)) a0_0 a0_1 a0_2 a0_3 a1_0 a1_1 a1_2 a1_3 a2_0 a2_1 a2_2 a2_3 t477 t478 t479 t480 t481 t482) = some r := by rw [if_neg (show ¬ (false = true) by decide)] at H; exact H
               clear H
               have H := H1
               clear H1
               have H' := Aside0.mk H
               clear H
               have hnb206 := NB436_437.out
               have hnc206 := NB437_436.out
               have hnb207 := NB436_438.out
               have hnc207 := NB438_436.out
               have hnb208 := NB436_440.out
               have hnc208 := NB440_436.out
               obtain ⟨hcz209_0, hcz209_1, hcz209_2, hcz209_3, hfz209_0, hfz209_1, hfz209_2, hfz209_3⟩ := blk4 BK436
               have pz210 : (0 ≤ (x12_2 : Int)) = True := eq_true (of_decide_eq_true (by first | (with_reducible assumption) | assumption))
               have qz210 : ((x12_2 : Int) < 4) = True := eq_true (of_decide_eq_true (by first | (with_reducible assumption) | assumption))
               have hcz210_v : wc.cell? ⟨gb436, (x12_2).toNat, none⟩ = some (.bool (sel4B a0_0 a0_1 a0_2 a0_3 x12_2)) := (blk_sel4B0 BK436.out rfl rfl rfl rfl (of_eq_true pz210) (of_eq_true qz210))
               have hnb211 := NB437_438.out
               have hnc211 := NB438_437.out
               have hnb212 := NB437_440.out
               have hnc212 := NB440_437.out
               obtain ⟨hcz213_0, hcz213_1, hcz213_2, hcz213_3, hfz213_0, hfz213_1, hfz213_2, hfz213_3⟩ := blk4 BK437
               have pz214 : (0 ≤ (x12_2 : Int)) = True := eq_true (of_decide_eq_true (by first | (with_reducible assumption) | assumption))
               have qz214 : ((x12_2 : Int) < 4) = True := eq_true (of_decide_eq_true (by first | (with_reducible assumption) | assumption))
               have hcz214_v : wc.cell? ⟨gb437, (x12_2).toNat, none⟩ = some (.bool (sel4B a1_0 a1_1 a1_2 a1_3 x12_2)) := (blk_sel4B0 BK437.out rfl rfl rfl rfl (of_eq_true pz214) (of_eq_true qz214))
               have hnb215 := NB440_438.out
               have hnc215 := NB438_440.out
               obtain ⟨hcz216_0, hcz216_1, hcz216_2, hcz216_3, hcz216_4, hcz216_5, hfz216_0, hfz216_1, hfz216_2, hfz216_3, hfz216_4, hfz216_5⟩ := blk6 BK440
               obtain ⟨Ao217, co217, eo217⟩ := Kd.R_slice HO_441005.out
               subst eo217
               go_wp2_with (first | ((with_reducible refine gate_callee (f := 11) rfl ?_); refine goesL_ (some 66) rfl rfl Try.func11 (by kernel_rfl) rfl #[.agg #[.int .i64 x441000_2, .int .i64 x441001_2, .int .i64 x441002_2, .int .i64 x441003_2, .int .i64 x441004_2, .slice Ao217 x441005_2.length co217], .int .i64 x12_2] rfl (by (try simp only [List.map_toArray, List.map_cons, List.map_nil]); first | done | rfl | (simp only [List.length_drop, List.length_take]; rfl)) ?_; (with_reducible refine (epoch_Enter.calls kj44 x441000_2 x441001_2 x441002_2 x441003_2 x441004_2 _ _ x441005_2 x12_2 t477 t478 t479 t480 t481 t482 t485 _ ?side1 ?side2 A189.out).mono ?_); (case side1 => repeat (first | exact (Kd.R_reads' HO_441005.out).2.2 | (with_reducible refine Kd.C_alloc ?_ _) | (with_reducible refine Kd.C_drewN ?_ _) | (with_reducible refine Kd.C_drew ?_))); (case side2 => exact (Kd.R_reads' HO_441005.out).2.1); rintro e w218 ⟨v483, rfl, ho0, hb⟩; refine ⟨_, rfl, ?_⟩; have n0_ := Aside0.mk (Kd.R_elder' (rk_ HO_441005) (Kd.R_base ho0) hb); have n1_ := Aside0.mk (Kd.R_lower (Kd.R_new' ho0 (Kd.R_lt (rk_ HO_441005))) (below_size bs_)); have n2_ := Aside0.mk (blk_below (bk_ BK436) hb); have n3_ := Aside0.mk (blk_below (bk_ BK437) hb); have n4_ := Aside0.mk (blk_below (bk_ BK438) hb); have n5_ := Aside0.mk (blk_below (bk_ BK440) hb); have n6_ := Aside0.mk (below_step bs_ hb); clear HO_441005 BK436 BK437 BK438 BK440 HB; have HO_441005 := n0_; have HO484 := n1_; have BK436 := n2_; have BK437 := n3_; have BK438 := n4_; have BK440 := n5_; have HB := n6_; clear n0_ n1_ n2_ n3_ n4_ n5_ n6_; (try clear hb); (try clear hb2); (try clear hk); (try clear hi); (try clear ho0); obtain ⟨Ao219, co219, eo219⟩ := Kd.R_slice HO484.out; subst eo219; obtain ⟨hcz220_0, hcz220_1, hcz220_2, hcz220_3, hcz220_4, hcz220_5, hfz220_0, hfz220_1, hfz220_2, hfz220_3, hfz220_4, hfz220_5⟩ := blk6 BK440; obtain ⟨hcz221_0, hcz221_1, hcz221_2, hcz221_3, hfz221_0, hfz221_1, hfz221_2, hfz221_3⟩ := blk4 BK436; have pz222 : (0 ≤ (x12_2 : Int)) = True := eq_true (of_decide_eq_true (by first | (with_reducible assumption) | assumption)); have qz222 : ((x12_2 : Int) < 4) = True := eq_true (of_decide_eq_true (by first | (with_reducible assumption) | assumption)); have hcz222_v : w218.cell? ⟨gb436, (x12_2).toNat, none⟩ = some (.bool (sel4B a0_0 a0_1 a0_2 a0_3 x12_2)) := (blk_sel4B0 BK436.out rfl rfl rfl rfl (of_eq_true pz222) (of_eq_true qz222))))
               go_roundg kj44
               case measure => have := HK1.out; have := HK2.out; have := HJ44.out; omega
               case rel => exact ⟨(false), (wrap64 (x12_2 + 1)), (t477), (t478), (t479), (t480), (t481), (t482), (.slice Ao219 t482.length co219), eq_, eq_, H', ⟨by have := HK1.out; have := HK2.out; have := HJ44.out; omega⟩, ⟨by (with_reducible repeat (first | apply Kd.R_alloc | apply Kd.R_drewN | apply Kd.R_drew)); exact Kd.R_mono (far6 gb440 (Kd.R_types HO484.out BK440.out (by decide)) (fun _ hk => hk.2)) (fun _ hk => trivial)⟩, ⟨bf_ BK436⟩, ⟨bf_ BK437⟩, ⟨bf_ BK438⟩, ⟨bp_ BK440⟩, ⟨bs_⟩⟩
             ·rw [if_neg c188] at H
              have c188b0 : sel4B a1_0 a1_1 a1_2 a1_3 x12_2 = false := by simpa using c188
              clear c188
              by_cases c223 : x11_2 = true
              ·subst c223
               have H1 : (drydocklaw17_EpochWaits.l1 kj44 t439 t458 true (wrap64 (x12_2 + 1)) a0_0 a0_1 a0_2 a0_3 a1_0 a1_1 a1_2 a1_3 a2_0 a2_1 a2_2 a2_3 x441000_2 x441001_2 x441002_2 x441003_2 x441004_2 x441005_2) = some r := by rw [if_pos rfl] at H; exact H
               clear H
               have H := H1
               clear H1
               have H' := Aside0.mk H
               clear H
               have hnb224 := NB436_437.out
               have hnc224 := NB437_436.out
               have hnb225 := NB436_438.out
               have hnc225 := NB438_436.out
               have hnb226 := NB436_440.out
               have hnc226 := NB440_436.out
               obtain ⟨hcz227_0, hcz227_1, hcz227_2, hcz227_3, hfz227_0, hfz227_1, hfz227_2, hfz227_3⟩ := blk4 BK436
               have pz228 : (0 ≤ (x12_2 : Int)) = True := eq_true (of_decide_eq_true (by first | (with_reducible assumption) | assumption))
               have qz228 : ((x12_2 : Int) < 4) = True := eq_true (of_decide_eq_true (by first | (with_reducible assumption) | assumption))
               have hcz228_v : wc.cell? ⟨gb436, (x12_2).toNat, none⟩ = some (.bool (sel4B a0_0 a0_1 a0_2 a0_3 x12_2)) := (blk_sel4B0 BK436.out rfl rfl rfl rfl (of_eq_true pz228) (of_eq_true qz228))
               have hnb229 := NB437_438.out
               have hnc229 := NB438_437.out
               have hnb230 := NB437_440.out
               have hnc230 := NB440_437.out
               obtain ⟨hcz231_0, hcz231_1, hcz231_2, hcz231_3, hfz231_0, hfz231_1, hfz231_2, hfz231_3⟩ := blk4 BK437
               have pz232 : (0 ≤ (x12_2 : Int)) = True := eq_true (of_decide_eq_true (by first | (with_reducible assumption) | assumption))
               have qz232 : ((x12_2 : Int) < 4) = True := eq_true (of_decide_eq_true (by first | (with_reducible assumption) | assumption))
               have hcz232_v : wc.cell? ⟨gb437, (x12_2).toNat, none⟩ = some (.bool (sel4B a1_0 a1_1 a1_2 a1_3 x12_2)) := (blk_sel4B0 BK437.out rfl rfl rfl rfl (of_eq_true pz232) (of_eq_true qz232))
               go_wp2
               go_roundg kj44
               case measure => have := HK1.out; have := HK2.out; have := HJ44.out; omega
               case rel => exact ⟨(true), (wrap64 (x12_2 + 1)), (x441000_2), (x441001_2), (x441002_2), (x441003_2), (x441004_2), (x441005_2), (u441005), eq_, eq_, H', ⟨by have := HK1.out; have := HK2.out; have := HJ44.out; omega⟩, ⟨by (with_reducible repeat (first | apply Kd.R_alloc | apply Kd.R_drewN | apply Kd.R_drew)); exact HO_441005.out⟩, ⟨bk_ BK436⟩, ⟨bk_ BK437⟩, ⟨bk_ BK438⟩, ⟨bk_ BK440⟩, ⟨bs_⟩⟩
              ·replace c223 := Bool.eq_false_iff.mpr c223
               subst c223
               have H1 : (drydocklaw17_EpochWaits.l1 kj44 t439 t458 false (wrap64 (x12_2 + 1)) a0_0 a0_1 a0_2 a0_3 a1_0 a1_1 a1_2 a1_3 a2_0 a2_1 a2_2 a2_3 x441000_2 x441001_2 x441002_2 x441003_2 x441004_2 x441005_2) = some r := by rw [if_neg (show ¬ (false = true) by decide)] at H; exact H
               clear H
               have H := H1
               clear H1
               have H' := Aside0.mk H
               clear H
               have hnb233 := NB436_437.out
               have hnc233 := NB437_436.out
               have hnb234 := NB436_438.out
               have hnc234 := NB438_436.out
               have hnb235 := NB436_440.out
               have hnc235 := NB440_436.out
               obtain ⟨hcz236_0, hcz236_1, hcz236_2, hcz236_3, hfz236_0, hfz236_1, hfz236_2, hfz236_3⟩ := blk4 BK436
               have pz237 : (0 ≤ (x12_2 : Int)) = True := eq_true (of_decide_eq_true (by first | (with_reducible assumption) | assumption))
               have qz237 : ((x12_2 : Int) < 4) = True := eq_true (of_decide_eq_true (by first | (with_reducible assumption) | assumption))
               have hcz237_v : wc.cell? ⟨gb436, (x12_2).toNat, none⟩ = some (.bool (sel4B a0_0 a0_1 a0_2 a0_3 x12_2)) := (blk_sel4B0 BK436.out rfl rfl rfl rfl (of_eq_true pz237) (of_eq_true qz237))
               have hnb238 := NB437_438.out
               have hnc238 := NB438_437.out
               have hnb239 := NB437_440.out
               have hnc239 := NB440_437.out
               obtain ⟨hcz240_0, hcz240_1, hcz240_2, hcz240_3, hfz240_0, hfz240_1, hfz240_2, hfz240_3⟩ := blk4 BK437
               have pz241 : (0 ≤ (x12_2 : Int)) = True := eq_true (of_decide_eq_true (by first | (with_reducible assumption) | assumption))
               have qz241 : ((x12_2 : Int) < 4) = True := eq_true (of_decide_eq_true (by first | (with_reducible assumption) | assumption))
               have hcz241_v : wc.cell? ⟨gb437, (x12_2).toNat, none⟩ = some (.bool (sel4B a1_0 a1_1 a1_2 a1_3 x12_2)) := (blk_sel4B0 BK437.out rfl rfl rfl rfl (of_eq_true pz241) (of_eq_true qz241))
               have pz242 : (0 ≤ (x12_2 : Int)) = True := eq_true (of_decide_eq_true (by first | (with_reducible assumption) | assumption))
               have qz242 : ((x12_2 : Int) < 4) = True := eq_true (of_decide_eq_true (by first | (with_reducible assumption) | assumption))
               have hcz242_v : wc.cell? ⟨gb436, (x12_2).toNat, none⟩ = some (.bool (sel4B a0_0 a0_1 a0_2 a0_3 x12_2)) := (blk_sel4B0 BK436.out rfl rfl rfl rfl (of_eq_true pz242) (of_eq_true qz242))
               go_wp2
               go_roundg kj44
               case measure => have := HK1.out; have := HK2.out; have := HJ44.out; omega
               case rel => exact ⟨(false), (wrap64 (x12_2 + 1)), (x441000_2), (x441001_2), (x441002_2), (x441003_2), (x441004_2), (x441005_2), (u441005), eq_, eq_, H', ⟨by have := HK1.out; have := HK2.out; have := HJ44.out; omega⟩, ⟨by (with_reducible repeat (first | apply Kd.R_alloc | apply Kd.R_drewN | apply Kd.R_drew)); exact HO_441005.out⟩, ⟨bk_ BK436⟩, ⟨bk_ BK437⟩, ⟨bk_ BK438⟩, ⟨bk_ BK440⟩, ⟨bs_⟩⟩
           ·rw [if_neg c170] at H
            exact absurd H (by simp)
          ·rw [if_neg c169] at H
           exact absurd H (by simp)
      ·rw [if_neg c44] at H
       have c44b0 : decide (x12_2 < 4) = false := decide_eq_false c44
       clear c44
       replace H := Option.bind_eq_some_iff.mp H
       obtain ⟨t486, A2430, H⟩ := H
       replace H : ((epoch_Clear.f k2 x441000_2 x441001_2 x441002_2 x441003_2 x441004_2 x441005_2).bind fun bt489 => (if t439 = true then (if t458 = 0 then ((drydockref01_Ints.f k2 t486 bt489.2.2.2.2.2.2).bind fun t501 => (if t501 = true then (if (((t486.length : Int) == 0) == x11_2) = true then (if x11_2 = true then ((epoch_May.f k2 x441000_2 x441001_2 x441002_2 x441003_2 x441004_2 x441005_2).bind fun t502 => (some t502)) else (if 0 < (t486.length : Int) then (if (rd t486 0) = 7 then ((epoch_May.f k2 x441000_2 x441001_2 x441002_2 x441003_2 x441004_2 x441005_2).bind fun t504 => (some t504)) else (none)) else (none))) else (none)) else (none))) else (none)) else (none))) = some r := H
       have A243 := Aside0.mk A2430
       clear A2430
       replace H := Option.bind_eq_some_iff.mp H
       obtain ⟨⟨t489, t490, t491, t492, t493, t494, t497⟩, A2440, H⟩ := H
       replace H : (if t439 = true then (if t458 = 0 then ((drydockref01_Ints.f k2 t486 t497).bind fun t501 => (if t501 = true then (if (((t486.length : Int) == 0) == x11_2) = true then (if x11_2 = true then ((epoch_May.f k2 x441000_2 x441001_2 x441002_2 x441003_2 x441004_2 x441005_2).bind fun t502 => (some t502)) else (if 0 < (t486.length : Int) then (if (rd t486 0) = 7 then ((epoch_May.f k2 x441000_2 x441001_2 x441002_2 x441003_2 x441004_2 x441005_2).bind fun t504 => (some t504)) else (none)) else (none))) else (none)) else (none))) else (none)) else (none)) = some r := H
       have A244 := Aside0.mk A2440
       clear A2440
       by_cases c245 : t439 = true
       ·subst c245
        have H1 : (if t458 = 0 then ((drydockref01_Ints.f k2 t486 t497).bind fun t501 => (if t501 = true then (if (((t486.length : Int) == 0) == x11_2) = true then (if x11_2 = true then ((epoch_May.f k2 x441000_2 x441001_2 x441002_2 x441003_2 x441004_2 x441005_2).bind fun t502 => (some t502)) else (if 0 < (t486.length : Int) then (if (rd t486 0) = 7 then ((epoch_May.f k2 x441000_2 x441001_2 x441002_2 x441003_2 x441004_2 x441005_2).bind fun t504 => (some t504)) else (none)) else (none))) else (none)) else (none))) else (none)) = some r := by rw [if_pos rfl] at H; exact H
        clear H
        have H := H1
        clear H1
        by_cases c246 : t458 = 0
        ·rw [if_pos c246] at H
         have c246b0 : (t458 == 0) = true := beq_iff_eq.mpr c246
         have c246b1 : (t458 != 0) = false := bne_eq_false_iff_eq.mpr c246
         clear c246
         replace H := Option.bind_eq_some_iff.mp H
         obtain ⟨t501, A2470, H⟩ := H
         replace H : (if t501 = true then (if (((t486.length : Int) == 0) == x11_2) = true then (if x11_2 = true then ((epoch_May.f k2 x441000_2 x441001_2 x441002_2 x441003_2 x441004_2 x441005_2).bind fun t502 => (some t502)) else (if 0 < (t486.length : Int) then (if (rd t486 0) = 7 then ((epoch_May.f k2 x441000_2 x441001_2 x441002_2 x441003_2 x441004_2 x441005_2).bind fun t504 => (some t504)) else (none)) else (none))) else (none)) else (none)) = some r := H
         have A247 := Aside0.mk A2470
         clear A2470
         by_cases c248 : t501 = true
         ·subst c248
          have H1 : (if (((t486.length : Int) == 0) == x11_2) = true then (if x11_2 = true then ((epoch_May.f k2 x441000_2 x441001_2 x441002_2 x441003_2 x441004_2 x441005_2).bind fun t502 => (some t502)) else (if 0 < (t486.length : Int) then (if (rd t486 0) = 7 then ((epoch_May.f k2 x441000_2 x441001_2 x441002_2 x441003_2 x441004_2 x441005_2).bind fun t504 => (some t504)) else (none)) else (none))) else (none)) = some r := by rw [if_pos rfl] at H; exact H
          clear H
          have H := H1
          clear H1
          by_cases c249 : (((t486.length : Int) == 0) == x11_2) = true
          ·rw [if_pos c249] at H
           have c249b0 : (((t486.length : Int) == 0) == x11_2) = true := c249
           (try (have c249b1 : decide (((t486.length : Int) == 0) = x11_2) = true := by simpa using c249))
           (try (have c249b2 : (((t486.length : Int) == 0) == x11_2) = true := by simpa using c249))
           clear c249
           by_cases c250 : x11_2 = true
           ·subst c250
            have H1 : ((epoch_May.f k2 x441000_2 x441001_2 x441002_2 x441003_2 x441004_2 x441005_2).bind fun t502 => (some t502)) = some r := by rw [if_pos rfl] at H; exact H
            clear H
            have H := H1
            clear H1
            replace H := Option.bind_eq_some_iff.mp H
            obtain ⟨t502, A2510, H⟩ := H
            replace H : (some t502) = some r := H
            have A251 := Aside0.mk A2510
            clear A2510
            obtain rfl := Option.some.inj H
            have hnb252 := NB440_436.out
            have hnc252 := NB436_440.out
            have hnb253 := NB440_437.out
            have hnc253 := NB437_440.out
            have hnb254 := NB440_438.out
            have hnc254 := NB438_440.out
            obtain ⟨hcz255_0, hcz255_1, hcz255_2, hcz255_3, hcz255_4, hcz255_5, hfz255_0, hfz255_1, hfz255_2, hfz255_3, hfz255_4, hfz255_5⟩ := blk6 BK440
            obtain ⟨Ao256, co256, eo256⟩ := Kd.R_slice HO_441005.out
            subst eo256
            go_wp2_with (first | ((with_reducible refine gate_callee (f := 21) rfl ?_); refine goesL_ (some 82) rfl rfl Try.func21 (by kernel_rfl) rfl #[.agg #[.int .i64 x441000_2, .int .i64 x441001_2, .int .i64 x441002_2, .int .i64 x441003_2, .int .i64 x441004_2, .slice Ao256 x441005_2.length co256]] rfl (by (try simp only [List.map_toArray, List.map_cons, List.map_nil]); first | done | rfl | (simp only [List.length_drop, List.length_take]; rfl)) ?_; (with_reducible refine (epoch_Ready.calls k2 x441000_2 x441001_2 x441002_2 x441003_2 x441004_2 _ _ x441005_2 t486 _ ?side1 ?side2 A243.out).mono ?_); (case side1 => repeat (first | exact (Kd.R_reads' HO_441005.out).2.2 | (with_reducible refine Kd.C_alloc ?_ _) | (with_reducible refine Kd.C_drewN ?_ _) | (with_reducible refine Kd.C_drew ?_))); (case side2 => exact (Kd.R_reads' HO_441005.out).2.1); rintro e w257 ⟨v487, rfl, ho0, hb⟩; refine ⟨_, rfl, ?_⟩; have n0_ := Aside0.mk (Kd.R_below (rk_ HO_441005) hb); have n1_ := Aside0.mk (Kd.R_lower ho0 (below_size bs_)); have n2_ := Aside0.mk (blk_below (bk_ BK436) hb); have n3_ := Aside0.mk (blk_below (bk_ BK437) hb); have n4_ := Aside0.mk (blk_below (bk_ BK438) hb); have n5_ := Aside0.mk (blk_below (bk_ BK440) hb); have n6_ := Aside0.mk (below_step bs_ hb); clear HO_441005 BK436 BK437 BK438 BK440 HB; have HO_441005 := n0_; have HO488 := n1_; have BK436 := n2_; have BK437 := n3_; have BK438 := n4_; have BK440 := n5_; have HB := n6_; clear n0_ n1_ n2_ n3_ n4_ n5_ n6_; (try clear hb); (try clear hb2); (try clear hk); (try clear hi); (try clear ho0); obtain ⟨Ao258, co258, eo258⟩ := Kd.R_slice HO488.out; subst eo258; obtain ⟨hcz259_0, hcz259_1, hcz259_2, hcz259_3, hcz259_4, hcz259_5, hfz259_0, hfz259_1, hfz259_2, hfz259_3, hfz259_4, hfz259_5⟩ := blk6 BK440) | ((with_reducible refine gate_callee (f := 18) rfl ?_); refine goesL_ (some 85) rfl rfl Try.func18 (by kernel_rfl) rfl #[.agg #[.int .i64 x441000_2, .int .i64 x441001_2, .int .i64 x441002_2, .int .i64 x441003_2, .int .i64 x441004_2, .slice Ao256 x441005_2.length co256]] rfl (by (try simp only [List.map_toArray, List.map_cons, List.map_nil]); first | done | rfl | (simp only [List.length_drop, List.length_take]; rfl)) ?_; (with_reducible refine (epoch_Clear.calls k2 x441000_2 x441001_2 x441002_2 x441003_2 x441004_2 _ _ x441005_2 t489 t490 t491 t492 t493 t494 t497 _ ?side1 ?side2 A244.out).mono ?_); (case side1 => repeat (first | exact (Kd.R_reads' HO_441005.out).2.2 | (with_reducible refine Kd.C_alloc ?_ _) | (with_reducible refine Kd.C_drewN ?_ _) | (with_reducible refine Kd.C_drew ?_))); (case side2 => exact (Kd.R_reads' HO_441005.out).2.1); rintro e w260 ⟨v495, v498, rfl, ho0, ho1, hb⟩; refine ⟨_, rfl, ?_⟩; have n0_ := Aside0.mk (Kd.R_elder' (rk_ HO_441005) (Kd.R_base ho0) hb); have n1_ := Aside0.mk (Kd.R_elder' (rk_ HO488) (Kd.R_base ho1) hb); have n2_ := Aside0.mk (Kd.R_lower (Kd.R_new' ho0 (Kd.R_lt (rk_ HO_441005))) (below_size bs_)); have n3_ := Aside0.mk (Kd.R_lower (Kd.R_new' ho1 (Kd.R_lt (rk_ HO488))) (below_size bs_)); have n4_ := Aside0.mk (blk_below (bk_ BK436) hb); have n5_ := Aside0.mk (blk_below (bk_ BK437) hb); have n6_ := Aside0.mk (blk_below (bk_ BK438) hb); have n7_ := Aside0.mk (blk_below (bk_ BK440) hb); have n8_ := Aside0.mk (below_step bs_ hb); clear HO_441005 HO488 BK436 BK437 BK438 BK440 HB; have HO_441005 := n0_; have HO488 := n1_; have HO496 := n2_; have HO499 := n3_; have BK436 := n4_; have BK437 := n5_; have BK438 := n6_; have BK440 := n7_; have HB := n8_; clear n0_ n1_ n2_ n3_ n4_ n5_ n6_ n7_ n8_; (try clear hb); (try clear hb2); (try clear hk); (try clear hi); (try clear ho0); (try clear ho1); obtain ⟨Ao261, co261, eo261⟩ := Kd.R_slice HO499.out; subst eo261; obtain ⟨Ao262, co262, eo262⟩ := Kd.R_slice HO496.out; subst eo262) | ((with_reducible refine gate_dst (N := 14) rfl ?_); (try (refine gate_guard (by rfl) ?_; dsimp only)); refine box_event ?hg (N := 14) ?hd (cs := #[.int .i64 0, .int .i64 0, .int .i64 0, .int .i64 0, .int .i64 0, .slice none 0 0]) (t := 25) ?hr ?_; (case hd => rfl); (case hg => rfl); (case hr => first | (go_simp; done) | (go_simp; rfl)); intro gb500 hg w263 hbox hb; have n0_ := Aside0.mk (Kd.R_below (rk_ HO_441005) hb); have n1_ := Aside0.mk (Kd.R_below (rk_ HO488) hb); have n2_ := Aside0.mk (Kd.R_below (rk_ HO496) hb); have n3_ := Aside0.mk (Kd.R_below (rk_ HO499) hb); have n4_ := Aside0.mk (blk_below (bk_ BK436) hb); have n5_ := Aside0.mk (blk_below (bk_ BK437) hb); have n6_ := Aside0.mk (blk_below (bk_ BK438) hb); have n7_ := Aside0.mk (blk_below (bk_ BK440) hb); have n8_ := Aside0.mk (below_step bs_ hb); have n9_ := Aside0.mk (hbox); have n10_ := Aside0.mk ((by rw [hg]; exact (below_size bs_) : w.heap.size ≤ gb500)); have n11_ := Aside0.mk ((by rw [hg]; exact (below_size bs_) : w.heap.size ≤ gb500)); have n12_ := Aside0.mk ((by rw [hg]; exact Nat.ne_of_lt (blk_lt (bk_ BK436)) : gb436 ≠ gb500)); have n13_ := Aside0.mk ((by rw [hg]; exact Nat.ne_of_gt (blk_lt (bk_ BK436)) : gb500 ≠ gb436)); have n14_ := Aside0.mk ((by rw [hg]; exact Nat.ne_of_lt (blk_lt (bk_ BK437)) : gb437 ≠ gb500)); have n15_ := Aside0.mk ((by rw [hg]; exact Nat.ne_of_gt (blk_lt (bk_ BK437)) : gb500 ≠ gb437)); have n16_ := Aside0.mk ((by rw [hg]; exact Nat.ne_of_lt (blk_lt (bk_ BK438)) : gb438 ≠ gb500)); have n17_ := Aside0.mk ((by rw [hg]; exact Nat.ne_of_gt (blk_lt (bk_ BK438)) : gb500 ≠ gb438)); have n18_ := Aside0.mk ((by rw [hg]; exact Nat.ne_of_lt (blk_lt (bk_ BK440)) : gb440 ≠ gb500)); have n19_ := Aside0.mk ((by rw [hg]; exact Nat.ne_of_gt (blk_lt (bk_ BK440)) : gb500 ≠ gb440)); clear HO_441005 HO488 HO496 HO499 BK436 BK437 BK438 BK440 HB; have HO_441005 := n0_; have HO488 := n1_; have HO496 := n2_; have HO499 := n3_; have BK436 := n4_; have BK437 := n5_; have BK438 := n6_; have BK440 := n7_; have HB := n8_; have BK500 := n9_; have GW500 := n10_; have GE500 := n11_; have NB436_500 := n12_; have NB500_436 := n13_; have NB437_500 := n14_; have NB500_437 := n15_; have NB438_500 := n16_; have NB500_438 := n17_; have NB440_500 := n18_; have NB500_440 := n19_; clear n0_ n1_ n2_ n3_ n4_ n5_ n6_ n7_ n8_ n9_ n10_ n11_ n12_ n13_ n14_ n15_ n16_ n17_ n18_ n19_; clear hb hbox hg; have hnb264 := NB500_436.out; have hnc264 := NB436_500.out; have hnb265 := NB500_437.out; have hnc265 := NB437_500.out; have hnb266 := NB500_438.out; have hnc266 := NB438_500.out; have hnb267 := NB500_440.out; have hnc267 := NB440_500.out; obtain ⟨hcz268_0, hcz268_1, hcz268_2, hcz268_3, hcz268_4, hcz268_5, hfz268_0, hfz268_1, hfz268_2, hfz268_3, hfz268_4, hfz268_5⟩ := blk6 BK500) | (go_at_call 20; (with_reducible refine (drydockref01_Ints.calls k2 _ _ t486 _ _ t497 true _ ?side1 ?side2 ?side3 ?side4 A247.out).mono ?_); (case side1 => refine (Kd.R_reads' (e := 3) (base := w.heap.size) (ok := fun k_ => (True ∧ some k_ ≠ (.slice Ao261 t497.length co261 : Value).ownBlock)) (n := t486.length) (c := co258) ?_).2.2; exact (by (with_reducible repeat (first | apply Kd.R_alloc | apply Kd.R_drewN | apply Kd.R_drew)); exact (Kd.R_mono (far6 gb500 (Kd.R_types HO488.out BK500.out (by decide)) (fun _ hk => hk.2)) (fun _ h_ => h_.1)))); (case side2 => exact (Kd.R_reads' HO488.out).2.1); (case side3 => refine (Kd.R_reads' (e := 3) (base := w.heap.size) (ok := fun k_ => (True ∧ some k_ ≠ (.slice Ao258 t486.length co258 : Value).ownBlock)) (n := t497.length) (c := co261) ?_).2.2; exact (by (with_reducible repeat (first | apply Kd.R_alloc | apply Kd.R_drewN | apply Kd.R_drew)); exact (Kd.R_mono (far6 gb500 (Kd.R_types HO499.out BK500.out (by decide)) (fun _ hk => hk.2)) (fun _ h_ => h_.1)))); (case side4 => exact (Kd.R_reads' HO499.out).2.1); rintro e w' ⟨rfl, ⟨nd, rfl⟩⟩; obtain ⟨hcz269_0, hcz269_1, hcz269_2, hcz269_3, hcz269_4, hcz269_5, hfz269_0, hfz269_1, hfz269_2, hfz269_3, hfz269_4, hfz269_5⟩ := blk6 BK440) | (go_at_call 23; (with_reducible refine (epoch_May.calls k2 x441000_2 x441001_2 x441002_2 x441003_2 x441004_2 _ _ x441005_2 t502 _ ?side1 ?side2 A251.out).mono ?_); (case side1 => refine (Kd.R_reads' (e := 43) (base := w.heap.size) (ok := fun k_ => (True ∧ some k_ ≠ (.slice Ao262 t494.length co262 : Value).ownBlock)) (n := x441005_2.length) (c := co256) ?_).2.2; exact (by (with_reducible repeat (first | apply Kd.R_alloc | apply Kd.R_drewN | apply Kd.R_drew)); exact (Kd.R_mono (far6 gb500 (Kd.R_types HO_441005.out BK500.out (by decide)) (fun _ hk => hk.2)) (fun _ h_ => h_.1)))); (case side2 => exact (Kd.R_reads' HO_441005.out).2.1); rintro e w270 ⟨rfl, hb⟩; have n0_ := Aside0.mk (Kd.R_below (by (with_reducible repeat (first | apply Kd.R_alloc | apply Kd.R_drewN | apply Kd.R_drew)); exact (Kd.R_mono (far6 gb500 (Kd.R_types HO_441005.out BK500.out (by decide)) (fun _ hk => hk.2)) (fun _ h_ => h_.1))) hb); have n1_ := Aside0.mk (Kd.R_below (by (with_reducible repeat (first | apply Kd.R_alloc | apply Kd.R_drewN | apply Kd.R_drew)); exact (Kd.R_mono (far6 gb500 (Kd.R_types HO488.out BK500.out (by decide)) (fun _ hk => hk.2)) (fun _ h_ => h_.1))) hb); have n2_ := Aside0.mk (Kd.R_below (by (with_reducible repeat (first | apply Kd.R_alloc | apply Kd.R_drewN | apply Kd.R_drew)); exact (Kd.R_mono (far6 gb500 (Kd.R_types HO496.out BK500.out (by decide)) (fun _ hk => hk.2)) (fun _ h_ => h_.1))) hb); have n3_ := Aside0.mk (Kd.R_below (by (with_reducible repeat (first | apply Kd.R_alloc | apply Kd.R_drewN | apply Kd.R_drew)); exact (Kd.R_mono (far6 gb500 (Kd.R_types HO499.out BK500.out (by decide)) (fun _ hk => hk.2)) (fun _ h_ => h_.1))) hb); have n4_ := Aside0.mk (blk_below (bf_ BK436) hb); have n5_ := Aside0.mk (blk_below (bf_ BK437) hb); have n6_ := Aside0.mk (blk_below (bf_ BK438) hb); have n7_ := Aside0.mk (blk_below (bf_ BK440) hb); have n8_ := Aside0.mk (blk_below (bp_ (o := .cells #[.int .i64 t489, .int .i64 t490, .int .i64 t491, .int .i64 t492, .int .i64 t493, .slice Ao262 t494.length co262] 25 (0, 0)) BK500) hb); have n9_ := Aside0.mk (below_step bs_ hb); clear HO_441005 HO488 HO496 HO499 BK436 BK437 BK438 BK440 BK500 HB; have HO_441005 := n0_; have HO488 := n1_; have HO496 := n2_; have HO499 := n3_; have BK436 := n4_; have BK437 := n5_; have BK438 := n6_; have BK440 := n7_; have BK500 := n8_; have HB := n9_; clear n0_ n1_ n2_ n3_ n4_ n5_ n6_ n7_ n8_ n9_; (try clear hb); (try clear hb2); (try clear hk); (try clear hi)))
            go_ret
            exact ⟨by first | rfl | (simp [errW_none, errW_some] <;> rfl) | (simp [*, errW_none, errW_some] <;> rfl), by repeat (first | (with_reducible first | exact HB.out | apply below_alloc | apply pw_below_drewN | apply below_drew1 | refine below_set ?_ GE436.out | refine below_set ?_ GE437.out | refine below_set ?_ GE438.out | refine below_set ?_ GE440.out | refine below_set ?_ GE500.out) | exact HB.out)⟩
           ·replace c250 := Bool.eq_false_iff.mpr c250
            subst c250
            have H1 : (if 0 < (t486.length : Int) then (if (rd t486 0) = 7 then ((epoch_May.f k2 x441000_2 x441001_2 x441002_2 x441003_2 x441004_2 x441005_2).bind fun t504 => (some t504)) else (none)) else (none)) = some r := by rw [if_neg (show ¬ (false = true) by decide)] at H; exact H
            clear H
            have H := H1
            clear H1
            by_cases c271 : 0 < (t486.length : Int)
            ·rw [if_pos c271] at H
             have c271b0 : decide (0 < (t486.length : Int)) = true := decide_eq_true c271
             have c271b1 : decide (0 < t486.length) = true := decide_eq_true (by omega)
             clear c271
             by_cases c272 : (rd t486 0) = 7
             ·rw [if_pos c272] at H
              have c272b0 : ((rd t486 0) == 7) = true := beq_iff_eq.mpr c272
              have c272b1 : ((rd t486 0) != 7) = false := bne_eq_false_iff_eq.mpr c272
              clear c272
              replace H := Option.bind_eq_some_iff.mp H
              obtain ⟨t504, A2730, H⟩ := H
              replace H : (some t504) = some r := H
              have A273 := Aside0.mk A2730
              clear A2730
              obtain rfl := Option.some.inj H
              have hnb274 := NB440_436.out
              have hnc274 := NB436_440.out
              have hnb275 := NB440_437.out
              have hnc275 := NB437_440.out
              have hnb276 := NB440_438.out
              have hnc276 := NB438_440.out
              obtain ⟨hcz277_0, hcz277_1, hcz277_2, hcz277_3, hcz277_4, hcz277_5, hfz277_0, hfz277_1, hfz277_2, hfz277_3, hfz277_4, hfz277_5⟩ := blk6 BK440
              obtain ⟨Ao278, co278, eo278⟩ := Kd.R_slice HO_441005.out
              subst eo278
              go_wp2_with (first | ((with_reducible refine gate_callee (f := 21) rfl ?_); refine goesL_ (some 82) rfl rfl Try.func21 (by kernel_rfl) rfl #[.agg #[.int .i64 x441000_2, .int .i64 x441001_2, .int .i64 x441002_2, .int .i64 x441003_2, .int .i64 x441004_2, .slice Ao278 x441005_2.length co278]] rfl (by (try simp only [List.map_toArray, List.map_cons, List.map_nil]); first | done | rfl | (simp only [List.length_drop, List.length_take]; rfl)) ?_; (with_reducible refine (epoch_Ready.calls k2 x441000_2 x441001_2 x441002_2 x441003_2 x441004_2 _ _ x441005_2 t486 _ ?side1 ?side2 A243.out).mono ?_); (case side1 => repeat (first | exact (Kd.R_reads' HO_441005.out).2.2 | (with_reducible refine Kd.C_alloc ?_ _) | (with_reducible refine Kd.C_drewN ?_ _) | (with_reducible refine Kd.C_drew ?_))); (case side2 => exact (Kd.R_reads' HO_441005.out).2.1); rintro e w279 ⟨v487, rfl, ho0, hb⟩; refine ⟨_, rfl, ?_⟩; have n0_ := Aside0.mk (Kd.R_below (rk_ HO_441005) hb); have n1_ := Aside0.mk (Kd.R_lower ho0 (below_size bs_)); have n2_ := Aside0.mk (blk_below (bk_ BK436) hb); have n3_ := Aside0.mk (blk_below (bk_ BK437) hb); have n4_ := Aside0.mk (blk_below (bk_ BK438) hb); have n5_ := Aside0.mk (blk_below (bk_ BK440) hb); have n6_ := Aside0.mk (below_step bs_ hb); clear HO_441005 BK436 BK437 BK438 BK440 HB; have HO_441005 := n0_; have HO488 := n1_; have BK436 := n2_; have BK437 := n3_; have BK438 := n4_; have BK440 := n5_; have HB := n6_; clear n0_ n1_ n2_ n3_ n4_ n5_ n6_; (try clear hb); (try clear hb2); (try clear hk); (try clear hi); (try clear ho0); obtain ⟨Ao280, co280, eo280⟩ := Kd.R_slice HO488.out; subst eo280; obtain ⟨hcz281_0, hcz281_1, hcz281_2, hcz281_3, hcz281_4, hcz281_5, hfz281_0, hfz281_1, hfz281_2, hfz281_3, hfz281_4, hfz281_5⟩ := blk6 BK440) | ((with_reducible refine gate_callee (f := 18) rfl ?_); refine goesL_ (some 85) rfl rfl Try.func18 (by kernel_rfl) rfl #[.agg #[.int .i64 x441000_2, .int .i64 x441001_2, .int .i64 x441002_2, .int .i64 x441003_2, .int .i64 x441004_2, .slice Ao278 x441005_2.length co278]] rfl (by (try simp only [List.map_toArray, List.map_cons, List.map_nil]); first | done | rfl | (simp only [List.length_drop, List.length_take]; rfl)) ?_; (with_reducible refine (epoch_Clear.calls k2 x441000_2 x441001_2 x441002_2 x441003_2 x441004_2 _ _ x441005_2 t489 t490 t491 t492 t493 t494 t497 _ ?side1 ?side2 A244.out).mono ?_); (case side1 => repeat (first | exact (Kd.R_reads' HO_441005.out).2.2 | (with_reducible refine Kd.C_alloc ?_ _) | (with_reducible refine Kd.C_drewN ?_ _) | (with_reducible refine Kd.C_drew ?_))); (case side2 => exact (Kd.R_reads' HO_441005.out).2.1); rintro e w282 ⟨v495, v498, rfl, ho0, ho1, hb⟩; refine ⟨_, rfl, ?_⟩; have n0_ := Aside0.mk (Kd.R_elder' (rk_ HO_441005) (Kd.R_base ho0) hb); have n1_ := Aside0.mk (Kd.R_elder' (rk_ HO488) (Kd.R_base ho1) hb); have n2_ := Aside0.mk (Kd.R_lower (Kd.R_new' ho0 (Kd.R_lt (rk_ HO_441005))) (below_size bs_)); have n3_ := Aside0.mk (Kd.R_lower (Kd.R_new' ho1 (Kd.R_lt (rk_ HO488))) (below_size bs_)); have n4_ := Aside0.mk (blk_below (bk_ BK436) hb); have n5_ := Aside0.mk (blk_below (bk_ BK437) hb); have n6_ := Aside0.mk (blk_below (bk_ BK438) hb); have n7_ := Aside0.mk (blk_below (bk_ BK440) hb); have n8_ := Aside0.mk (below_step bs_ hb); clear HO_441005 HO488 BK436 BK437 BK438 BK440 HB; have HO_441005 := n0_; have HO488 := n1_; have HO496 := n2_; have HO499 := n3_; have BK436 := n4_; have BK437 := n5_; have BK438 := n6_; have BK440 := n7_; have HB := n8_; clear n0_ n1_ n2_ n3_ n4_ n5_ n6_ n7_ n8_; (try clear hb); (try clear hb2); (try clear hk); (try clear hi); (try clear ho0); (try clear ho1); obtain ⟨Ao283, co283, eo283⟩ := Kd.R_slice HO499.out; subst eo283; obtain ⟨Ao284, co284, eo284⟩ := Kd.R_slice HO496.out; subst eo284) | ((with_reducible refine gate_dst (N := 14) rfl ?_); (try (refine gate_guard (by rfl) ?_; dsimp only)); refine box_event ?hg (N := 14) ?hd (cs := #[.int .i64 0, .int .i64 0, .int .i64 0, .int .i64 0, .int .i64 0, .slice none 0 0]) (t := 25) ?hr ?_; (case hd => rfl); (case hg => rfl); (case hr => first | (go_simp; done) | (go_simp; rfl)); intro gb500 hg w285 hbox hb; have n0_ := Aside0.mk (Kd.R_below (rk_ HO_441005) hb); have n1_ := Aside0.mk (Kd.R_below (rk_ HO488) hb); have n2_ := Aside0.mk (Kd.R_below (rk_ HO496) hb); have n3_ := Aside0.mk (Kd.R_below (rk_ HO499) hb); have n4_ := Aside0.mk (blk_below (bk_ BK436) hb); have n5_ := Aside0.mk (blk_below (bk_ BK437) hb); have n6_ := Aside0.mk (blk_below (bk_ BK438) hb); have n7_ := Aside0.mk (blk_below (bk_ BK440) hb); have n8_ := Aside0.mk (below_step bs_ hb); have n9_ := Aside0.mk (hbox); have n10_ := Aside0.mk ((by rw [hg]; exact (below_size bs_) : w.heap.size ≤ gb500)); have n11_ := Aside0.mk ((by rw [hg]; exact (below_size bs_) : w.heap.size ≤ gb500)); have n12_ := Aside0.mk ((by rw [hg]; exact Nat.ne_of_lt (blk_lt (bk_ BK436)) : gb436 ≠ gb500)); have n13_ := Aside0.mk ((by rw [hg]; exact Nat.ne_of_gt (blk_lt (bk_ BK436)) : gb500 ≠ gb436)); have n14_ := Aside0.mk ((by rw [hg]; exact Nat.ne_of_lt (blk_lt (bk_ BK437)) : gb437 ≠ gb500)); have n15_ := Aside0.mk ((by rw [hg]; exact Nat.ne_of_gt (blk_lt (bk_ BK437)) : gb500 ≠ gb437)); have n16_ := Aside0.mk ((by rw [hg]; exact Nat.ne_of_lt (blk_lt (bk_ BK438)) : gb438 ≠ gb500)); have n17_ := Aside0.mk ((by rw [hg]; exact Nat.ne_of_gt (blk_lt (bk_ BK438)) : gb500 ≠ gb438)); have n18_ := Aside0.mk ((by rw [hg]; exact Nat.ne_of_lt (blk_lt (bk_ BK440)) : gb440 ≠ gb500)); have n19_ := Aside0.mk ((by rw [hg]; exact Nat.ne_of_gt (blk_lt (bk_ BK440)) : gb500 ≠ gb440)); clear HO_441005 HO488 HO496 HO499 BK436 BK437 BK438 BK440 HB; have HO_441005 := n0_; have HO488 := n1_; have HO496 := n2_; have HO499 := n3_; have BK436 := n4_; have BK437 := n5_; have BK438 := n6_; have BK440 := n7_; have HB := n8_; have BK500 := n9_; have GW500 := n10_; have GE500 := n11_; have NB436_500 := n12_; have NB500_436 := n13_; have NB437_500 := n14_; have NB500_437 := n15_; have NB438_500 := n16_; have NB500_438 := n17_; have NB440_500 := n18_; have NB500_440 := n19_; clear n0_ n1_ n2_ n3_ n4_ n5_ n6_ n7_ n8_ n9_ n10_ n11_ n12_ n13_ n14_ n15_ n16_ n17_ n18_ n19_; clear hb hbox hg; have hnb286 := NB500_436.out; have hnc286 := NB436_500.out; have hnb287 := NB500_437.out; have hnc287 := NB437_500.out; have hnb288 := NB500_438.out; have hnc288 := NB438_500.out; have hnb289 := NB500_440.out; have hnc289 := NB440_500.out; obtain ⟨hcz290_0, hcz290_1, hcz290_2, hcz290_3, hcz290_4, hcz290_5, hfz290_0, hfz290_1, hfz290_2, hfz290_3, hfz290_4, hfz290_5⟩ := blk6 BK500) | (go_at_call 20; (with_reducible refine (drydockref01_Ints.calls k2 _ _ t486 _ _ t497 true _ ?side1 ?side2 ?side3 ?side4 A247.out).mono ?_); (case side1 => refine (Kd.R_reads' (e := 3) (base := w.heap.size) (ok := fun k_ => (True ∧ some k_ ≠ (.slice Ao283 t497.length co283 : Value).ownBlock)) (n := t486.length) (c := co280) ?_).2.2; exact (by (with_reducible repeat (first | apply Kd.R_alloc | apply Kd.R_drewN | apply Kd.R_drew)); exact (Kd.R_mono (far6 gb500 (Kd.R_types HO488.out BK500.out (by decide)) (fun _ hk => hk.2)) (fun _ h_ => h_.1)))); (case side2 => exact (Kd.R_reads' HO488.out).2.1); (case side3 => refine (Kd.R_reads' (e := 3) (base := w.heap.size) (ok := fun k_ => (True ∧ some k_ ≠ (.slice Ao280 t486.length co280 : Value).ownBlock)) (n := t497.length) (c := co283) ?_).2.2; exact (by (with_reducible repeat (first | apply Kd.R_alloc | apply Kd.R_drewN | apply Kd.R_drew)); exact (Kd.R_mono (far6 gb500 (Kd.R_types HO499.out BK500.out (by decide)) (fun _ hk => hk.2)) (fun _ h_ => h_.1)))); (case side4 => exact (Kd.R_reads' HO499.out).2.1); rintro e w' ⟨rfl, ⟨nd, rfl⟩⟩; have p503 : 0 ≤ (0 : Int) := (by omega); have q503 : 0 < (t486.length : Int) := of_decide_eq_true (by first | (with_reducible assumption) | assumption); obtain ⟨ad503, e503, hx503_0⟩ := Kd.at_int (Kd.R_reads' HO488.out).2.2 0 p503 q503; cases e503; have qi503 : (0 < t486.length) = True := eq_true (by omega); (try rw [show ((0 : Int)).toNat = 0 from rfl] at hx503_0); (try rw [Addr.add_zero'] at hx503_0); have hn503_0 : ad503.block ≠ gb500 := Kd.own_blk (Kd.R_ne HO488.out BK500.out (by decide)); have hn503_1 : ad503.block ≠ gb500 := Kd.own_blk (Kd.R_ne HO488.out BK500.out (by decide)); have hn503_2 : ad503.block ≠ gb500 := Kd.own_blk (Kd.R_ne HO488.out BK500.out (by decide)); have hn503_3 : ad503.block ≠ gb500 := Kd.own_blk (Kd.R_ne HO488.out BK500.out (by decide)); have hn503_4 : ad503.block ≠ gb500 := Kd.own_blk (Kd.R_ne HO488.out BK500.out (by decide)); have hn503_5 : ad503.block ≠ gb500 := Kd.own_blk (Kd.R_ne HO488.out BK500.out (by decide)); replace hx503_0 := (cell_far (p := ⟨gb500, 0, none⟩) (by first | (rw [add_block]; exact hn503_0) | (show (Addr.add _ _).block ≠ _; rw [add_block]; exact hn503_0) | exact hn503_0) (.int .i64 t489)).trans hx503_0; replace hx503_0 := (cell_far (p := ⟨gb500, 1, none⟩) (by first | (rw [add_block]; exact hn503_1) | (show (Addr.add _ _).block ≠ _; rw [add_block]; exact hn503_1) | exact hn503_1) (.int .i64 t490)).trans hx503_0; replace hx503_0 := (cell_far (p := ⟨gb500, 2, none⟩) (by first | (rw [add_block]; exact hn503_2) | (show (Addr.add _ _).block ≠ _; rw [add_block]; exact hn503_2) | exact hn503_2) (.int .i64 t491)).trans hx503_0; replace hx503_0 := (cell_far (p := ⟨gb500, 3, none⟩) (by first | (rw [add_block]; exact hn503_3) | (show (Addr.add _ _).block ≠ _; rw [add_block]; exact hn503_3) | exact hn503_3) (.int .i64 t492)).trans hx503_0; replace hx503_0 := (cell_far (p := ⟨gb500, 4, none⟩) (by first | (rw [add_block]; exact hn503_4) | (show (Addr.add _ _).block ≠ _; rw [add_block]; exact hn503_4) | exact hn503_4) (.int .i64 t493)).trans hx503_0; replace hx503_0 := (cell_far (p := ⟨gb500, 5, none⟩) (by first | (rw [add_block]; exact hn503_5) | (show (Addr.add _ _).block ≠ _; rw [add_block]; exact hn503_5) | exact hn503_5) (.slice Ao284 t494.length co284)).trans hx503_0; clear hn503_0 hn503_1 hn503_2 hn503_3 hn503_4 hn503_5; replace p503 := eq_true p503; replace q503 := eq_true q503; obtain ⟨hcz291_0, hcz291_1, hcz291_2, hcz291_3, hcz291_4, hcz291_5, hfz291_0, hfz291_1, hfz291_2, hfz291_3, hfz291_4, hfz291_5⟩ := blk6 BK440) | (go_at_call 23; (with_reducible refine (epoch_May.calls k2 x441000_2 x441001_2 x441002_2 x441003_2 x441004_2 _ _ x441005_2 t504 _ ?side1 ?side2 A273.out).mono ?_); (case side1 => refine (Kd.R_reads' (e := 43) (base := w.heap.size) (ok := fun k_ => (True ∧ some k_ ≠ (.slice Ao284 t494.length co284 : Value).ownBlock)) (n := x441005_2.length) (c := co278) ?_).2.2; exact (by (with_reducible repeat (first | apply Kd.R_alloc | apply Kd.R_drewN | apply Kd.R_drew)); exact (Kd.R_mono (far6 gb500 (Kd.R_types HO_441005.out BK500.out (by decide)) (fun _ hk => hk.2)) (fun _ h_ => h_.1)))); (case side2 => exact (Kd.R_reads' HO_441005.out).2.1); rintro e w292 ⟨rfl, hb⟩; have n0_ := Aside0.mk (Kd.R_below (by (with_reducible repeat (first | apply Kd.R_alloc | apply Kd.R_drewN | apply Kd.R_drew)); exact (Kd.R_mono (far6 gb500 (Kd.R_types HO_441005.out BK500.out (by decide)) (fun _ hk => hk.2)) (fun _ h_ => h_.1))) hb); have n1_ := Aside0.mk (Kd.R_below (by (with_reducible repeat (first | apply Kd.R_alloc | apply Kd.R_drewN | apply Kd.R_drew)); exact (Kd.R_mono (far6 gb500 (Kd.R_types HO488.out BK500.out (by decide)) (fun _ hk => hk.2)) (fun _ h_ => h_.1))) hb); have n2_ := Aside0.mk (Kd.R_below (by (with_reducible repeat (first | apply Kd.R_alloc | apply Kd.R_drewN | apply Kd.R_drew)); exact (Kd.R_mono (far6 gb500 (Kd.R_types HO496.out BK500.out (by decide)) (fun _ hk => hk.2)) (fun _ h_ => h_.1))) hb); have n3_ := Aside0.mk (Kd.R_below (by (with_reducible repeat (first | apply Kd.R_alloc | apply Kd.R_drewN | apply Kd.R_drew)); exact (Kd.R_mono (far6 gb500 (Kd.R_types HO499.out BK500.out (by decide)) (fun _ hk => hk.2)) (fun _ h_ => h_.1))) hb); have n4_ := Aside0.mk (blk_below (bf_ BK436) hb); have n5_ := Aside0.mk (blk_below (bf_ BK437) hb); have n6_ := Aside0.mk (blk_below (bf_ BK438) hb); have n7_ := Aside0.mk (blk_below (bf_ BK440) hb); have n8_ := Aside0.mk (blk_below (bp_ (o := .cells #[.int .i64 t489, .int .i64 t490, .int .i64 t491, .int .i64 t492, .int .i64 t493, .slice Ao284 t494.length co284] 25 (0, 0)) BK500) hb); have n9_ := Aside0.mk (below_step bs_ hb); clear HO_441005 HO488 HO496 HO499 BK436 BK437 BK438 BK440 BK500 HB; have HO_441005 := n0_; have HO488 := n1_; have HO496 := n2_; have HO499 := n3_; have BK436 := n4_; have BK437 := n5_; have BK438 := n6_; have BK440 := n7_; have BK500 := n8_; have HB := n9_; clear n0_ n1_ n2_ n3_ n4_ n5_ n6_ n7_ n8_ n9_; (try clear hb); (try clear hb2); (try clear hk); (try clear hi)))
              go_ret
              exact ⟨by first | rfl | (simp [errW_none, errW_some] <;> rfl) | (simp [*, errW_none, errW_some] <;> rfl), by repeat (first | (with_reducible first | exact HB.out | apply below_alloc | apply pw_below_drewN | apply below_drew1 | refine below_set ?_ GE436.out | refine below_set ?_ GE437.out | refine below_set ?_ GE438.out | refine below_set ?_ GE440.out | refine below_set ?_ GE500.out) | exact HB.out)⟩
             ·rw [if_neg c272] at H
              exact absurd H (by simp)
            ·rw [if_neg c271] at H
             exact absurd H (by simp)
          ·rw [if_neg c249] at H
           exact absurd H (by simp)
         ·replace c248 := Bool.eq_false_iff.mpr c248
          subst c248
          have H1 : (none) = some r := by rw [if_neg (show ¬ (false = true) by decide)] at H; exact H
          clear H
          have H := H1
          clear H1
          exact absurd H (by simp)
        ·rw [if_neg c246] at H
         exact absurd H (by simp)
       ·replace c245 := Bool.eq_false_iff.mpr c245
        subst c245
        have H1 : (none) = some r := by rw [if_neg (show ¬ (false = true) by decide)] at H; exact H
        clear H
        have H := H1
        clear H1
        exact absurd H (by simp)

end Go.Proofs.Ytipnfcicpnmggaa.P
