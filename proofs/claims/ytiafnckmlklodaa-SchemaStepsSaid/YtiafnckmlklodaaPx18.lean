-- Written by a program of this session over the kit's print of the translation. Lean checks it.
import Derived.Test.YtiafnckmlklodaaPx0
import Derived.Test.YtiafnckmlklodaaPx2
import Derived.Test.YtiafnckmlklodaaPx6
import Derived.Test.YtiafnckmlklodaaPx15
namespace Go.Proofs.Ytiafnckmlklodaa.P
open Go.RowKit Go.Proofs.YtiafnckmlklodaaW.PrintWords Go.Proofs.YtiafnckmlklodaaW.PrintLast Go.Proofs.YtiafnckmlklodaaW.PrintMore
attribute [local go_sem] max2_int min2_int max_two min_two max_three min_three max_four min_four   -- for this text's walks alone
set_option linter.unusedVariables false
set_option linter.unusedSimpArgs false

/-! ### drydocklaw04_SchemaSteps: function 7 -/
def drydocklaw04_SchemaSteps.j0 : Nat → Int → Bool → Int → Int → Int → Int → Int → Int → Int → Int → Option (Bool)
  | 0, _, _, _, _, _, _, _, _, _, _ => none
  | k + 1, x6, x65, x283000, x283001, x283002, x283003, x284000, x284001, x284002, x284003 => if x65 = true then (none) else ((schema_May.f k x283000 x283001 x283002 x283003).bind fun t287 => (if t287 = true then ((schema_May.f k x284000 x284001 x284002 x284003).bind fun t288 => (if t288 = true then ((schema_Step.f k x283000 x283001 x283002 x283003 x283000 x283001 x283002 x283003).bind fun t289 => (if t289 = 0 then (if x6 = 2 then (if x283000 = x284000 then (if x283001 = x284001 then (if x283002 = x284002 then (if x283003 = x284003 then (none) else (some true)) else (some true)) else (some true)) else (some true)) else (some true)) else (none))) else (some (x6 == 2)))) else (some (x6 == 2))))
def drydocklaw04_SchemaSteps.f (k : Nat) (a0_0 : Int) (a0_1 : Int) (a0_2 : Int) (a0_3 : Int) (a1_0 : Int) (a1_1 : Int) (a1_2 : Int) (a1_3 : Int) : Option (Bool) := (drydocklaw04_awake.f k).bind fun t284 => ((schema_Step.f k a0_0 a0_1 a0_2 a0_3 a1_0 a1_1 a1_2 a1_3).bind fun t285 => ((schema_Step.f k a1_0 a1_1 a1_2 a1_3 a0_0 a0_1 a0_2 a0_3).bind fun t286 => (if t284 = true then (if t285 < 0 then (drydocklaw04_SchemaSteps.j0 k t285 true a0_0 a0_1 a0_2 a0_3 a1_0 a1_1 a1_2 a1_3) else (if t285 > 2 then (drydocklaw04_SchemaSteps.j0 k t285 true a0_0 a0_1 a0_2 a0_3 a1_0 a1_1 a1_2 a1_3) else (if t285 = 0 then (if a0_0 = a1_0 then (if a0_1 = a1_1 then (if a0_2 = a1_2 then (if a0_3 = a1_3 then (if t286 = 0 then (if t285 = 1 then (if t286 = 2 then (drydocklaw04_SchemaSteps.j0 k t285 true a0_0 a0_1 a0_2 a0_3 a1_0 a1_1 a1_2 a1_3) else (drydocklaw04_SchemaSteps.j0 k t285 true a0_0 a0_1 a0_2 a0_3 a1_0 a1_1 a1_2 a1_3)) else (drydocklaw04_SchemaSteps.j0 k t285 false a0_0 a0_1 a0_2 a0_3 a1_0 a1_1 a1_2 a1_3)) else (drydocklaw04_SchemaSteps.j0 k t285 true a0_0 a0_1 a0_2 a0_3 a1_0 a1_1 a1_2 a1_3)) else (drydocklaw04_SchemaSteps.j0 k t285 true a0_0 a0_1 a0_2 a0_3 a1_0 a1_1 a1_2 a1_3)) else (drydocklaw04_SchemaSteps.j0 k t285 true a0_0 a0_1 a0_2 a0_3 a1_0 a1_1 a1_2 a1_3)) else (drydocklaw04_SchemaSteps.j0 k t285 true a0_0 a0_1 a0_2 a0_3 a1_0 a1_1 a1_2 a1_3)) else (drydocklaw04_SchemaSteps.j0 k t285 true a0_0 a0_1 a0_2 a0_3 a1_0 a1_1 a1_2 a1_3)) else (if t285 = 1 then (if t286 = 2 then (if a0_0 = a1_0 then (if a0_1 = a1_1 then (if a0_2 = a1_2 then (if a0_3 = a1_3 then (drydocklaw04_SchemaSteps.j0 k t285 true a0_0 a0_1 a0_2 a0_3 a1_0 a1_1 a1_2 a1_3) else (if a1_3 = (wrap64 (a0_3 + 1)) then (drydocklaw04_SchemaSteps.j0 k t285 (a0_0 != a1_0) a0_0 a0_1 a0_2 a0_3 a1_0 a1_1 a1_2 a1_3) else (drydocklaw04_SchemaSteps.j0 k t285 true a0_0 a0_1 a0_2 a0_3 a1_0 a1_1 a1_2 a1_3))) else (if a1_3 = (wrap64 (a0_3 + 1)) then (drydocklaw04_SchemaSteps.j0 k t285 (a0_0 != a1_0) a0_0 a0_1 a0_2 a0_3 a1_0 a1_1 a1_2 a1_3) else (drydocklaw04_SchemaSteps.j0 k t285 true a0_0 a0_1 a0_2 a0_3 a1_0 a1_1 a1_2 a1_3))) else (if a1_3 = (wrap64 (a0_3 + 1)) then (drydocklaw04_SchemaSteps.j0 k t285 (a0_0 != a1_0) a0_0 a0_1 a0_2 a0_3 a1_0 a1_1 a1_2 a1_3) else (drydocklaw04_SchemaSteps.j0 k t285 true a0_0 a0_1 a0_2 a0_3 a1_0 a1_1 a1_2 a1_3))) else (if a1_3 = (wrap64 (a0_3 + 1)) then (drydocklaw04_SchemaSteps.j0 k t285 (a0_0 != a1_0) a0_0 a0_1 a0_2 a0_3 a1_0 a1_1 a1_2 a1_3) else (drydocklaw04_SchemaSteps.j0 k t285 true a0_0 a0_1 a0_2 a0_3 a1_0 a1_1 a1_2 a1_3))) else (drydocklaw04_SchemaSteps.j0 k t285 true a0_0 a0_1 a0_2 a0_3 a1_0 a1_1 a1_2 a1_3)) else (drydocklaw04_SchemaSteps.j0 k t285 false a0_0 a0_1 a0_2 a0_3 a1_0 a1_1 a1_2 a1_3))))) else (drydocklaw04_SchemaSteps.j0 k t285 true a0_0 a0_1 a0_2 a0_3 a1_0 a1_1 a1_2 a1_3))))
theorem drydocklaw04_SchemaSteps.mono_l : ∀ k, (∀ y0 y1 y2 y3 y4 y5 y6 y7 y8 y9, LeO (drydocklaw04_SchemaSteps.j0 k y0 y1 y2 y3 y4 y5 y6 y7 y8 y9) (drydocklaw04_SchemaSteps.j0 (k + 1) y0 y1 y2 y3 y4 y5 y6 y7 y8 y9))
  | 0 => fun _ _ _ _ _ _ _ _ _ _ r h => by simp [drydocklaw04_SchemaSteps.j0] at h
  | k + 1 => by
    have ih0 := drydocklaw04_SchemaSteps.mono_l k
    · intro y0 y1 y2 y3 y4 y5 y6 y7 y8 y9
      unfold drydocklaw04_SchemaSteps.j0
      repeat' first
      | (with_reducible exact ih0 _ _ _ _ _ _ _ _ _ _)
      | (with_reducible exact drydocklaw04_awake.mono _)
      | (with_reducible exact schema_May.mono _ _ _ _ _)
      | (with_reducible exact schema_Step.mono _ _ _ _ _ _ _ _ _)
      | (with_reducible exact LeO.refl _)
      | (with_reducible exact LeO.none _)
      | (with_reducible refine LeO.ite ?_ ?_)
      | (with_reducible refine LeO.bind ?_ (fun _ => ?_))
      | exact ih0 _ _ _ _ _ _ _ _ _ _
      | exact drydocklaw04_awake.mono _
      | exact schema_May.mono _ _ _ _ _
      | exact schema_Step.mono _ _ _ _ _ _ _ _ _
      | exact LeO.none _
      | refine LeO.ite ?_ ?_
      | refine LeO.bind ?_ (fun _ => ?_)
theorem drydocklaw04_SchemaSteps.mono : ∀ a0 a1 a2 a3 a4 a5 a6 a7 k, LeO (drydocklaw04_SchemaSteps.f k a0 a1 a2 a3 a4 a5 a6 a7) (drydocklaw04_SchemaSteps.f (k + 1) a0 a1 a2 a3 a4 a5 a6 a7) := by
  intro a0 a1 a2 a3 a4 a5 a6 a7 k
  have ih0 := drydocklaw04_SchemaSteps.mono_l k
  unfold drydocklaw04_SchemaSteps.f
  repeat' first
      | (with_reducible exact ih0 _ _ _ _ _ _ _ _ _ _)
      | (with_reducible exact drydocklaw04_awake.mono _)
      | (with_reducible exact schema_May.mono _ _ _ _ _)
      | (with_reducible exact schema_Step.mono _ _ _ _ _ _ _ _ _)
      | (with_reducible exact LeO.refl _)
      | (with_reducible exact LeO.none _)
      | (with_reducible refine LeO.ite ?_ ?_)
      | (with_reducible refine LeO.bind ?_ (fun _ => ?_))
      | exact ih0 _ _ _ _ _ _ _ _ _ _
      | exact drydocklaw04_awake.mono _
      | exact schema_May.mono _ _ _ _ _
      | exact schema_Step.mono _ _ _ _ _ _ _ _ _
      | exact LeO.none _
      | refine LeO.ite ?_ ?_
      | refine LeO.bind ?_ (fun _ => ?_)
set_option maxHeartbeats 8000000 in
set_option maxRecDepth 100000 in
theorem drydocklaw04_SchemaSteps.calls (k : Nat) (a0_0 : Int) (a0_1 : Int) (a0_2 : Int) (a0_3 : Int) (a1_0 : Int) (a1_1 : Int) (a1_2 : Int) (a1_3 : Int) (r : Bool) (w : World) (h : drydocklaw04_SchemaSteps.f k a0_0 a0_1 a0_2 a0_3 a1_0 a1_1 a1_2 a1_3 = some r) :
    Calls Try.prog 7 #[.agg #[.int .i64 a0_0, .int .i64 a0_1, .int .i64 a0_2, .int .i64 a0_3], .agg #[.int .i64 a1_0, .int .i64 a1_1, .int .i64 a1_2, .int .i64 a1_3]] w fun e w' => e = .returned (.bool r) ∧ Below w.heap.size w w' := by
  have hu34 := Try.underlying34
  have HB := Aside0.mk (Below.refl w.heap.size w)
  have H : ((drydocklaw04_awake.f k).bind fun t284 => ((schema_Step.f k a0_0 a0_1 a0_2 a0_3 a1_0 a1_1 a1_2 a1_3).bind fun t285 => ((schema_Step.f k a1_0 a1_1 a1_2 a1_3 a0_0 a0_1 a0_2 a0_3).bind fun t286 => (if t284 = true then (if t285 < 0 then (drydocklaw04_SchemaSteps.j0 k t285 true a0_0 a0_1 a0_2 a0_3 a1_0 a1_1 a1_2 a1_3) else (if t285 > 2 then (drydocklaw04_SchemaSteps.j0 k t285 true a0_0 a0_1 a0_2 a0_3 a1_0 a1_1 a1_2 a1_3) else (if t285 = 0 then (if a0_0 = a1_0 then (if a0_1 = a1_1 then (if a0_2 = a1_2 then (if a0_3 = a1_3 then (if t286 = 0 then (if t285 = 1 then (if t286 = 2 then (drydocklaw04_SchemaSteps.j0 k t285 true a0_0 a0_1 a0_2 a0_3 a1_0 a1_1 a1_2 a1_3) else (drydocklaw04_SchemaSteps.j0 k t285 true a0_0 a0_1 a0_2 a0_3 a1_0 a1_1 a1_2 a1_3)) else (drydocklaw04_SchemaSteps.j0 k t285 false a0_0 a0_1 a0_2 a0_3 a1_0 a1_1 a1_2 a1_3)) else (drydocklaw04_SchemaSteps.j0 k t285 true a0_0 a0_1 a0_2 a0_3 a1_0 a1_1 a1_2 a1_3)) else (drydocklaw04_SchemaSteps.j0 k t285 true a0_0 a0_1 a0_2 a0_3 a1_0 a1_1 a1_2 a1_3)) else (drydocklaw04_SchemaSteps.j0 k t285 true a0_0 a0_1 a0_2 a0_3 a1_0 a1_1 a1_2 a1_3)) else (drydocklaw04_SchemaSteps.j0 k t285 true a0_0 a0_1 a0_2 a0_3 a1_0 a1_1 a1_2 a1_3)) else (drydocklaw04_SchemaSteps.j0 k t285 true a0_0 a0_1 a0_2 a0_3 a1_0 a1_1 a1_2 a1_3)) else (if t285 = 1 then (if t286 = 2 then (if a0_0 = a1_0 then (if a0_1 = a1_1 then (if a0_2 = a1_2 then (if a0_3 = a1_3 then (drydocklaw04_SchemaSteps.j0 k t285 true a0_0 a0_1 a0_2 a0_3 a1_0 a1_1 a1_2 a1_3) else (if a1_3 = (wrap64 (a0_3 + 1)) then (drydocklaw04_SchemaSteps.j0 k t285 (a0_0 != a1_0) a0_0 a0_1 a0_2 a0_3 a1_0 a1_1 a1_2 a1_3) else (drydocklaw04_SchemaSteps.j0 k t285 true a0_0 a0_1 a0_2 a0_3 a1_0 a1_1 a1_2 a1_3))) else (if a1_3 = (wrap64 (a0_3 + 1)) then (drydocklaw04_SchemaSteps.j0 k t285 (a0_0 != a1_0) a0_0 a0_1 a0_2 a0_3 a1_0 a1_1 a1_2 a1_3) else (drydocklaw04_SchemaSteps.j0 k t285 true a0_0 a0_1 a0_2 a0_3 a1_0 a1_1 a1_2 a1_3))) else (if a1_3 = (wrap64 (a0_3 + 1)) then (drydocklaw04_SchemaSteps.j0 k t285 (a0_0 != a1_0) a0_0 a0_1 a0_2 a0_3 a1_0 a1_1 a1_2 a1_3) else (drydocklaw04_SchemaSteps.j0 k t285 true a0_0 a0_1 a0_2 a0_3 a1_0 a1_1 a1_2 a1_3))) else (if a1_3 = (wrap64 (a0_3 + 1)) then (drydocklaw04_SchemaSteps.j0 k t285 (a0_0 != a1_0) a0_0 a0_1 a0_2 a0_3 a1_0 a1_1 a1_2 a1_3) else (drydocklaw04_SchemaSteps.j0 k t285 true a0_0 a0_1 a0_2 a0_3 a1_0 a1_1 a1_2 a1_3))) else (drydocklaw04_SchemaSteps.j0 k t285 true a0_0 a0_1 a0_2 a0_3 a1_0 a1_1 a1_2 a1_3)) else (drydocklaw04_SchemaSteps.j0 k t285 false a0_0 a0_1 a0_2 a0_3 a1_0 a1_1 a1_2 a1_3))))) else (drydocklaw04_SchemaSteps.j0 k t285 true a0_0 a0_1 a0_2 a0_3 a1_0 a1_1 a1_2 a1_3))))) = some r := h
  clear h
  replace H := Option.bind_eq_some_iff.mp H
  obtain ⟨t284, A30, H⟩ := H
  replace H : ((schema_Step.f k a0_0 a0_1 a0_2 a0_3 a1_0 a1_1 a1_2 a1_3).bind fun t285 => ((schema_Step.f k a1_0 a1_1 a1_2 a1_3 a0_0 a0_1 a0_2 a0_3).bind fun t286 => (if t284 = true then (if t285 < 0 then (drydocklaw04_SchemaSteps.j0 k t285 true a0_0 a0_1 a0_2 a0_3 a1_0 a1_1 a1_2 a1_3) else (if t285 > 2 then (drydocklaw04_SchemaSteps.j0 k t285 true a0_0 a0_1 a0_2 a0_3 a1_0 a1_1 a1_2 a1_3) else (if t285 = 0 then (if a0_0 = a1_0 then (if a0_1 = a1_1 then (if a0_2 = a1_2 then (if a0_3 = a1_3 then (if t286 = 0 then (if t285 = 1 then (if t286 = 2 then (drydocklaw04_SchemaSteps.j0 k t285 true a0_0 a0_1 a0_2 a0_3 a1_0 a1_1 a1_2 a1_3) else (drydocklaw04_SchemaSteps.j0 k t285 true a0_0 a0_1 a0_2 a0_3 a1_0 a1_1 a1_2 a1_3)) else (drydocklaw04_SchemaSteps.j0 k t285 false a0_0 a0_1 a0_2 a0_3 a1_0 a1_1 a1_2 a1_3)) else (drydocklaw04_SchemaSteps.j0 k t285 true a0_0 a0_1 a0_2 a0_3 a1_0 a1_1 a1_2 a1_3)) else (drydocklaw04_SchemaSteps.j0 k t285 true a0_0 a0_1 a0_2 a0_3 a1_0 a1_1 a1_2 a1_3)) else (drydocklaw04_SchemaSteps.j0 k t285 true a0_0 a0_1 a0_2 a0_3 a1_0 a1_1 a1_2 a1_3)) else (drydocklaw04_SchemaSteps.j0 k t285 true a0_0 a0_1 a0_2 a0_3 a1_0 a1_1 a1_2 a1_3)) else (drydocklaw04_SchemaSteps.j0 k t285 true a0_0 a0_1 a0_2 a0_3 a1_0 a1_1 a1_2 a1_3)) else (if t285 = 1 then (if t286 = 2 then (if a0_0 = a1_0 then (if a0_1 = a1_1 then (if a0_2 = a1_2 then (if a0_3 = a1_3 then (drydocklaw04_SchemaSteps.j0 k t285 true a0_0 a0_1 a0_2 a0_3 a1_0 a1_1 a1_2 a1_3) else (if a1_3 = (wrap64 (a0_3 + 1)) then (drydocklaw04_SchemaSteps.j0 k t285 (a0_0 != a1_0) a0_0 a0_1 a0_2 a0_3 a1_0 a1_1 a1_2 a1_3) else (drydocklaw04_SchemaSteps.j0 k t285 true a0_0 a0_1 a0_2 a0_3 a1_0 a1_1 a1_2 a1_3))) else (if a1_3 = (wrap64 (a0_3 + 1)) then (drydocklaw04_SchemaSteps.j0 k t285 (a0_0 != a1_0) a0_0 a0_1 a0_2 a0_3 a1_0 a1_1 a1_2 a1_3) else (drydocklaw04_SchemaSteps.j0 k t285 true a0_0 a0_1 a0_2 a0_3 a1_0 a1_1 a1_2 a1_3))) else (if a1_3 = (wrap64 (a0_3 + 1)) then (drydocklaw04_SchemaSteps.j0 k t285 (a0_0 != a1_0) a0_0 a0_1 a0_2 a0_3 a1_0 a1_1 a1_2 a1_3) else (drydocklaw04_SchemaSteps.j0 k t285 true a0_0 a0_1 a0_2 a0_3 a1_0 a1_1 a1_2 a1_3))) else (if a1_3 = (wrap64 (a0_3 + 1)) then (drydocklaw04_SchemaSteps.j0 k t285 (a0_0 != a1_0) a0_0 a0_1 a0_2 a0_3 a1_0 a1_1 a1_2 a1_3) else (drydocklaw04_SchemaSteps.j0 k t285 true a0_0 a0_1 a0_2 a0_3 a1_0 a1_1 a1_2 a1_3))) else (drydocklaw04_SchemaSteps.j0 k t285 true a0_0 a0_1 a0_2 a0_3 a1_0 a1_1 a1_2 a1_3)) else (drydocklaw04_SchemaSteps.j0 k t285 false a0_0 a0_1 a0_2 a0_3 a1_0 a1_1 a1_2 a1_3))))) else (drydocklaw04_SchemaSteps.j0 k t285 true a0_0 a0_1 a0_2 a0_3 a1_0 a1_1 a1_2 a1_3)))) = some r := H
  have A3 := Aside0.mk A30
  clear A30
  replace H := Option.bind_eq_some_iff.mp H
  obtain ⟨t285, A40, H⟩ := H
  replace H : ((schema_Step.f k a1_0 a1_1 a1_2 a1_3 a0_0 a0_1 a0_2 a0_3).bind fun t286 => (if t284 = true then (if t285 < 0 then (drydocklaw04_SchemaSteps.j0 k t285 true a0_0 a0_1 a0_2 a0_3 a1_0 a1_1 a1_2 a1_3) else (if t285 > 2 then (drydocklaw04_SchemaSteps.j0 k t285 true a0_0 a0_1 a0_2 a0_3 a1_0 a1_1 a1_2 a1_3) else (if t285 = 0 then (if a0_0 = a1_0 then (if a0_1 = a1_1 then (if a0_2 = a1_2 then (if a0_3 = a1_3 then (if t286 = 0 then (if t285 = 1 then (if t286 = 2 then (drydocklaw04_SchemaSteps.j0 k t285 true a0_0 a0_1 a0_2 a0_3 a1_0 a1_1 a1_2 a1_3) else (drydocklaw04_SchemaSteps.j0 k t285 true a0_0 a0_1 a0_2 a0_3 a1_0 a1_1 a1_2 a1_3)) else (drydocklaw04_SchemaSteps.j0 k t285 false a0_0 a0_1 a0_2 a0_3 a1_0 a1_1 a1_2 a1_3)) else (drydocklaw04_SchemaSteps.j0 k t285 true a0_0 a0_1 a0_2 a0_3 a1_0 a1_1 a1_2 a1_3)) else (drydocklaw04_SchemaSteps.j0 k t285 true a0_0 a0_1 a0_2 a0_3 a1_0 a1_1 a1_2 a1_3)) else (drydocklaw04_SchemaSteps.j0 k t285 true a0_0 a0_1 a0_2 a0_3 a1_0 a1_1 a1_2 a1_3)) else (drydocklaw04_SchemaSteps.j0 k t285 true a0_0 a0_1 a0_2 a0_3 a1_0 a1_1 a1_2 a1_3)) else (drydocklaw04_SchemaSteps.j0 k t285 true a0_0 a0_1 a0_2 a0_3 a1_0 a1_1 a1_2 a1_3)) else (if t285 = 1 then (if t286 = 2 then (if a0_0 = a1_0 then (if a0_1 = a1_1 then (if a0_2 = a1_2 then (if a0_3 = a1_3 then (drydocklaw04_SchemaSteps.j0 k t285 true a0_0 a0_1 a0_2 a0_3 a1_0 a1_1 a1_2 a1_3) else (if a1_3 = (wrap64 (a0_3 + 1)) then (drydocklaw04_SchemaSteps.j0 k t285 (a0_0 != a1_0) a0_0 a0_1 a0_2 a0_3 a1_0 a1_1 a1_2 a1_3) else (drydocklaw04_SchemaSteps.j0 k t285 true a0_0 a0_1 a0_2 a0_3 a1_0 a1_1 a1_2 a1_3))) else (if a1_3 = (wrap64 (a0_3 + 1)) then (drydocklaw04_SchemaSteps.j0 k t285 (a0_0 != a1_0) a0_0 a0_1 a0_2 a0_3 a1_0 a1_1 a1_2 a1_3) else (drydocklaw04_SchemaSteps.j0 k t285 true a0_0 a0_1 a0_2 a0_3 a1_0 a1_1 a1_2 a1_3))) else (if a1_3 = (wrap64 (a0_3 + 1)) then (drydocklaw04_SchemaSteps.j0 k t285 (a0_0 != a1_0) a0_0 a0_1 a0_2 a0_3 a1_0 a1_1 a1_2 a1_3) else (drydocklaw04_SchemaSteps.j0 k t285 true a0_0 a0_1 a0_2 a0_3 a1_0 a1_1 a1_2 a1_3))) else (if a1_3 = (wrap64 (a0_3 + 1)) then (drydocklaw04_SchemaSteps.j0 k t285 (a0_0 != a1_0) a0_0 a0_1 a0_2 a0_3 a1_0 a1_1 a1_2 a1_3) else (drydocklaw04_SchemaSteps.j0 k t285 true a0_0 a0_1 a0_2 a0_3 a1_0 a1_1 a1_2 a1_3))) else (drydocklaw04_SchemaSteps.j0 k t285 true a0_0 a0_1 a0_2 a0_3 a1_0 a1_1 a1_2 a1_3)) else (drydocklaw04_SchemaSteps.j0 k t285 false a0_0 a0_1 a0_2 a0_3 a1_0 a1_1 a1_2 a1_3))))) else (drydocklaw04_SchemaSteps.j0 k t285 true a0_0 a0_1 a0_2 a0_3 a1_0 a1_1 a1_2 a1_3))) = some r := H
  have A4 := Aside0.mk A40
  clear A40
  replace H := Option.bind_eq_some_iff.mp H
  obtain ⟨t286, A50, H⟩ := H
  replace H : (if t284 = true then (if t285 < 0 then (drydocklaw04_SchemaSteps.j0 k t285 true a0_0 a0_1 a0_2 a0_3 a1_0 a1_1 a1_2 a1_3) else (if t285 > 2 then (drydocklaw04_SchemaSteps.j0 k t285 true a0_0 a0_1 a0_2 a0_3 a1_0 a1_1 a1_2 a1_3) else (if t285 = 0 then (if a0_0 = a1_0 then (if a0_1 = a1_1 then (if a0_2 = a1_2 then (if a0_3 = a1_3 then (if t286 = 0 then (if t285 = 1 then (if t286 = 2 then (drydocklaw04_SchemaSteps.j0 k t285 true a0_0 a0_1 a0_2 a0_3 a1_0 a1_1 a1_2 a1_3) else (drydocklaw04_SchemaSteps.j0 k t285 true a0_0 a0_1 a0_2 a0_3 a1_0 a1_1 a1_2 a1_3)) else (drydocklaw04_SchemaSteps.j0 k t285 false a0_0 a0_1 a0_2 a0_3 a1_0 a1_1 a1_2 a1_3)) else (drydocklaw04_SchemaSteps.j0 k t285 true a0_0 a0_1 a0_2 a0_3 a1_0 a1_1 a1_2 a1_3)) else (drydocklaw04_SchemaSteps.j0 k t285 true a0_0 a0_1 a0_2 a0_3 a1_0 a1_1 a1_2 a1_3)) else (drydocklaw04_SchemaSteps.j0 k t285 true a0_0 a0_1 a0_2 a0_3 a1_0 a1_1 a1_2 a1_3)) else (drydocklaw04_SchemaSteps.j0 k t285 true a0_0 a0_1 a0_2 a0_3 a1_0 a1_1 a1_2 a1_3)) else (drydocklaw04_SchemaSteps.j0 k t285 true a0_0 a0_1 a0_2 a0_3 a1_0 a1_1 a1_2 a1_3)) else (if t285 = 1 then (if t286 = 2 then (if a0_0 = a1_0 then (if a0_1 = a1_1 then (if a0_2 = a1_2 then (if a0_3 = a1_3 then (drydocklaw04_SchemaSteps.j0 k t285 true a0_0 a0_1 a0_2 a0_3 a1_0 a1_1 a1_2 a1_3) else (if a1_3 = (wrap64 (a0_3 + 1)) then (drydocklaw04_SchemaSteps.j0 k t285 (a0_0 != a1_0) a0_0 a0_1 a0_2 a0_3 a1_0 a1_1 a1_2 a1_3) else (drydocklaw04_SchemaSteps.j0 k t285 true a0_0 a0_1 a0_2 a0_3 a1_0 a1_1 a1_2 a1_3))) else (if a1_3 = (wrap64 (a0_3 + 1)) then (drydocklaw04_SchemaSteps.j0 k t285 (a0_0 != a1_0) a0_0 a0_1 a0_2 a0_3 a1_0 a1_1 a1_2 a1_3) else (drydocklaw04_SchemaSteps.j0 k t285 true a0_0 a0_1 a0_2 a0_3 a1_0 a1_1 a1_2 a1_3))) else (if a1_3 = (wrap64 (a0_3 + 1)) then (drydocklaw04_SchemaSteps.j0 k t285 (a0_0 != a1_0) a0_0 a0_1 a0_2 a0_3 a1_0 a1_1 a1_2 a1_3) else (drydocklaw04_SchemaSteps.j0 k t285 true a0_0 a0_1 a0_2 a0_3 a1_0 a1_1 a1_2 a1_3))) else (if a1_3 = (wrap64 (a0_3 + 1)) then (drydocklaw04_SchemaSteps.j0 k t285 (a0_0 != a1_0) a0_0 a0_1 a0_2 a0_3 a1_0 a1_1 a1_2 a1_3) else (drydocklaw04_SchemaSteps.j0 k t285 true a0_0 a0_1 a0_2 a0_3 a1_0 a1_1 a1_2 a1_3))) else (drydocklaw04_SchemaSteps.j0 k t285 true a0_0 a0_1 a0_2 a0_3 a1_0 a1_1 a1_2 a1_3)) else (drydocklaw04_SchemaSteps.j0 k t285 false a0_0 a0_1 a0_2 a0_3 a1_0 a1_1 a1_2 a1_3))))) else (drydocklaw04_SchemaSteps.j0 k t285 true a0_0 a0_1 a0_2 a0_3 a1_0 a1_1 a1_2 a1_3)) = some r := H
  have A5 := Aside0.mk A50
  clear A50
  have HC6 := Aside0.mk H
  clear H
  go_enter Try.func7, Try.ntmps7
  go_upto_region 4 with (first | ((with_reducible refine gate_dst (N := 2) rfl ?_); refine box_event ?hg (N := 2) ?hd (cs := #[.int .i64 a0_0, .int .i64 a0_1, .int .i64 a0_2, .int .i64 a0_3]) (t := 34) ?hr ?_; (case hd => rfl); (case hg => rfl); (case hr => first | (go_simp; done) | (go_simp; rfl)); intro gb282 hg w7 hbox hb; have n0_ := Aside0.mk (below_step (by repeat (first | (with_reducible first | exact HB.out | apply below_alloc | apply pw_below_drewN | apply below_drew1) | exact HB.out)) hb); have n1_ := Aside0.mk (hbox); have n2_ := Aside0.mk ((by rw [hg]; exact (below_size (by repeat (first | (with_reducible first | exact HB.out | apply below_alloc | apply pw_below_drewN | apply below_drew1) | exact HB.out))) : w.heap.size ≤ gb282)); have n3_ := Aside0.mk ((by rw [hg]; exact (below_size (by repeat (first | (with_reducible first | exact HB.out | apply below_alloc | apply pw_below_drewN | apply below_drew1) | exact HB.out))) : w.heap.size ≤ gb282)); clear HB; have HB := n0_; have BK282 := n1_; have GW282 := n2_; have GE282 := n3_; clear n0_ n1_ n2_ n3_; clear hb hbox hg) | ((with_reducible refine gate_dst (N := 3) rfl ?_); refine box_event ?hg (N := 3) ?hd (cs := #[.int .i64 a1_0, .int .i64 a1_1, .int .i64 a1_2, .int .i64 a1_3]) (t := 34) ?hr ?_; (case hd => rfl); (case hg => rfl); (case hr => first | (go_simp; done) | (go_simp; rfl)); intro gb283 hg w8 hbox hb; have n0_ := Aside0.mk (blk_below (g := gb282) (o := .cells #[.int .i64 a0_0, .int .i64 a0_1, .int .i64 a0_2, .int .i64 a0_3] 34 (0, 0)) (by (with_reducible repeat (first | refine blk_drewN ?_ _ | refine blk_drew ?_ | refine blk_alloc ?_ _)); exact BK282.out) hb); have n1_ := Aside0.mk (below_step (by repeat (first | (with_reducible first | exact HB.out | apply below_alloc | apply pw_below_drewN | apply below_drew1 | refine below_set ?_ GE282.out) | exact HB.out)) hb); have n2_ := Aside0.mk (hbox); have n3_ := Aside0.mk ((by rw [hg]; exact (below_size (by repeat (first | (with_reducible first | exact HB.out | apply below_alloc | apply pw_below_drewN | apply below_drew1 | refine below_set ?_ GE282.out) | exact HB.out))) : w.heap.size ≤ gb283)); have n4_ := Aside0.mk ((by rw [hg]; exact (below_size (by repeat (first | (with_reducible first | exact HB.out | apply below_alloc | apply pw_below_drewN | apply below_drew1 | refine below_set ?_ GE282.out) | exact HB.out))) : w.heap.size ≤ gb283)); have n5_ := Aside0.mk ((by rw [hg]; exact Nat.ne_of_lt (blk_lt (g := gb282) (o := .cells #[.int .i64 a0_0, .int .i64 a0_1, .int .i64 a0_2, .int .i64 a0_3] 34 (0, 0)) (by (with_reducible repeat (first | refine blk_drewN ?_ _ | refine blk_drew ?_ | refine blk_alloc ?_ _)); exact BK282.out)) : gb282 ≠ gb283)); have n6_ := Aside0.mk ((by rw [hg]; exact Nat.ne_of_gt (blk_lt (g := gb282) (o := .cells #[.int .i64 a0_0, .int .i64 a0_1, .int .i64 a0_2, .int .i64 a0_3] 34 (0, 0)) (by (with_reducible repeat (first | refine blk_drewN ?_ _ | refine blk_drew ?_ | refine blk_alloc ?_ _)); exact BK282.out)) : gb283 ≠ gb282)); clear BK282; clear HB; have BK282 := n0_; have HB := n1_; have BK283 := n2_; have GW283 := n3_; have GE283 := n4_; have NB282_283 := n5_; have NB283_282 := n6_; clear n0_ n1_ n2_ n3_ n4_ n5_ n6_; clear hb hbox hg) | ((with_reducible refine gate_callee (f := 9) rfl ?_); refine goesL_ (some 8) rfl rfl Try.func9 (by kernel_rfl) rfl #[] rfl (by (try simp only [List.map_toArray, List.map_cons, List.map_nil]); first | done | rfl | (simp only [List.length_drop, List.length_take]; rfl)) ?_; (with_reducible refine (drydocklaw04_awake.calls k  t284 _ A3.out).mono ?_); rintro e w9 ⟨rfl, hb⟩; refine ⟨_, rfl, ?_⟩; have n0_ := Aside0.mk (blk_below (g := gb282) (o := .cells #[.int .i64 a0_0, .int .i64 a0_1, .int .i64 a0_2, .int .i64 a0_3] 34 (0, 0)) (by (with_reducible repeat (first | refine blk_drewN ?_ _ | refine blk_drew ?_ | refine blk_alloc ?_ _)); exact BK282.out) hb); have n1_ := Aside0.mk (blk_below (g := gb283) (o := .cells #[.int .i64 a1_0, .int .i64 a1_1, .int .i64 a1_2, .int .i64 a1_3] 34 (0, 0)) (by (with_reducible repeat (first | refine blk_drewN ?_ _ | refine blk_drew ?_ | refine blk_alloc ?_ _)); exact BK283.out) hb); have n2_ := Aside0.mk (below_step (by repeat (first | (with_reducible first | exact HB.out | apply below_alloc | apply pw_below_drewN | apply below_drew1 | refine below_set ?_ GE282.out | refine below_set ?_ GE283.out) | exact HB.out)) hb); clear BK282; clear BK283; clear HB; have BK282 := n0_; have BK283 := n1_; have HB := n2_; clear n0_ n1_ n2_; (try clear hb); (try clear hb2); (try clear hk); (try clear hi); have hnb10 := NB282_283.out; have hnc10 := NB283_282.out; have hcz11_0 : w9.cell? ⟨gb282, 0, none⟩ = some (.int .i64 a0_0) := (blk_cell BK282.out 0).trans rfl; have hcz11_1 : w9.cell? ⟨gb282, 1, none⟩ = some (.int .i64 a0_1) := (blk_cell BK282.out 1).trans rfl; have hcz11_2 : w9.cell? ⟨gb282, 2, none⟩ = some (.int .i64 a0_2) := (blk_cell BK282.out 2).trans rfl; have hcz11_3 : w9.cell? ⟨gb282, 3, none⟩ = some (.int .i64 a0_3) := (blk_cell BK282.out 3).trans rfl; have hfz11_0 := blk_frozen BK282.out 0; have hfz11_1 := blk_frozen BK282.out 1; have hfz11_2 := blk_frozen BK282.out 2; have hfz11_3 := blk_frozen BK282.out 3; have hcz12_0 : w9.cell? ⟨gb283, 0, none⟩ = some (.int .i64 a1_0) := (blk_cell BK283.out 0).trans rfl; have hcz12_1 : w9.cell? ⟨gb283, 1, none⟩ = some (.int .i64 a1_1) := (blk_cell BK283.out 1).trans rfl; have hcz12_2 : w9.cell? ⟨gb283, 2, none⟩ = some (.int .i64 a1_2) := (blk_cell BK283.out 2).trans rfl; have hcz12_3 : w9.cell? ⟨gb283, 3, none⟩ = some (.int .i64 a1_3) := (blk_cell BK283.out 3).trans rfl; have hfz12_0 := blk_frozen BK283.out 0; have hfz12_1 := blk_frozen BK283.out 1; have hfz12_2 := blk_frozen BK283.out 2; have hfz12_3 := blk_frozen BK283.out 3) | ((with_reducible refine gate_callee (f := 20) rfl ?_); refine goesL_ (some 11) rfl rfl Try.func20 (by kernel_rfl) rfl #[.agg #[.int .i64 a0_0, .int .i64 a0_1, .int .i64 a0_2, .int .i64 a0_3], .agg #[.int .i64 a1_0, .int .i64 a1_1, .int .i64 a1_2, .int .i64 a1_3]] rfl (by (try simp only [List.map_toArray, List.map_cons, List.map_nil]); first | done | rfl | (simp only [List.length_drop, List.length_take]; rfl)) ?_; (with_reducible refine (schema_Step.calls k a0_0 a0_1 a0_2 a0_3 a1_0 a1_1 a1_2 a1_3 t285 _ A4.out).mono ?_); rintro e w13 ⟨rfl, hb⟩; refine ⟨_, rfl, ?_⟩; have n0_ := Aside0.mk (blk_below (g := gb282) (o := .cells #[.int .i64 a0_0, .int .i64 a0_1, .int .i64 a0_2, .int .i64 a0_3] 34 (0, 0)) (by (with_reducible repeat (first | refine blk_drewN ?_ _ | refine blk_drew ?_ | refine blk_alloc ?_ _)); exact BK282.out) hb); have n1_ := Aside0.mk (blk_below (g := gb283) (o := .cells #[.int .i64 a1_0, .int .i64 a1_1, .int .i64 a1_2, .int .i64 a1_3] 34 (0, 0)) (by (with_reducible repeat (first | refine blk_drewN ?_ _ | refine blk_drew ?_ | refine blk_alloc ?_ _)); exact BK283.out) hb); have n2_ := Aside0.mk (below_step (by repeat (first | (with_reducible first | exact HB.out | apply below_alloc | apply pw_below_drewN | apply below_drew1 | refine below_set ?_ GE282.out | refine below_set ?_ GE283.out) | exact HB.out)) hb); clear BK282; clear BK283; clear HB; have BK282 := n0_; have BK283 := n1_; have HB := n2_; clear n0_ n1_ n2_; (try clear hb); (try clear hb2); (try clear hk); (try clear hi); have hcz14_0 : w13.cell? ⟨gb283, 0, none⟩ = some (.int .i64 a1_0) := (blk_cell BK283.out 0).trans rfl; have hcz14_1 : w13.cell? ⟨gb283, 1, none⟩ = some (.int .i64 a1_1) := (blk_cell BK283.out 1).trans rfl; have hcz14_2 : w13.cell? ⟨gb283, 2, none⟩ = some (.int .i64 a1_2) := (blk_cell BK283.out 2).trans rfl; have hcz14_3 : w13.cell? ⟨gb283, 3, none⟩ = some (.int .i64 a1_3) := (blk_cell BK283.out 3).trans rfl; have hfz14_0 := blk_frozen BK283.out 0; have hfz14_1 := blk_frozen BK283.out 1; have hfz14_2 := blk_frozen BK283.out 2; have hfz14_3 := blk_frozen BK283.out 3; have hcz15_0 : w13.cell? ⟨gb282, 0, none⟩ = some (.int .i64 a0_0) := (blk_cell BK282.out 0).trans rfl; have hcz15_1 : w13.cell? ⟨gb282, 1, none⟩ = some (.int .i64 a0_1) := (blk_cell BK282.out 1).trans rfl; have hcz15_2 : w13.cell? ⟨gb282, 2, none⟩ = some (.int .i64 a0_2) := (blk_cell BK282.out 2).trans rfl; have hcz15_3 : w13.cell? ⟨gb282, 3, none⟩ = some (.int .i64 a0_3) := (blk_cell BK282.out 3).trans rfl; have hfz15_0 := blk_frozen BK282.out 0; have hfz15_1 := blk_frozen BK282.out 1; have hfz15_2 := blk_frozen BK282.out 2; have hfz15_3 := blk_frozen BK282.out 3) | ((with_reducible refine gate_callee (f := 20) rfl ?_); refine goesL_ (some 14) rfl rfl Try.func20 (by kernel_rfl) rfl #[.agg #[.int .i64 a1_0, .int .i64 a1_1, .int .i64 a1_2, .int .i64 a1_3], .agg #[.int .i64 a0_0, .int .i64 a0_1, .int .i64 a0_2, .int .i64 a0_3]] rfl (by (try simp only [List.map_toArray, List.map_cons, List.map_nil]); first | done | rfl | (simp only [List.length_drop, List.length_take]; rfl)) ?_; (with_reducible refine (schema_Step.calls k a1_0 a1_1 a1_2 a1_3 a0_0 a0_1 a0_2 a0_3 t286 _ A5.out).mono ?_); rintro e w16 ⟨rfl, hb⟩; refine ⟨_, rfl, ?_⟩; have n0_ := Aside0.mk (blk_below (g := gb282) (o := .cells #[.int .i64 a0_0, .int .i64 a0_1, .int .i64 a0_2, .int .i64 a0_3] 34 (0, 0)) (by (with_reducible repeat (first | refine blk_drewN ?_ _ | refine blk_drew ?_ | refine blk_alloc ?_ _)); exact BK282.out) hb); have n1_ := Aside0.mk (blk_below (g := gb283) (o := .cells #[.int .i64 a1_0, .int .i64 a1_1, .int .i64 a1_2, .int .i64 a1_3] 34 (0, 0)) (by (with_reducible repeat (first | refine blk_drewN ?_ _ | refine blk_drew ?_ | refine blk_alloc ?_ _)); exact BK283.out) hb); have n2_ := Aside0.mk (below_step (by repeat (first | (with_reducible first | exact HB.out | apply below_alloc | apply pw_below_drewN | apply below_drew1 | refine below_set ?_ GE282.out | refine below_set ?_ GE283.out) | exact HB.out)) hb); clear BK282; clear BK283; clear HB; have BK282 := n0_; have BK283 := n1_; have HB := n2_; clear n0_ n1_ n2_; (try clear hb); (try clear hb2); (try clear hk); (try clear hi)))
  (try simp only [Act.put, List.setIfInBounds_toArray, List.set_cons_zero, List.set_cons_succ])
  go_cut [65] (fun v65 wc => ∃ (kq : Nat) (x65_5 : Bool), v65 = .bool x65_5 ∧ Aside0 (drydocklaw04_SchemaSteps.j0 kq t285 x65_5 a0_0 a0_1 a0_2 a0_3 a1_0 a1_1 a1_2 a1_3 = some r) ∧ Aside0 (kq ≤ k) ∧ Aside0 (wc.heap[gb282]? = some (.cells #[.int .i64 a0_0, .int .i64 a0_1, .int .i64 a0_2, .int .i64 a0_3] 34 (0, 0))) ∧ Aside0 (wc.heap[gb283]? = some (.cells #[.int .i64 a1_0, .int .i64 a1_1, .int .i64 a1_2, .int .i64 a1_3] 34 (0, 0))) ∧ Aside0 (Below w.heap.size w wc))
  case first =>
    have H := HC6.out
    clear HC6
    by_cases c17 : t284 = true
    · subst c17
      have H1 : (if t285 < 0 then (drydocklaw04_SchemaSteps.j0 k t285 true a0_0 a0_1 a0_2 a0_3 a1_0 a1_1 a1_2 a1_3) else (if t285 > 2 then (drydocklaw04_SchemaSteps.j0 k t285 true a0_0 a0_1 a0_2 a0_3 a1_0 a1_1 a1_2 a1_3) else (if t285 = 0 then (if a0_0 = a1_0 then (if a0_1 = a1_1 then (if a0_2 = a1_2 then (if a0_3 = a1_3 then (if t286 = 0 then (if t285 = 1 then (if t286 = 2 then (drydocklaw04_SchemaSteps.j0 k t285 true a0_0 a0_1 a0_2 a0_3 a1_0 a1_1 a1_2 a1_3) else (drydocklaw04_SchemaSteps.j0 k t285 true a0_0 a0_1 a0_2 a0_3 a1_0 a1_1 a1_2 a1_3)) else (drydocklaw04_SchemaSteps.j0 k t285 false a0_0 a0_1 a0_2 a0_3 a1_0 a1_1 a1_2 a1_3)) else (drydocklaw04_SchemaSteps.j0 k t285 true a0_0 a0_1 a0_2 a0_3 a1_0 a1_1 a1_2 a1_3)) else (drydocklaw04_SchemaSteps.j0 k t285 true a0_0 a0_1 a0_2 a0_3 a1_0 a1_1 a1_2 a1_3)) else (drydocklaw04_SchemaSteps.j0 k t285 true a0_0 a0_1 a0_2 a0_3 a1_0 a1_1 a1_2 a1_3)) else (drydocklaw04_SchemaSteps.j0 k t285 true a0_0 a0_1 a0_2 a0_3 a1_0 a1_1 a1_2 a1_3)) else (drydocklaw04_SchemaSteps.j0 k t285 true a0_0 a0_1 a0_2 a0_3 a1_0 a1_1 a1_2 a1_3)) else (if t285 = 1 then (if t286 = 2 then (if a0_0 = a1_0 then (if a0_1 = a1_1 then (if a0_2 = a1_2 then (if a0_3 = a1_3 then (drydocklaw04_SchemaSteps.j0 k t285 true a0_0 a0_1 a0_2 a0_3 a1_0 a1_1 a1_2 a1_3) else (if a1_3 = (wrap64 (a0_3 + 1)) then (drydocklaw04_SchemaSteps.j0 k t285 (a0_0 != a1_0) a0_0 a0_1 a0_2 a0_3 a1_0 a1_1 a1_2 a1_3) else (drydocklaw04_SchemaSteps.j0 k t285 true a0_0 a0_1 a0_2 a0_3 a1_0 a1_1 a1_2 a1_3))) else (if a1_3 = (wrap64 (a0_3 + 1)) then (drydocklaw04_SchemaSteps.j0 k t285 (a0_0 != a1_0) a0_0 a0_1 a0_2 a0_3 a1_0 a1_1 a1_2 a1_3) else (drydocklaw04_SchemaSteps.j0 k t285 true a0_0 a0_1 a0_2 a0_3 a1_0 a1_1 a1_2 a1_3))) else (if a1_3 = (wrap64 (a0_3 + 1)) then (drydocklaw04_SchemaSteps.j0 k t285 (a0_0 != a1_0) a0_0 a0_1 a0_2 a0_3 a1_0 a1_1 a1_2 a1_3) else (drydocklaw04_SchemaSteps.j0 k t285 true a0_0 a0_1 a0_2 a0_3 a1_0 a1_1 a1_2 a1_3))) else (if a1_3 = (wrap64 (a0_3 + 1)) then (drydocklaw04_SchemaSteps.j0 k t285 (a0_0 != a1_0) a0_0 a0_1 a0_2 a0_3 a1_0 a1_1 a1_2 a1_3) else (drydocklaw04_SchemaSteps.j0 k t285 true a0_0 a0_1 a0_2 a0_3 a1_0 a1_1 a1_2 a1_3))) else (drydocklaw04_SchemaSteps.j0 k t285 true a0_0 a0_1 a0_2 a0_3 a1_0 a1_1 a1_2 a1_3)) else (drydocklaw04_SchemaSteps.j0 k t285 false a0_0 a0_1 a0_2 a0_3 a1_0 a1_1 a1_2 a1_3))))) = some r := by rw [if_pos rfl] at H; exact H
      clear H
      have H := H1
      clear H1
      by_cases c18 : t285 < 0
      · rw [if_pos c18] at H
        have c18b0 : decide (t285 < 0) = true := decide_eq_true c18
        clear c18
        (first | rw [c18b0] | (simp only [i64_w, i32_w]; rw [c18b0]) | skip)
        have H' := Aside0.mk H
        clear H
        go_wp2
        go_meet
        case rel => exact ⟨_, (true), (by first | rfl | (simp; done) | (simp [*]; done)), H', ⟨by first | omega | exact Nat.le_refl _⟩, ⟨by (with_reducible repeat (first | refine blk_drewN ?_ _ | refine blk_drew ?_ | refine blk_alloc ?_ _)); exact BK282.out⟩, ⟨by (with_reducible repeat (first | refine blk_drewN ?_ _ | refine blk_drew ?_ | refine blk_alloc ?_ _)); exact BK283.out⟩, ⟨by repeat (first | (with_reducible first | exact HB.out | apply below_alloc | apply pw_below_drewN | apply below_drew1 | refine below_set ?_ GE282.out | refine below_set ?_ GE283.out) | exact HB.out)⟩⟩
      · rw [if_neg c18] at H
        have c18b0 : decide (t285 < 0) = false := decide_eq_false c18
        clear c18
        (first | rw [c18b0] | (simp only [i64_w, i32_w]; rw [c18b0]) | skip)
        by_cases c19 : t285 > 2
        · rw [if_pos c19] at H
          have c19b0 : decide (2 < t285) = true := decide_eq_true c19
          clear c19
          have H' := Aside0.mk H
          clear H
          go_wp2
          go_meet
          case rel => exact ⟨_, (true), (by first | rfl | (simp; done) | (simp [*]; done)), H', ⟨by first | omega | exact Nat.le_refl _⟩, ⟨by (with_reducible repeat (first | refine blk_drewN ?_ _ | refine blk_drew ?_ | refine blk_alloc ?_ _)); exact BK282.out⟩, ⟨by (with_reducible repeat (first | refine blk_drewN ?_ _ | refine blk_drew ?_ | refine blk_alloc ?_ _)); exact BK283.out⟩, ⟨by repeat (first | (with_reducible first | exact HB.out | apply below_alloc | apply pw_below_drewN | apply below_drew1 | refine below_set ?_ GE282.out | refine below_set ?_ GE283.out) | exact HB.out)⟩⟩
        · rw [if_neg c19] at H
          have c19b0 : decide (2 < t285) = false := decide_eq_false c19
          clear c19
          by_cases c20 : t285 = 0
          · rw [if_pos c20] at H
            have c20b0 : (t285 == 0) = true := beq_iff_eq.mpr c20
            have c20b1 : (t285 != 0) = false := bne_eq_false_iff_eq.mpr c20
            clear c20
            by_cases c21 : a0_0 = a1_0
            · rw [if_pos c21] at H
              have c21b0 : (a0_0 == a1_0) = true := beq_iff_eq.mpr c21
              have c21b1 : (a0_0 != a1_0) = false := bne_eq_false_iff_eq.mpr c21
              clear c21
              by_cases c22 : a0_1 = a1_1
              · rw [if_pos c22] at H
                have c22b0 : (a0_1 == a1_1) = true := beq_iff_eq.mpr c22
                have c22b1 : (a0_1 != a1_1) = false := bne_eq_false_iff_eq.mpr c22
                clear c22
                by_cases c23 : a0_2 = a1_2
                · rw [if_pos c23] at H
                  have c23b0 : (a0_2 == a1_2) = true := beq_iff_eq.mpr c23
                  have c23b1 : (a0_2 != a1_2) = false := bne_eq_false_iff_eq.mpr c23
                  clear c23
                  by_cases c24 : a0_3 = a1_3
                  · rw [if_pos c24] at H
                    have c24b0 : (a0_3 == a1_3) = true := beq_iff_eq.mpr c24
                    have c24b1 : (a0_3 != a1_3) = false := bne_eq_false_iff_eq.mpr c24
                    clear c24
                    by_cases c25 : t286 = 0
                    · rw [if_pos c25] at H
                      have c25b0 : (t286 == 0) = true := beq_iff_eq.mpr c25
                      have c25b1 : (t286 != 0) = false := bne_eq_false_iff_eq.mpr c25
                      clear c25
                      by_cases c26 : t285 = 1
                      · rw [if_pos c26] at H
                        have c26b0 : (t285 == 1) = true := beq_iff_eq.mpr c26
                        have c26b1 : (t285 != 1) = false := bne_eq_false_iff_eq.mpr c26
                        clear c26
                        by_cases c27 : t286 = 2
                        · rw [if_pos c27] at H
                          have c27b0 : (t286 == 2) = true := beq_iff_eq.mpr c27
                          have c27b1 : (t286 != 2) = false := bne_eq_false_iff_eq.mpr c27
                          clear c27
                          have H' := Aside0.mk H
                          clear H
                          have hnb28 := NB282_283.out
                          have hnc28 := NB283_282.out
                          have hcz29_0 : w16.cell? ⟨gb282, 0, none⟩ = some (.int .i64 a0_0) := (blk_cell BK282.out 0).trans rfl
                          have hcz29_1 : w16.cell? ⟨gb282, 1, none⟩ = some (.int .i64 a0_1) := (blk_cell BK282.out 1).trans rfl
                          have hcz29_2 : w16.cell? ⟨gb282, 2, none⟩ = some (.int .i64 a0_2) := (blk_cell BK282.out 2).trans rfl
                          have hcz29_3 : w16.cell? ⟨gb282, 3, none⟩ = some (.int .i64 a0_3) := (blk_cell BK282.out 3).trans rfl
                          have hfz29_0 := blk_frozen BK282.out 0
                          have hfz29_1 := blk_frozen BK282.out 1
                          have hfz29_2 := blk_frozen BK282.out 2
                          have hfz29_3 := blk_frozen BK282.out 3
                          have hcz30_0 : w16.cell? ⟨gb283, 0, none⟩ = some (.int .i64 a1_0) := (blk_cell BK283.out 0).trans rfl
                          have hcz30_1 : w16.cell? ⟨gb283, 1, none⟩ = some (.int .i64 a1_1) := (blk_cell BK283.out 1).trans rfl
                          have hcz30_2 : w16.cell? ⟨gb283, 2, none⟩ = some (.int .i64 a1_2) := (blk_cell BK283.out 2).trans rfl
                          have hcz30_3 : w16.cell? ⟨gb283, 3, none⟩ = some (.int .i64 a1_3) := (blk_cell BK283.out 3).trans rfl
                          have hfz30_0 := blk_frozen BK283.out 0
                          have hfz30_1 := blk_frozen BK283.out 1
                          have hfz30_2 := blk_frozen BK283.out 2
                          have hfz30_3 := blk_frozen BK283.out 3
                          go_wp2
                          go_meet
                          case rel => exact ⟨_, (true), (by first | rfl | (simp; done) | (simp [*]; done)), H', ⟨by first | omega | exact Nat.le_refl _⟩, ⟨by (with_reducible repeat (first | refine blk_drewN ?_ _ | refine blk_drew ?_ | refine blk_alloc ?_ _)); exact BK282.out⟩, ⟨by (with_reducible repeat (first | refine blk_drewN ?_ _ | refine blk_drew ?_ | refine blk_alloc ?_ _)); exact BK283.out⟩, ⟨by repeat (first | (with_reducible first | exact HB.out | apply below_alloc | apply pw_below_drewN | apply below_drew1 | refine below_set ?_ GE282.out | refine below_set ?_ GE283.out) | exact HB.out)⟩⟩
                        · rw [if_neg c27] at H
                          have c27b0 : (t286 == 2) = false := beq_eq_false_iff_ne.mpr c27
                          have c27b1 : (t286 != 2) = true := bne_iff_ne.mpr c27
                          have H' := Aside0.mk H
                          clear H
                          have hnb31 := NB282_283.out
                          have hnc31 := NB283_282.out
                          have hcz32_0 : w16.cell? ⟨gb282, 0, none⟩ = some (.int .i64 a0_0) := (blk_cell BK282.out 0).trans rfl
                          have hcz32_1 : w16.cell? ⟨gb282, 1, none⟩ = some (.int .i64 a0_1) := (blk_cell BK282.out 1).trans rfl
                          have hcz32_2 : w16.cell? ⟨gb282, 2, none⟩ = some (.int .i64 a0_2) := (blk_cell BK282.out 2).trans rfl
                          have hcz32_3 : w16.cell? ⟨gb282, 3, none⟩ = some (.int .i64 a0_3) := (blk_cell BK282.out 3).trans rfl
                          have hfz32_0 := blk_frozen BK282.out 0
                          have hfz32_1 := blk_frozen BK282.out 1
                          have hfz32_2 := blk_frozen BK282.out 2
                          have hfz32_3 := blk_frozen BK282.out 3
                          have hcz33_0 : w16.cell? ⟨gb283, 0, none⟩ = some (.int .i64 a1_0) := (blk_cell BK283.out 0).trans rfl
                          have hcz33_1 : w16.cell? ⟨gb283, 1, none⟩ = some (.int .i64 a1_1) := (blk_cell BK283.out 1).trans rfl
                          have hcz33_2 : w16.cell? ⟨gb283, 2, none⟩ = some (.int .i64 a1_2) := (blk_cell BK283.out 2).trans rfl
                          have hcz33_3 : w16.cell? ⟨gb283, 3, none⟩ = some (.int .i64 a1_3) := (blk_cell BK283.out 3).trans rfl
                          have hfz33_0 := blk_frozen BK283.out 0
                          have hfz33_1 := blk_frozen BK283.out 1
                          have hfz33_2 := blk_frozen BK283.out 2
                          have hfz33_3 := blk_frozen BK283.out 3
                          go_wp2
                          go_meet
                          case rel => exact ⟨_, (true), (by first | rfl | (simp; done) | (simp [*]; done)), H', ⟨by first | omega | exact Nat.le_refl _⟩, ⟨by (with_reducible repeat (first | refine blk_drewN ?_ _ | refine blk_drew ?_ | refine blk_alloc ?_ _)); exact BK282.out⟩, ⟨by (with_reducible repeat (first | refine blk_drewN ?_ _ | refine blk_drew ?_ | refine blk_alloc ?_ _)); exact BK283.out⟩, ⟨by repeat (first | (with_reducible first | exact HB.out | apply below_alloc | apply pw_below_drewN | apply below_drew1 | refine below_set ?_ GE282.out | refine below_set ?_ GE283.out) | exact HB.out)⟩⟩
                      · rw [if_neg c26] at H
                        have c26b0 : (t285 == 1) = false := beq_eq_false_iff_ne.mpr c26
                        have c26b1 : (t285 != 1) = true := bne_iff_ne.mpr c26
                        have H' := Aside0.mk H
                        clear H
                        have hnb34 := NB282_283.out
                        have hnc34 := NB283_282.out
                        have hcz35_0 : w16.cell? ⟨gb282, 0, none⟩ = some (.int .i64 a0_0) := (blk_cell BK282.out 0).trans rfl
                        have hcz35_1 : w16.cell? ⟨gb282, 1, none⟩ = some (.int .i64 a0_1) := (blk_cell BK282.out 1).trans rfl
                        have hcz35_2 : w16.cell? ⟨gb282, 2, none⟩ = some (.int .i64 a0_2) := (blk_cell BK282.out 2).trans rfl
                        have hcz35_3 : w16.cell? ⟨gb282, 3, none⟩ = some (.int .i64 a0_3) := (blk_cell BK282.out 3).trans rfl
                        have hfz35_0 := blk_frozen BK282.out 0
                        have hfz35_1 := blk_frozen BK282.out 1
                        have hfz35_2 := blk_frozen BK282.out 2
                        have hfz35_3 := blk_frozen BK282.out 3
                        have hcz36_0 : w16.cell? ⟨gb283, 0, none⟩ = some (.int .i64 a1_0) := (blk_cell BK283.out 0).trans rfl
                        have hcz36_1 : w16.cell? ⟨gb283, 1, none⟩ = some (.int .i64 a1_1) := (blk_cell BK283.out 1).trans rfl
                        have hcz36_2 : w16.cell? ⟨gb283, 2, none⟩ = some (.int .i64 a1_2) := (blk_cell BK283.out 2).trans rfl
                        have hcz36_3 : w16.cell? ⟨gb283, 3, none⟩ = some (.int .i64 a1_3) := (blk_cell BK283.out 3).trans rfl
                        have hfz36_0 := blk_frozen BK283.out 0
                        have hfz36_1 := blk_frozen BK283.out 1
                        have hfz36_2 := blk_frozen BK283.out 2
                        have hfz36_3 := blk_frozen BK283.out 3
                        go_wp2
                        go_meet
                        case rel => exact ⟨_, (false), (by first | rfl | (simp; done) | (simp [*]; done)), H', ⟨by first | omega | exact Nat.le_refl _⟩, ⟨by (with_reducible repeat (first | refine blk_drewN ?_ _ | refine blk_drew ?_ | refine blk_alloc ?_ _)); exact BK282.out⟩, ⟨by (with_reducible repeat (first | refine blk_drewN ?_ _ | refine blk_drew ?_ | refine blk_alloc ?_ _)); exact BK283.out⟩, ⟨by repeat (first | (with_reducible first | exact HB.out | apply below_alloc | apply pw_below_drewN | apply below_drew1 | refine below_set ?_ GE282.out | refine below_set ?_ GE283.out) | exact HB.out)⟩⟩
                    · rw [if_neg c25] at H
                      have c25b0 : (t286 == 0) = false := beq_eq_false_iff_ne.mpr c25
                      have c25b1 : (t286 != 0) = true := bne_iff_ne.mpr c25
                      have H' := Aside0.mk H
                      clear H
                      have hnb37 := NB282_283.out
                      have hnc37 := NB283_282.out
                      have hcz38_0 : w16.cell? ⟨gb282, 0, none⟩ = some (.int .i64 a0_0) := (blk_cell BK282.out 0).trans rfl
                      have hcz38_1 : w16.cell? ⟨gb282, 1, none⟩ = some (.int .i64 a0_1) := (blk_cell BK282.out 1).trans rfl
                      have hcz38_2 : w16.cell? ⟨gb282, 2, none⟩ = some (.int .i64 a0_2) := (blk_cell BK282.out 2).trans rfl
                      have hcz38_3 : w16.cell? ⟨gb282, 3, none⟩ = some (.int .i64 a0_3) := (blk_cell BK282.out 3).trans rfl
                      have hfz38_0 := blk_frozen BK282.out 0
                      have hfz38_1 := blk_frozen BK282.out 1
                      have hfz38_2 := blk_frozen BK282.out 2
                      have hfz38_3 := blk_frozen BK282.out 3
                      have hcz39_0 : w16.cell? ⟨gb283, 0, none⟩ = some (.int .i64 a1_0) := (blk_cell BK283.out 0).trans rfl
                      have hcz39_1 : w16.cell? ⟨gb283, 1, none⟩ = some (.int .i64 a1_1) := (blk_cell BK283.out 1).trans rfl
                      have hcz39_2 : w16.cell? ⟨gb283, 2, none⟩ = some (.int .i64 a1_2) := (blk_cell BK283.out 2).trans rfl
                      have hcz39_3 : w16.cell? ⟨gb283, 3, none⟩ = some (.int .i64 a1_3) := (blk_cell BK283.out 3).trans rfl
                      have hfz39_0 := blk_frozen BK283.out 0
                      have hfz39_1 := blk_frozen BK283.out 1
                      have hfz39_2 := blk_frozen BK283.out 2
                      have hfz39_3 := blk_frozen BK283.out 3
                      go_wp2
                      go_meet
                      case rel => exact ⟨_, (true), (by first | rfl | (simp; done) | (simp [*]; done)), H', ⟨by first | omega | exact Nat.le_refl _⟩, ⟨by (with_reducible repeat (first | refine blk_drewN ?_ _ | refine blk_drew ?_ | refine blk_alloc ?_ _)); exact BK282.out⟩, ⟨by (with_reducible repeat (first | refine blk_drewN ?_ _ | refine blk_drew ?_ | refine blk_alloc ?_ _)); exact BK283.out⟩, ⟨by repeat (first | (with_reducible first | exact HB.out | apply below_alloc | apply pw_below_drewN | apply below_drew1 | refine below_set ?_ GE282.out | refine below_set ?_ GE283.out) | exact HB.out)⟩⟩
                  · rw [if_neg c24] at H
                    have c24b0 : (a0_3 == a1_3) = false := beq_eq_false_iff_ne.mpr c24
                    have c24b1 : (a0_3 != a1_3) = true := bne_iff_ne.mpr c24
                    have H' := Aside0.mk H
                    clear H
                    have hnb40 := NB282_283.out
                    have hnc40 := NB283_282.out
                    have hcz41_0 : w16.cell? ⟨gb282, 0, none⟩ = some (.int .i64 a0_0) := (blk_cell BK282.out 0).trans rfl
                    have hcz41_1 : w16.cell? ⟨gb282, 1, none⟩ = some (.int .i64 a0_1) := (blk_cell BK282.out 1).trans rfl
                    have hcz41_2 : w16.cell? ⟨gb282, 2, none⟩ = some (.int .i64 a0_2) := (blk_cell BK282.out 2).trans rfl
                    have hcz41_3 : w16.cell? ⟨gb282, 3, none⟩ = some (.int .i64 a0_3) := (blk_cell BK282.out 3).trans rfl
                    have hfz41_0 := blk_frozen BK282.out 0
                    have hfz41_1 := blk_frozen BK282.out 1
                    have hfz41_2 := blk_frozen BK282.out 2
                    have hfz41_3 := blk_frozen BK282.out 3
                    have hcz42_0 : w16.cell? ⟨gb283, 0, none⟩ = some (.int .i64 a1_0) := (blk_cell BK283.out 0).trans rfl
                    have hcz42_1 : w16.cell? ⟨gb283, 1, none⟩ = some (.int .i64 a1_1) := (blk_cell BK283.out 1).trans rfl
                    have hcz42_2 : w16.cell? ⟨gb283, 2, none⟩ = some (.int .i64 a1_2) := (blk_cell BK283.out 2).trans rfl
                    have hcz42_3 : w16.cell? ⟨gb283, 3, none⟩ = some (.int .i64 a1_3) := (blk_cell BK283.out 3).trans rfl
                    have hfz42_0 := blk_frozen BK283.out 0
                    have hfz42_1 := blk_frozen BK283.out 1
                    have hfz42_2 := blk_frozen BK283.out 2
                    have hfz42_3 := blk_frozen BK283.out 3
                    go_wp2
                    go_meet
                    case rel => exact ⟨_, (true), (by first | rfl | (simp; done) | (simp [*]; done)), H', ⟨by first | omega | exact Nat.le_refl _⟩, ⟨by (with_reducible repeat (first | refine blk_drewN ?_ _ | refine blk_drew ?_ | refine blk_alloc ?_ _)); exact BK282.out⟩, ⟨by (with_reducible repeat (first | refine blk_drewN ?_ _ | refine blk_drew ?_ | refine blk_alloc ?_ _)); exact BK283.out⟩, ⟨by repeat (first | (with_reducible first | exact HB.out | apply below_alloc | apply pw_below_drewN | apply below_drew1 | refine below_set ?_ GE282.out | refine below_set ?_ GE283.out) | exact HB.out)⟩⟩
                · rw [if_neg c23] at H
                  have c23b0 : (a0_2 == a1_2) = false := beq_eq_false_iff_ne.mpr c23
                  have c23b1 : (a0_2 != a1_2) = true := bne_iff_ne.mpr c23
                  have H' := Aside0.mk H
                  clear H
                  have hnb43 := NB282_283.out
                  have hnc43 := NB283_282.out
                  have hcz44_0 : w16.cell? ⟨gb282, 0, none⟩ = some (.int .i64 a0_0) := (blk_cell BK282.out 0).trans rfl
                  have hcz44_1 : w16.cell? ⟨gb282, 1, none⟩ = some (.int .i64 a0_1) := (blk_cell BK282.out 1).trans rfl
                  have hcz44_2 : w16.cell? ⟨gb282, 2, none⟩ = some (.int .i64 a0_2) := (blk_cell BK282.out 2).trans rfl
                  have hcz44_3 : w16.cell? ⟨gb282, 3, none⟩ = some (.int .i64 a0_3) := (blk_cell BK282.out 3).trans rfl
                  have hfz44_0 := blk_frozen BK282.out 0
                  have hfz44_1 := blk_frozen BK282.out 1
                  have hfz44_2 := blk_frozen BK282.out 2
                  have hfz44_3 := blk_frozen BK282.out 3
                  have hcz45_0 : w16.cell? ⟨gb283, 0, none⟩ = some (.int .i64 a1_0) := (blk_cell BK283.out 0).trans rfl
                  have hcz45_1 : w16.cell? ⟨gb283, 1, none⟩ = some (.int .i64 a1_1) := (blk_cell BK283.out 1).trans rfl
                  have hcz45_2 : w16.cell? ⟨gb283, 2, none⟩ = some (.int .i64 a1_2) := (blk_cell BK283.out 2).trans rfl
                  have hcz45_3 : w16.cell? ⟨gb283, 3, none⟩ = some (.int .i64 a1_3) := (blk_cell BK283.out 3).trans rfl
                  have hfz45_0 := blk_frozen BK283.out 0
                  have hfz45_1 := blk_frozen BK283.out 1
                  have hfz45_2 := blk_frozen BK283.out 2
                  have hfz45_3 := blk_frozen BK283.out 3
                  go_wp2
                  go_meet
                  case rel => exact ⟨_, (true), (by first | rfl | (simp; done) | (simp [*]; done)), H', ⟨by first | omega | exact Nat.le_refl _⟩, ⟨by (with_reducible repeat (first | refine blk_drewN ?_ _ | refine blk_drew ?_ | refine blk_alloc ?_ _)); exact BK282.out⟩, ⟨by (with_reducible repeat (first | refine blk_drewN ?_ _ | refine blk_drew ?_ | refine blk_alloc ?_ _)); exact BK283.out⟩, ⟨by repeat (first | (with_reducible first | exact HB.out | apply below_alloc | apply pw_below_drewN | apply below_drew1 | refine below_set ?_ GE282.out | refine below_set ?_ GE283.out) | exact HB.out)⟩⟩
              · rw [if_neg c22] at H
                have c22b0 : (a0_1 == a1_1) = false := beq_eq_false_iff_ne.mpr c22
                have c22b1 : (a0_1 != a1_1) = true := bne_iff_ne.mpr c22
                have H' := Aside0.mk H
                clear H
                have hnb46 := NB282_283.out
                have hnc46 := NB283_282.out
                have hcz47_0 : w16.cell? ⟨gb282, 0, none⟩ = some (.int .i64 a0_0) := (blk_cell BK282.out 0).trans rfl
                have hcz47_1 : w16.cell? ⟨gb282, 1, none⟩ = some (.int .i64 a0_1) := (blk_cell BK282.out 1).trans rfl
                have hcz47_2 : w16.cell? ⟨gb282, 2, none⟩ = some (.int .i64 a0_2) := (blk_cell BK282.out 2).trans rfl
                have hcz47_3 : w16.cell? ⟨gb282, 3, none⟩ = some (.int .i64 a0_3) := (blk_cell BK282.out 3).trans rfl
                have hfz47_0 := blk_frozen BK282.out 0
                have hfz47_1 := blk_frozen BK282.out 1
                have hfz47_2 := blk_frozen BK282.out 2
                have hfz47_3 := blk_frozen BK282.out 3
                have hcz48_0 : w16.cell? ⟨gb283, 0, none⟩ = some (.int .i64 a1_0) := (blk_cell BK283.out 0).trans rfl
                have hcz48_1 : w16.cell? ⟨gb283, 1, none⟩ = some (.int .i64 a1_1) := (blk_cell BK283.out 1).trans rfl
                have hcz48_2 : w16.cell? ⟨gb283, 2, none⟩ = some (.int .i64 a1_2) := (blk_cell BK283.out 2).trans rfl
                have hcz48_3 : w16.cell? ⟨gb283, 3, none⟩ = some (.int .i64 a1_3) := (blk_cell BK283.out 3).trans rfl
                have hfz48_0 := blk_frozen BK283.out 0
                have hfz48_1 := blk_frozen BK283.out 1
                have hfz48_2 := blk_frozen BK283.out 2
                have hfz48_3 := blk_frozen BK283.out 3
                go_wp2
                go_meet
                case rel => exact ⟨_, (true), (by first | rfl | (simp; done) | (simp [*]; done)), H', ⟨by first | omega | exact Nat.le_refl _⟩, ⟨by (with_reducible repeat (first | refine blk_drewN ?_ _ | refine blk_drew ?_ | refine blk_alloc ?_ _)); exact BK282.out⟩, ⟨by (with_reducible repeat (first | refine blk_drewN ?_ _ | refine blk_drew ?_ | refine blk_alloc ?_ _)); exact BK283.out⟩, ⟨by repeat (first | (with_reducible first | exact HB.out | apply below_alloc | apply pw_below_drewN | apply below_drew1 | refine below_set ?_ GE282.out | refine below_set ?_ GE283.out) | exact HB.out)⟩⟩
            · rw [if_neg c21] at H
              have c21b0 : (a0_0 == a1_0) = false := beq_eq_false_iff_ne.mpr c21
              have c21b1 : (a0_0 != a1_0) = true := bne_iff_ne.mpr c21
              have H' := Aside0.mk H
              clear H
              have hnb49 := NB282_283.out
              have hnc49 := NB283_282.out
              have hcz50_0 : w16.cell? ⟨gb282, 0, none⟩ = some (.int .i64 a0_0) := (blk_cell BK282.out 0).trans rfl
              have hcz50_1 : w16.cell? ⟨gb282, 1, none⟩ = some (.int .i64 a0_1) := (blk_cell BK282.out 1).trans rfl
              have hcz50_2 : w16.cell? ⟨gb282, 2, none⟩ = some (.int .i64 a0_2) := (blk_cell BK282.out 2).trans rfl
              have hcz50_3 : w16.cell? ⟨gb282, 3, none⟩ = some (.int .i64 a0_3) := (blk_cell BK282.out 3).trans rfl
              have hfz50_0 := blk_frozen BK282.out 0
              have hfz50_1 := blk_frozen BK282.out 1
              have hfz50_2 := blk_frozen BK282.out 2
              have hfz50_3 := blk_frozen BK282.out 3
              have hcz51_0 : w16.cell? ⟨gb283, 0, none⟩ = some (.int .i64 a1_0) := (blk_cell BK283.out 0).trans rfl
              have hcz51_1 : w16.cell? ⟨gb283, 1, none⟩ = some (.int .i64 a1_1) := (blk_cell BK283.out 1).trans rfl
              have hcz51_2 : w16.cell? ⟨gb283, 2, none⟩ = some (.int .i64 a1_2) := (blk_cell BK283.out 2).trans rfl
              have hcz51_3 : w16.cell? ⟨gb283, 3, none⟩ = some (.int .i64 a1_3) := (blk_cell BK283.out 3).trans rfl
              have hfz51_0 := blk_frozen BK283.out 0
              have hfz51_1 := blk_frozen BK283.out 1
              have hfz51_2 := blk_frozen BK283.out 2
              have hfz51_3 := blk_frozen BK283.out 3
              go_wp2
              go_meet
              case rel => exact ⟨_, (true), (by first | rfl | (simp; done) | (simp [*]; done)), H', ⟨by first | omega | exact Nat.le_refl _⟩, ⟨by (with_reducible repeat (first | refine blk_drewN ?_ _ | refine blk_drew ?_ | refine blk_alloc ?_ _)); exact BK282.out⟩, ⟨by (with_reducible repeat (first | refine blk_drewN ?_ _ | refine blk_drew ?_ | refine blk_alloc ?_ _)); exact BK283.out⟩, ⟨by repeat (first | (with_reducible first | exact HB.out | apply below_alloc | apply pw_below_drewN | apply below_drew1 | refine below_set ?_ GE282.out | refine below_set ?_ GE283.out) | exact HB.out)⟩⟩
          · rw [if_neg c20] at H
            have c20b0 : (t285 == 0) = false := beq_eq_false_iff_ne.mpr c20
            have c20b1 : (t285 != 0) = true := bne_iff_ne.mpr c20
            by_cases c52 : t285 = 1
            · rw [if_pos c52] at H
              have c52b0 : (t285 == 1) = true := beq_iff_eq.mpr c52
              have c52b1 : (t285 != 1) = false := bne_eq_false_iff_eq.mpr c52
              clear c52
              by_cases c53 : t286 = 2
              · rw [if_pos c53] at H
                have c53b0 : (t286 == 2) = true := beq_iff_eq.mpr c53
                have c53b1 : (t286 != 2) = false := bne_eq_false_iff_eq.mpr c53
                clear c53
                by_cases c54 : a0_0 = a1_0
                · rw [if_pos c54] at H
                  have c54b0 : (a0_0 == a1_0) = true := beq_iff_eq.mpr c54
                  have c54b1 : (a0_0 != a1_0) = false := bne_eq_false_iff_eq.mpr c54
                  clear c54
                  by_cases c55 : a0_1 = a1_1
                  · rw [if_pos c55] at H
                    have c55b0 : (a0_1 == a1_1) = true := beq_iff_eq.mpr c55
                    have c55b1 : (a0_1 != a1_1) = false := bne_eq_false_iff_eq.mpr c55
                    clear c55
                    by_cases c56 : a0_2 = a1_2
                    · rw [if_pos c56] at H
                      have c56b0 : (a0_2 == a1_2) = true := beq_iff_eq.mpr c56
                      have c56b1 : (a0_2 != a1_2) = false := bne_eq_false_iff_eq.mpr c56
                      clear c56
                      by_cases c57 : a0_3 = a1_3
                      · rw [if_pos c57] at H
                        have c57b0 : (a0_3 == a1_3) = true := beq_iff_eq.mpr c57
                        have c57b1 : (a0_3 != a1_3) = false := bne_eq_false_iff_eq.mpr c57
                        clear c57
                        have H' := Aside0.mk H
                        clear H
                        have hnb58 := NB282_283.out
                        have hnc58 := NB283_282.out
                        have hcz59_0 : w16.cell? ⟨gb282, 0, none⟩ = some (.int .i64 a0_0) := (blk_cell BK282.out 0).trans rfl
                        have hcz59_1 : w16.cell? ⟨gb282, 1, none⟩ = some (.int .i64 a0_1) := (blk_cell BK282.out 1).trans rfl
                        have hcz59_2 : w16.cell? ⟨gb282, 2, none⟩ = some (.int .i64 a0_2) := (blk_cell BK282.out 2).trans rfl
                        have hcz59_3 : w16.cell? ⟨gb282, 3, none⟩ = some (.int .i64 a0_3) := (blk_cell BK282.out 3).trans rfl
                        have hfz59_0 := blk_frozen BK282.out 0
                        have hfz59_1 := blk_frozen BK282.out 1
                        have hfz59_2 := blk_frozen BK282.out 2
                        have hfz59_3 := blk_frozen BK282.out 3
                        have hcz60_0 : w16.cell? ⟨gb283, 0, none⟩ = some (.int .i64 a1_0) := (blk_cell BK283.out 0).trans rfl
                        have hcz60_1 : w16.cell? ⟨gb283, 1, none⟩ = some (.int .i64 a1_1) := (blk_cell BK283.out 1).trans rfl
                        have hcz60_2 : w16.cell? ⟨gb283, 2, none⟩ = some (.int .i64 a1_2) := (blk_cell BK283.out 2).trans rfl
                        have hcz60_3 : w16.cell? ⟨gb283, 3, none⟩ = some (.int .i64 a1_3) := (blk_cell BK283.out 3).trans rfl
                        have hfz60_0 := blk_frozen BK283.out 0
                        have hfz60_1 := blk_frozen BK283.out 1
                        have hfz60_2 := blk_frozen BK283.out 2
                        have hfz60_3 := blk_frozen BK283.out 3
                        go_wp2
                        go_meet
                        case rel => exact ⟨_, (true), (by first | rfl | (simp; done) | (simp [*]; done)), H', ⟨by first | omega | exact Nat.le_refl _⟩, ⟨by (with_reducible repeat (first | refine blk_drewN ?_ _ | refine blk_drew ?_ | refine blk_alloc ?_ _)); exact BK282.out⟩, ⟨by (with_reducible repeat (first | refine blk_drewN ?_ _ | refine blk_drew ?_ | refine blk_alloc ?_ _)); exact BK283.out⟩, ⟨by repeat (first | (with_reducible first | exact HB.out | apply below_alloc | apply pw_below_drewN | apply below_drew1 | refine below_set ?_ GE282.out | refine below_set ?_ GE283.out) | exact HB.out)⟩⟩
                      · rw [if_neg c57] at H
                        have c57b0 : (a0_3 == a1_3) = false := beq_eq_false_iff_ne.mpr c57
                        have c57b1 : (a0_3 != a1_3) = true := bne_iff_ne.mpr c57
                        by_cases c61 : a1_3 = (wrap64 (a0_3 + 1))
                        · rw [if_pos c61] at H
                          have c61b0 : (a1_3 == (wrap64 (a0_3 + 1))) = true := beq_iff_eq.mpr c61
                          have c61b1 : (a1_3 != (wrap64 (a0_3 + 1))) = false := bne_eq_false_iff_eq.mpr c61
                          clear c61
                          have H' := Aside0.mk H
                          clear H
                          have hnb62 := NB282_283.out
                          have hnc62 := NB283_282.out
                          have hcz63_0 : w16.cell? ⟨gb282, 0, none⟩ = some (.int .i64 a0_0) := (blk_cell BK282.out 0).trans rfl
                          have hcz63_1 : w16.cell? ⟨gb282, 1, none⟩ = some (.int .i64 a0_1) := (blk_cell BK282.out 1).trans rfl
                          have hcz63_2 : w16.cell? ⟨gb282, 2, none⟩ = some (.int .i64 a0_2) := (blk_cell BK282.out 2).trans rfl
                          have hcz63_3 : w16.cell? ⟨gb282, 3, none⟩ = some (.int .i64 a0_3) := (blk_cell BK282.out 3).trans rfl
                          have hfz63_0 := blk_frozen BK282.out 0
                          have hfz63_1 := blk_frozen BK282.out 1
                          have hfz63_2 := blk_frozen BK282.out 2
                          have hfz63_3 := blk_frozen BK282.out 3
                          have hcz64_0 : w16.cell? ⟨gb283, 0, none⟩ = some (.int .i64 a1_0) := (blk_cell BK283.out 0).trans rfl
                          have hcz64_1 : w16.cell? ⟨gb283, 1, none⟩ = some (.int .i64 a1_1) := (blk_cell BK283.out 1).trans rfl
                          have hcz64_2 : w16.cell? ⟨gb283, 2, none⟩ = some (.int .i64 a1_2) := (blk_cell BK283.out 2).trans rfl
                          have hcz64_3 : w16.cell? ⟨gb283, 3, none⟩ = some (.int .i64 a1_3) := (blk_cell BK283.out 3).trans rfl
                          have hfz64_0 := blk_frozen BK283.out 0
                          have hfz64_1 := blk_frozen BK283.out 1
                          have hfz64_2 := blk_frozen BK283.out 2
                          have hfz64_3 := blk_frozen BK283.out 3
                          go_wp2
                          go_meet
                          case rel => exact ⟨_, ((a0_0 != a1_0)), (by first | rfl | (simp; done) | (simp [*]; done)), H', ⟨by first | omega | exact Nat.le_refl _⟩, ⟨by (with_reducible repeat (first | refine blk_drewN ?_ _ | refine blk_drew ?_ | refine blk_alloc ?_ _)); exact BK282.out⟩, ⟨by (with_reducible repeat (first | refine blk_drewN ?_ _ | refine blk_drew ?_ | refine blk_alloc ?_ _)); exact BK283.out⟩, ⟨by repeat (first | (with_reducible first | exact HB.out | apply below_alloc | apply pw_below_drewN | apply below_drew1 | refine below_set ?_ GE282.out | refine below_set ?_ GE283.out) | exact HB.out)⟩⟩
                        · rw [if_neg c61] at H
                          have c61b0 : (a1_3 == (wrap64 (a0_3 + 1))) = false := beq_eq_false_iff_ne.mpr c61
                          have c61b1 : (a1_3 != (wrap64 (a0_3 + 1))) = true := bne_iff_ne.mpr c61
                          have H' := Aside0.mk H
                          clear H
                          have hnb65 := NB282_283.out
                          have hnc65 := NB283_282.out
                          have hcz66_0 : w16.cell? ⟨gb282, 0, none⟩ = some (.int .i64 a0_0) := (blk_cell BK282.out 0).trans rfl
                          have hcz66_1 : w16.cell? ⟨gb282, 1, none⟩ = some (.int .i64 a0_1) := (blk_cell BK282.out 1).trans rfl
                          have hcz66_2 : w16.cell? ⟨gb282, 2, none⟩ = some (.int .i64 a0_2) := (blk_cell BK282.out 2).trans rfl
                          have hcz66_3 : w16.cell? ⟨gb282, 3, none⟩ = some (.int .i64 a0_3) := (blk_cell BK282.out 3).trans rfl
                          have hfz66_0 := blk_frozen BK282.out 0
                          have hfz66_1 := blk_frozen BK282.out 1
                          have hfz66_2 := blk_frozen BK282.out 2
                          have hfz66_3 := blk_frozen BK282.out 3
                          have hcz67_0 : w16.cell? ⟨gb283, 0, none⟩ = some (.int .i64 a1_0) := (blk_cell BK283.out 0).trans rfl
                          have hcz67_1 : w16.cell? ⟨gb283, 1, none⟩ = some (.int .i64 a1_1) := (blk_cell BK283.out 1).trans rfl
                          have hcz67_2 : w16.cell? ⟨gb283, 2, none⟩ = some (.int .i64 a1_2) := (blk_cell BK283.out 2).trans rfl
                          have hcz67_3 : w16.cell? ⟨gb283, 3, none⟩ = some (.int .i64 a1_3) := (blk_cell BK283.out 3).trans rfl
                          have hfz67_0 := blk_frozen BK283.out 0
                          have hfz67_1 := blk_frozen BK283.out 1
                          have hfz67_2 := blk_frozen BK283.out 2
                          have hfz67_3 := blk_frozen BK283.out 3
                          go_wp2
                          go_meet
                          case rel => exact ⟨_, (true), (by first | rfl | (simp; done) | (simp [*]; done)), H', ⟨by first | omega | exact Nat.le_refl _⟩, ⟨by (with_reducible repeat (first | refine blk_drewN ?_ _ | refine blk_drew ?_ | refine blk_alloc ?_ _)); exact BK282.out⟩, ⟨by (with_reducible repeat (first | refine blk_drewN ?_ _ | refine blk_drew ?_ | refine blk_alloc ?_ _)); exact BK283.out⟩, ⟨by repeat (first | (with_reducible first | exact HB.out | apply below_alloc | apply pw_below_drewN | apply below_drew1 | refine below_set ?_ GE282.out | refine below_set ?_ GE283.out) | exact HB.out)⟩⟩
                    · rw [if_neg c56] at H
                      have c56b0 : (a0_2 == a1_2) = false := beq_eq_false_iff_ne.mpr c56
                      have c56b1 : (a0_2 != a1_2) = true := bne_iff_ne.mpr c56
                      by_cases c68 : a1_3 = (wrap64 (a0_3 + 1))
                      · rw [if_pos c68] at H
                        have c68b0 : (a1_3 == (wrap64 (a0_3 + 1))) = true := beq_iff_eq.mpr c68
                        have c68b1 : (a1_3 != (wrap64 (a0_3 + 1))) = false := bne_eq_false_iff_eq.mpr c68
                        clear c68
                        have H' := Aside0.mk H
                        clear H
                        have hnb69 := NB282_283.out
                        have hnc69 := NB283_282.out
                        have hcz70_0 : w16.cell? ⟨gb282, 0, none⟩ = some (.int .i64 a0_0) := (blk_cell BK282.out 0).trans rfl
                        have hcz70_1 : w16.cell? ⟨gb282, 1, none⟩ = some (.int .i64 a0_1) := (blk_cell BK282.out 1).trans rfl
                        have hcz70_2 : w16.cell? ⟨gb282, 2, none⟩ = some (.int .i64 a0_2) := (blk_cell BK282.out 2).trans rfl
                        have hcz70_3 : w16.cell? ⟨gb282, 3, none⟩ = some (.int .i64 a0_3) := (blk_cell BK282.out 3).trans rfl
                        have hfz70_0 := blk_frozen BK282.out 0
                        have hfz70_1 := blk_frozen BK282.out 1
                        have hfz70_2 := blk_frozen BK282.out 2
                        have hfz70_3 := blk_frozen BK282.out 3
                        have hcz71_0 : w16.cell? ⟨gb283, 0, none⟩ = some (.int .i64 a1_0) := (blk_cell BK283.out 0).trans rfl
                        have hcz71_1 : w16.cell? ⟨gb283, 1, none⟩ = some (.int .i64 a1_1) := (blk_cell BK283.out 1).trans rfl
                        have hcz71_2 : w16.cell? ⟨gb283, 2, none⟩ = some (.int .i64 a1_2) := (blk_cell BK283.out 2).trans rfl
                        have hcz71_3 : w16.cell? ⟨gb283, 3, none⟩ = some (.int .i64 a1_3) := (blk_cell BK283.out 3).trans rfl
                        have hfz71_0 := blk_frozen BK283.out 0
                        have hfz71_1 := blk_frozen BK283.out 1
                        have hfz71_2 := blk_frozen BK283.out 2
                        have hfz71_3 := blk_frozen BK283.out 3
                        go_wp2
                        go_meet
                        case rel => exact ⟨_, ((a0_0 != a1_0)), (by first | rfl | (simp; done) | (simp [*]; done)), H', ⟨by first | omega | exact Nat.le_refl _⟩, ⟨by (with_reducible repeat (first | refine blk_drewN ?_ _ | refine blk_drew ?_ | refine blk_alloc ?_ _)); exact BK282.out⟩, ⟨by (with_reducible repeat (first | refine blk_drewN ?_ _ | refine blk_drew ?_ | refine blk_alloc ?_ _)); exact BK283.out⟩, ⟨by repeat (first | (with_reducible first | exact HB.out | apply below_alloc | apply pw_below_drewN | apply below_drew1 | refine below_set ?_ GE282.out | refine below_set ?_ GE283.out) | exact HB.out)⟩⟩
                      · rw [if_neg c68] at H
                        have c68b0 : (a1_3 == (wrap64 (a0_3 + 1))) = false := beq_eq_false_iff_ne.mpr c68
                        have c68b1 : (a1_3 != (wrap64 (a0_3 + 1))) = true := bne_iff_ne.mpr c68
                        have H' := Aside0.mk H
                        clear H
                        have hnb72 := NB282_283.out
                        have hnc72 := NB283_282.out
                        have hcz73_0 : w16.cell? ⟨gb282, 0, none⟩ = some (.int .i64 a0_0) := (blk_cell BK282.out 0).trans rfl
                        have hcz73_1 : w16.cell? ⟨gb282, 1, none⟩ = some (.int .i64 a0_1) := (blk_cell BK282.out 1).trans rfl
                        have hcz73_2 : w16.cell? ⟨gb282, 2, none⟩ = some (.int .i64 a0_2) := (blk_cell BK282.out 2).trans rfl
                        have hcz73_3 : w16.cell? ⟨gb282, 3, none⟩ = some (.int .i64 a0_3) := (blk_cell BK282.out 3).trans rfl
                        have hfz73_0 := blk_frozen BK282.out 0
                        have hfz73_1 := blk_frozen BK282.out 1
                        have hfz73_2 := blk_frozen BK282.out 2
                        have hfz73_3 := blk_frozen BK282.out 3
                        have hcz74_0 : w16.cell? ⟨gb283, 0, none⟩ = some (.int .i64 a1_0) := (blk_cell BK283.out 0).trans rfl
                        have hcz74_1 : w16.cell? ⟨gb283, 1, none⟩ = some (.int .i64 a1_1) := (blk_cell BK283.out 1).trans rfl
                        have hcz74_2 : w16.cell? ⟨gb283, 2, none⟩ = some (.int .i64 a1_2) := (blk_cell BK283.out 2).trans rfl
                        have hcz74_3 : w16.cell? ⟨gb283, 3, none⟩ = some (.int .i64 a1_3) := (blk_cell BK283.out 3).trans rfl
                        have hfz74_0 := blk_frozen BK283.out 0
                        have hfz74_1 := blk_frozen BK283.out 1
                        have hfz74_2 := blk_frozen BK283.out 2
                        have hfz74_3 := blk_frozen BK283.out 3
                        go_wp2
                        go_meet
                        case rel => exact ⟨_, (true), (by first | rfl | (simp; done) | (simp [*]; done)), H', ⟨by first | omega | exact Nat.le_refl _⟩, ⟨by (with_reducible repeat (first | refine blk_drewN ?_ _ | refine blk_drew ?_ | refine blk_alloc ?_ _)); exact BK282.out⟩, ⟨by (with_reducible repeat (first | refine blk_drewN ?_ _ | refine blk_drew ?_ | refine blk_alloc ?_ _)); exact BK283.out⟩, ⟨by repeat (first | (with_reducible first | exact HB.out | apply below_alloc | apply pw_below_drewN | apply below_drew1 | refine below_set ?_ GE282.out | refine below_set ?_ GE283.out) | exact HB.out)⟩⟩
                  · rw [if_neg c55] at H
                    have c55b0 : (a0_1 == a1_1) = false := beq_eq_false_iff_ne.mpr c55
                    have c55b1 : (a0_1 != a1_1) = true := bne_iff_ne.mpr c55
                    by_cases c75 : a1_3 = (wrap64 (a0_3 + 1))
                    · rw [if_pos c75] at H
                      have c75b0 : (a1_3 == (wrap64 (a0_3 + 1))) = true := beq_iff_eq.mpr c75
                      have c75b1 : (a1_3 != (wrap64 (a0_3 + 1))) = false := bne_eq_false_iff_eq.mpr c75
                      clear c75
                      have H' := Aside0.mk H
                      clear H
                      have hnb76 := NB282_283.out
                      have hnc76 := NB283_282.out
                      have hcz77_0 : w16.cell? ⟨gb282, 0, none⟩ = some (.int .i64 a0_0) := (blk_cell BK282.out 0).trans rfl
                      have hcz77_1 : w16.cell? ⟨gb282, 1, none⟩ = some (.int .i64 a0_1) := (blk_cell BK282.out 1).trans rfl
                      have hcz77_2 : w16.cell? ⟨gb282, 2, none⟩ = some (.int .i64 a0_2) := (blk_cell BK282.out 2).trans rfl
                      have hcz77_3 : w16.cell? ⟨gb282, 3, none⟩ = some (.int .i64 a0_3) := (blk_cell BK282.out 3).trans rfl
                      have hfz77_0 := blk_frozen BK282.out 0
                      have hfz77_1 := blk_frozen BK282.out 1
                      have hfz77_2 := blk_frozen BK282.out 2
                      have hfz77_3 := blk_frozen BK282.out 3
                      have hcz78_0 : w16.cell? ⟨gb283, 0, none⟩ = some (.int .i64 a1_0) := (blk_cell BK283.out 0).trans rfl
                      have hcz78_1 : w16.cell? ⟨gb283, 1, none⟩ = some (.int .i64 a1_1) := (blk_cell BK283.out 1).trans rfl
                      have hcz78_2 : w16.cell? ⟨gb283, 2, none⟩ = some (.int .i64 a1_2) := (blk_cell BK283.out 2).trans rfl
                      have hcz78_3 : w16.cell? ⟨gb283, 3, none⟩ = some (.int .i64 a1_3) := (blk_cell BK283.out 3).trans rfl
                      have hfz78_0 := blk_frozen BK283.out 0
                      have hfz78_1 := blk_frozen BK283.out 1
                      have hfz78_2 := blk_frozen BK283.out 2
                      have hfz78_3 := blk_frozen BK283.out 3
                      go_wp2
                      go_meet
                      case rel => exact ⟨_, ((a0_0 != a1_0)), (by first | rfl | (simp; done) | (simp [*]; done)), H', ⟨by first | omega | exact Nat.le_refl _⟩, ⟨by (with_reducible repeat (first | refine blk_drewN ?_ _ | refine blk_drew ?_ | refine blk_alloc ?_ _)); exact BK282.out⟩, ⟨by (with_reducible repeat (first | refine blk_drewN ?_ _ | refine blk_drew ?_ | refine blk_alloc ?_ _)); exact BK283.out⟩, ⟨by repeat (first | (with_reducible first | exact HB.out | apply below_alloc | apply pw_below_drewN | apply below_drew1 | refine below_set ?_ GE282.out | refine below_set ?_ GE283.out) | exact HB.out)⟩⟩
                    · rw [if_neg c75] at H
                      have c75b0 : (a1_3 == (wrap64 (a0_3 + 1))) = false := beq_eq_false_iff_ne.mpr c75
                      have c75b1 : (a1_3 != (wrap64 (a0_3 + 1))) = true := bne_iff_ne.mpr c75
                      have H' := Aside0.mk H
                      clear H
                      have hnb79 := NB282_283.out
                      have hnc79 := NB283_282.out
                      have hcz80_0 : w16.cell? ⟨gb282, 0, none⟩ = some (.int .i64 a0_0) := (blk_cell BK282.out 0).trans rfl
                      have hcz80_1 : w16.cell? ⟨gb282, 1, none⟩ = some (.int .i64 a0_1) := (blk_cell BK282.out 1).trans rfl
                      have hcz80_2 : w16.cell? ⟨gb282, 2, none⟩ = some (.int .i64 a0_2) := (blk_cell BK282.out 2).trans rfl
                      have hcz80_3 : w16.cell? ⟨gb282, 3, none⟩ = some (.int .i64 a0_3) := (blk_cell BK282.out 3).trans rfl
                      have hfz80_0 := blk_frozen BK282.out 0
                      have hfz80_1 := blk_frozen BK282.out 1
                      have hfz80_2 := blk_frozen BK282.out 2
                      have hfz80_3 := blk_frozen BK282.out 3
                      have hcz81_0 : w16.cell? ⟨gb283, 0, none⟩ = some (.int .i64 a1_0) := (blk_cell BK283.out 0).trans rfl
                      have hcz81_1 : w16.cell? ⟨gb283, 1, none⟩ = some (.int .i64 a1_1) := (blk_cell BK283.out 1).trans rfl
                      have hcz81_2 : w16.cell? ⟨gb283, 2, none⟩ = some (.int .i64 a1_2) := (blk_cell BK283.out 2).trans rfl
                      have hcz81_3 : w16.cell? ⟨gb283, 3, none⟩ = some (.int .i64 a1_3) := (blk_cell BK283.out 3).trans rfl
                      have hfz81_0 := blk_frozen BK283.out 0
                      have hfz81_1 := blk_frozen BK283.out 1
                      have hfz81_2 := blk_frozen BK283.out 2
                      have hfz81_3 := blk_frozen BK283.out 3
                      go_wp2
                      go_meet
                      case rel => exact ⟨_, (true), (by first | rfl | (simp; done) | (simp [*]; done)), H', ⟨by first | omega | exact Nat.le_refl _⟩, ⟨by (with_reducible repeat (first | refine blk_drewN ?_ _ | refine blk_drew ?_ | refine blk_alloc ?_ _)); exact BK282.out⟩, ⟨by (with_reducible repeat (first | refine blk_drewN ?_ _ | refine blk_drew ?_ | refine blk_alloc ?_ _)); exact BK283.out⟩, ⟨by repeat (first | (with_reducible first | exact HB.out | apply below_alloc | apply pw_below_drewN | apply below_drew1 | refine below_set ?_ GE282.out | refine below_set ?_ GE283.out) | exact HB.out)⟩⟩
                · rw [if_neg c54] at H
                  have c54b0 : (a0_0 == a1_0) = false := beq_eq_false_iff_ne.mpr c54
                  have c54b1 : (a0_0 != a1_0) = true := bne_iff_ne.mpr c54
                  by_cases c82 : a1_3 = (wrap64 (a0_3 + 1))
                  · rw [if_pos c82] at H
                    have c82b0 : (a1_3 == (wrap64 (a0_3 + 1))) = true := beq_iff_eq.mpr c82
                    have c82b1 : (a1_3 != (wrap64 (a0_3 + 1))) = false := bne_eq_false_iff_eq.mpr c82
                    clear c82
                    have H' := Aside0.mk H
                    clear H
                    have hnb83 := NB282_283.out
                    have hnc83 := NB283_282.out
                    have hcz84_0 : w16.cell? ⟨gb282, 0, none⟩ = some (.int .i64 a0_0) := (blk_cell BK282.out 0).trans rfl
                    have hcz84_1 : w16.cell? ⟨gb282, 1, none⟩ = some (.int .i64 a0_1) := (blk_cell BK282.out 1).trans rfl
                    have hcz84_2 : w16.cell? ⟨gb282, 2, none⟩ = some (.int .i64 a0_2) := (blk_cell BK282.out 2).trans rfl
                    have hcz84_3 : w16.cell? ⟨gb282, 3, none⟩ = some (.int .i64 a0_3) := (blk_cell BK282.out 3).trans rfl
                    have hfz84_0 := blk_frozen BK282.out 0
                    have hfz84_1 := blk_frozen BK282.out 1
                    have hfz84_2 := blk_frozen BK282.out 2
                    have hfz84_3 := blk_frozen BK282.out 3
                    have hcz85_0 : w16.cell? ⟨gb283, 0, none⟩ = some (.int .i64 a1_0) := (blk_cell BK283.out 0).trans rfl
                    have hcz85_1 : w16.cell? ⟨gb283, 1, none⟩ = some (.int .i64 a1_1) := (blk_cell BK283.out 1).trans rfl
                    have hcz85_2 : w16.cell? ⟨gb283, 2, none⟩ = some (.int .i64 a1_2) := (blk_cell BK283.out 2).trans rfl
                    have hcz85_3 : w16.cell? ⟨gb283, 3, none⟩ = some (.int .i64 a1_3) := (blk_cell BK283.out 3).trans rfl
                    have hfz85_0 := blk_frozen BK283.out 0
                    have hfz85_1 := blk_frozen BK283.out 1
                    have hfz85_2 := blk_frozen BK283.out 2
                    have hfz85_3 := blk_frozen BK283.out 3
                    go_wp2
                    go_meet
                    case rel => exact ⟨_, ((a0_0 != a1_0)), (by first | rfl | (simp; done) | (simp [*]; done)), H', ⟨by first | omega | exact Nat.le_refl _⟩, ⟨by (with_reducible repeat (first | refine blk_drewN ?_ _ | refine blk_drew ?_ | refine blk_alloc ?_ _)); exact BK282.out⟩, ⟨by (with_reducible repeat (first | refine blk_drewN ?_ _ | refine blk_drew ?_ | refine blk_alloc ?_ _)); exact BK283.out⟩, ⟨by repeat (first | (with_reducible first | exact HB.out | apply below_alloc | apply pw_below_drewN | apply below_drew1 | refine below_set ?_ GE282.out | refine below_set ?_ GE283.out) | exact HB.out)⟩⟩
                  · rw [if_neg c82] at H
                    have c82b0 : (a1_3 == (wrap64 (a0_3 + 1))) = false := beq_eq_false_iff_ne.mpr c82
                    have c82b1 : (a1_3 != (wrap64 (a0_3 + 1))) = true := bne_iff_ne.mpr c82
                    have H' := Aside0.mk H
                    clear H
                    have hnb86 := NB282_283.out
                    have hnc86 := NB283_282.out
                    have hcz87_0 : w16.cell? ⟨gb282, 0, none⟩ = some (.int .i64 a0_0) := (blk_cell BK282.out 0).trans rfl
                    have hcz87_1 : w16.cell? ⟨gb282, 1, none⟩ = some (.int .i64 a0_1) := (blk_cell BK282.out 1).trans rfl
                    have hcz87_2 : w16.cell? ⟨gb282, 2, none⟩ = some (.int .i64 a0_2) := (blk_cell BK282.out 2).trans rfl
                    have hcz87_3 : w16.cell? ⟨gb282, 3, none⟩ = some (.int .i64 a0_3) := (blk_cell BK282.out 3).trans rfl
                    have hfz87_0 := blk_frozen BK282.out 0
                    have hfz87_1 := blk_frozen BK282.out 1
                    have hfz87_2 := blk_frozen BK282.out 2
                    have hfz87_3 := blk_frozen BK282.out 3
                    have hcz88_0 : w16.cell? ⟨gb283, 0, none⟩ = some (.int .i64 a1_0) := (blk_cell BK283.out 0).trans rfl
                    have hcz88_1 : w16.cell? ⟨gb283, 1, none⟩ = some (.int .i64 a1_1) := (blk_cell BK283.out 1).trans rfl
                    have hcz88_2 : w16.cell? ⟨gb283, 2, none⟩ = some (.int .i64 a1_2) := (blk_cell BK283.out 2).trans rfl
                    have hcz88_3 : w16.cell? ⟨gb283, 3, none⟩ = some (.int .i64 a1_3) := (blk_cell BK283.out 3).trans rfl
                    have hfz88_0 := blk_frozen BK283.out 0
                    have hfz88_1 := blk_frozen BK283.out 1
                    have hfz88_2 := blk_frozen BK283.out 2
                    have hfz88_3 := blk_frozen BK283.out 3
                    go_wp2
                    go_meet
                    case rel => exact ⟨_, (true), (by first | rfl | (simp; done) | (simp [*]; done)), H', ⟨by first | omega | exact Nat.le_refl _⟩, ⟨by (with_reducible repeat (first | refine blk_drewN ?_ _ | refine blk_drew ?_ | refine blk_alloc ?_ _)); exact BK282.out⟩, ⟨by (with_reducible repeat (first | refine blk_drewN ?_ _ | refine blk_drew ?_ | refine blk_alloc ?_ _)); exact BK283.out⟩, ⟨by repeat (first | (with_reducible first | exact HB.out | apply below_alloc | apply pw_below_drewN | apply below_drew1 | refine below_set ?_ GE282.out | refine below_set ?_ GE283.out) | exact HB.out)⟩⟩
              · rw [if_neg c53] at H
                have c53b0 : (t286 == 2) = false := beq_eq_false_iff_ne.mpr c53
                have c53b1 : (t286 != 2) = true := bne_iff_ne.mpr c53
                have H' := Aside0.mk H
                clear H
                go_wp2
                go_meet
                case rel => exact ⟨_, (true), (by first | rfl | (simp; done) | (simp [*]; done)), H', ⟨by first | omega | exact Nat.le_refl _⟩, ⟨by (with_reducible repeat (first | refine blk_drewN ?_ _ | refine blk_drew ?_ | refine blk_alloc ?_ _)); exact BK282.out⟩, ⟨by (with_reducible repeat (first | refine blk_drewN ?_ _ | refine blk_drew ?_ | refine blk_alloc ?_ _)); exact BK283.out⟩, ⟨by repeat (first | (with_reducible first | exact HB.out | apply below_alloc | apply pw_below_drewN | apply below_drew1 | refine below_set ?_ GE282.out | refine below_set ?_ GE283.out) | exact HB.out)⟩⟩
            · rw [if_neg c52] at H
              have c52b0 : (t285 == 1) = false := beq_eq_false_iff_ne.mpr c52
              have c52b1 : (t285 != 1) = true := bne_iff_ne.mpr c52
              have H' := Aside0.mk H
              clear H
              go_wp2
              go_meet
              case rel => exact ⟨_, (false), (by first | rfl | (simp; done) | (simp [*]; done)), H', ⟨by first | omega | exact Nat.le_refl _⟩, ⟨by (with_reducible repeat (first | refine blk_drewN ?_ _ | refine blk_drew ?_ | refine blk_alloc ?_ _)); exact BK282.out⟩, ⟨by (with_reducible repeat (first | refine blk_drewN ?_ _ | refine blk_drew ?_ | refine blk_alloc ?_ _)); exact BK283.out⟩, ⟨by repeat (first | (with_reducible first | exact HB.out | apply below_alloc | apply pw_below_drewN | apply below_drew1 | refine below_set ?_ GE282.out | refine below_set ?_ GE283.out) | exact HB.out)⟩⟩
    · replace c17 := Bool.eq_false_iff.mpr c17
      subst c17
      have H1 : (drydocklaw04_SchemaSteps.j0 k t285 true a0_0 a0_1 a0_2 a0_3 a1_0 a1_1 a1_2 a1_3) = some r := by rw [if_neg (show ¬ (false = true) by decide)] at H; exact H
      clear H
      have H := H1
      clear H1
      have H' := Aside0.mk H
      clear H
      go_wp2
      go_meet
      case rel => exact ⟨_, (true), (by first | rfl | (simp; done) | (simp [*]; done)), H', ⟨by first | omega | exact Nat.le_refl _⟩, ⟨by (with_reducible repeat (first | refine blk_drewN ?_ _ | refine blk_drew ?_ | refine blk_alloc ?_ _)); exact BK282.out⟩, ⟨by (with_reducible repeat (first | refine blk_drewN ?_ _ | refine blk_drew ?_ | refine blk_alloc ?_ _)); exact BK283.out⟩, ⟨by repeat (first | (with_reducible first | exact HB.out | apply below_alloc | apply pw_below_drewN | apply below_drew1 | refine below_set ?_ GE282.out | refine below_set ?_ GE283.out) | exact HB.out)⟩⟩
  case rest =>
    clear HC6
    try clear c1
    try clear c2
    try clear p2
    try clear c3
    try clear c4
    try clear c5
    try clear c6
    try clear p6
    try clear c7
    try clear c8
    try clear c9
    try clear c10
    try clear c17
    try clear c18
    try clear c18b0
    try clear c19
    try clear c19b0
    try clear c20
    try clear c20b0
    try clear c20b1
    try clear c21
    try clear c21b0
    try clear c21b1
    try clear c22
    try clear c22b0
    try clear c22b1
    try clear c23
    try clear c23b0
    try clear c23b1
    try clear c24
    try clear c24b0
    try clear c24b1
    try clear c25
    try clear c25b0
    try clear c25b1
    try clear c26
    try clear c26b0
    try clear c26b1
    try clear c27
    try clear c27b0
    try clear c27b1
    try clear c28
    try clear c31
    try clear c34
    try clear c37
    try clear c40
    try clear c43
    try clear c46
    try clear c49
    try clear c52
    try clear c52b0
    try clear c52b1
    try clear c53
    try clear c53b0
    try clear c53b1
    try clear c54
    try clear c54b0
    try clear c54b1
    try clear c55
    try clear c55b0
    try clear c55b1
    try clear c56
    try clear c56b0
    try clear c56b1
    try clear c57
    try clear c57b0
    try clear c57b1
    try clear c58
    try clear c61
    try clear c61b0
    try clear c61b1
    try clear c62
    try clear p64
    try clear c65
    try clear c68
    try clear c68b0
    try clear c68b1
    try clear c69
    try clear c72
    try clear c75
    try clear c75b0
    try clear c75b1
    try clear c76
    try clear c79
    try clear c82
    try clear c82b0
    try clear c82b1
    try clear c83
    try clear c86
    try clear hcz11_0
    try clear hcz11_1
    try clear hcz11_2
    try clear hcz11_3
    try clear hcz12_0
    try clear hcz12_1
    try clear hcz12_2
    try clear hcz12_3
    try clear hcz14_0
    try clear hcz14_1
    try clear hcz14_2
    try clear hcz14_3
    try clear hcz15_0
    try clear hcz15_1
    try clear hcz15_2
    try clear hcz15_3
    try clear hcz29_0
    try clear hcz29_1
    try clear hcz29_2
    try clear hcz29_3
    try clear hcz30_0
    try clear hcz30_1
    try clear hcz30_2
    try clear hcz30_3
    try clear hcz32_0
    try clear hcz32_1
    try clear hcz32_2
    try clear hcz32_3
    try clear hcz33_0
    try clear hcz33_1
    try clear hcz33_2
    try clear hcz33_3
    try clear hcz35_0
    try clear hcz35_1
    try clear hcz35_2
    try clear hcz35_3
    try clear hcz36_0
    try clear hcz36_1
    try clear hcz36_2
    try clear hcz36_3
    try clear hcz38_0
    try clear hcz38_1
    try clear hcz38_2
    try clear hcz38_3
    try clear hcz39_0
    try clear hcz39_1
    try clear hcz39_2
    try clear hcz39_3
    try clear hcz41_0
    try clear hcz41_1
    try clear hcz41_2
    try clear hcz41_3
    try clear hcz42_0
    try clear hcz42_1
    try clear hcz42_2
    try clear hcz42_3
    try clear hcz44_0
    try clear hcz44_1
    try clear hcz44_2
    try clear hcz44_3
    try clear hcz45_0
    try clear hcz45_1
    try clear hcz45_2
    try clear hcz45_3
    try clear hcz47_0
    try clear hcz47_1
    try clear hcz47_2
    try clear hcz47_3
    try clear hcz48_0
    try clear hcz48_1
    try clear hcz48_2
    try clear hcz48_3
    try clear hcz50_0
    try clear hcz50_1
    try clear hcz50_2
    try clear hcz50_3
    try clear hcz51_0
    try clear hcz51_1
    try clear hcz51_2
    try clear hcz51_3
    try clear hcz59_0
    try clear hcz59_1
    try clear hcz59_2
    try clear hcz59_3
    try clear hcz60_0
    try clear hcz60_1
    try clear hcz60_2
    try clear hcz60_3
    try clear hcz63_0
    try clear hcz63_1
    try clear hcz63_2
    try clear hcz63_3
    try clear hcz64_0
    try clear hcz64_1
    try clear hcz64_2
    try clear hcz64_3
    try clear hcz66_0
    try clear hcz66_1
    try clear hcz66_2
    try clear hcz66_3
    try clear hcz67_0
    try clear hcz67_1
    try clear hcz67_2
    try clear hcz67_3
    try clear hcz70_0
    try clear hcz70_1
    try clear hcz70_2
    try clear hcz70_3
    try clear hcz71_0
    try clear hcz71_1
    try clear hcz71_2
    try clear hcz71_3
    try clear hcz73_0
    try clear hcz73_1
    try clear hcz73_2
    try clear hcz73_3
    try clear hcz74_0
    try clear hcz74_1
    try clear hcz74_2
    try clear hcz74_3
    try clear hcz77_0
    try clear hcz77_1
    try clear hcz77_2
    try clear hcz77_3
    try clear hcz78_0
    try clear hcz78_1
    try clear hcz78_2
    try clear hcz78_3
    try clear hcz80_0
    try clear hcz80_1
    try clear hcz80_2
    try clear hcz80_3
    try clear hcz81_0
    try clear hcz81_1
    try clear hcz81_2
    try clear hcz81_3
    try clear hcz84_0
    try clear hcz84_1
    try clear hcz84_2
    try clear hcz84_3
    try clear hcz85_0
    try clear hcz85_1
    try clear hcz85_2
    try clear hcz85_3
    try clear hcz87_0
    try clear hcz87_1
    try clear hcz87_2
    try clear hcz87_3
    try clear hcz88_0
    try clear hcz88_1
    try clear hcz88_2
    try clear hcz88_3
    try clear hfz11_0
    try clear hfz11_1
    try clear hfz11_2
    try clear hfz11_3
    try clear hfz12_0
    try clear hfz12_1
    try clear hfz12_2
    try clear hfz12_3
    try clear hfz14_0
    try clear hfz14_1
    try clear hfz14_2
    try clear hfz14_3
    try clear hfz15_0
    try clear hfz15_1
    try clear hfz15_2
    try clear hfz15_3
    try clear hfz29_0
    try clear hfz29_1
    try clear hfz29_2
    try clear hfz29_3
    try clear hfz30_0
    try clear hfz30_1
    try clear hfz30_2
    try clear hfz30_3
    try clear hfz32_0
    try clear hfz32_1
    try clear hfz32_2
    try clear hfz32_3
    try clear hfz33_0
    try clear hfz33_1
    try clear hfz33_2
    try clear hfz33_3
    try clear hfz35_0
    try clear hfz35_1
    try clear hfz35_2
    try clear hfz35_3
    try clear hfz36_0
    try clear hfz36_1
    try clear hfz36_2
    try clear hfz36_3
    try clear hfz38_0
    try clear hfz38_1
    try clear hfz38_2
    try clear hfz38_3
    try clear hfz39_0
    try clear hfz39_1
    try clear hfz39_2
    try clear hfz39_3
    try clear hfz41_0
    try clear hfz41_1
    try clear hfz41_2
    try clear hfz41_3
    try clear hfz42_0
    try clear hfz42_1
    try clear hfz42_2
    try clear hfz42_3
    try clear hfz44_0
    try clear hfz44_1
    try clear hfz44_2
    try clear hfz44_3
    try clear hfz45_0
    try clear hfz45_1
    try clear hfz45_2
    try clear hfz45_3
    try clear hfz47_0
    try clear hfz47_1
    try clear hfz47_2
    try clear hfz47_3
    try clear hfz48_0
    try clear hfz48_1
    try clear hfz48_2
    try clear hfz48_3
    try clear hfz50_0
    try clear hfz50_1
    try clear hfz50_2
    try clear hfz50_3
    try clear hfz51_0
    try clear hfz51_1
    try clear hfz51_2
    try clear hfz51_3
    try clear hfz59_0
    try clear hfz59_1
    try clear hfz59_2
    try clear hfz59_3
    try clear hfz60_0
    try clear hfz60_1
    try clear hfz60_2
    try clear hfz60_3
    try clear hfz63_0
    try clear hfz63_1
    try clear hfz63_2
    try clear hfz63_3
    try clear hfz64_0
    try clear hfz64_1
    try clear hfz64_2
    try clear hfz64_3
    try clear hfz66_0
    try clear hfz66_1
    try clear hfz66_2
    try clear hfz66_3
    try clear hfz67_0
    try clear hfz67_1
    try clear hfz67_2
    try clear hfz67_3
    try clear hfz70_0
    try clear hfz70_1
    try clear hfz70_2
    try clear hfz70_3
    try clear hfz71_0
    try clear hfz71_1
    try clear hfz71_2
    try clear hfz71_3
    try clear hfz73_0
    try clear hfz73_1
    try clear hfz73_2
    try clear hfz73_3
    try clear hfz74_0
    try clear hfz74_1
    try clear hfz74_2
    try clear hfz74_3
    try clear hfz77_0
    try clear hfz77_1
    try clear hfz77_2
    try clear hfz77_3
    try clear hfz78_0
    try clear hfz78_1
    try clear hfz78_2
    try clear hfz78_3
    try clear hfz80_0
    try clear hfz80_1
    try clear hfz80_2
    try clear hfz80_3
    try clear hfz81_0
    try clear hfz81_1
    try clear hfz81_2
    try clear hfz81_3
    try clear hfz84_0
    try clear hfz84_1
    try clear hfz84_2
    try clear hfz84_3
    try clear hfz85_0
    try clear hfz85_1
    try clear hfz85_2
    try clear hfz85_3
    try clear hfz87_0
    try clear hfz87_1
    try clear hfz87_2
    try clear hfz87_3
    try clear hfz88_0
    try clear hfz88_1
    try clear hfz88_2
    try clear hfz88_3
    obtain ⟨kq, x65_5, rfl, HA, HJ5, BK282, BK283, HB⟩ := hcut
    cases kq with
    | zero => exact absurd HA.out (by simp [drydocklaw04_SchemaSteps.j0])
    | succ kj5 =>
      have H := HA.out
      clear HA
      simp only [drydocklaw04_SchemaSteps.j0] at H
      by_cases c89 : x65_5 = true
      · subst c89
        have H1 : (none) = some r := by rw [if_pos rfl] at H; exact H
        clear H
        have H := H1
        clear H1
        exact absurd H (by simp)
      · replace c89 := Bool.eq_false_iff.mpr c89
        subst c89
        have H1 : ((schema_May.f kj5 a0_0 a0_1 a0_2 a0_3).bind fun t287 => (if t287 = true then ((schema_May.f kj5 a1_0 a1_1 a1_2 a1_3).bind fun t288 => (if t288 = true then ((schema_Step.f kj5 a0_0 a0_1 a0_2 a0_3 a0_0 a0_1 a0_2 a0_3).bind fun t289 => (if t289 = 0 then (if t285 = 2 then (if a0_0 = a1_0 then (if a0_1 = a1_1 then (if a0_2 = a1_2 then (if a0_3 = a1_3 then (none) else (some true)) else (some true)) else (some true)) else (some true)) else (some true)) else (none))) else (some (t285 == 2)))) else (some (t285 == 2)))) = some r := by rw [if_neg (show ¬ (false = true) by decide)] at H; exact H
        clear H
        have H := H1
        clear H1
        replace H := Option.bind_eq_some_iff.mp H
        obtain ⟨t287, A900, H⟩ := H
        replace H : (if t287 = true then ((schema_May.f kj5 a1_0 a1_1 a1_2 a1_3).bind fun t288 => (if t288 = true then ((schema_Step.f kj5 a0_0 a0_1 a0_2 a0_3 a0_0 a0_1 a0_2 a0_3).bind fun t289 => (if t289 = 0 then (if t285 = 2 then (if a0_0 = a1_0 then (if a0_1 = a1_1 then (if a0_2 = a1_2 then (if a0_3 = a1_3 then (none) else (some true)) else (some true)) else (some true)) else (some true)) else (some true)) else (none))) else (some (t285 == 2)))) else (some (t285 == 2))) = some r := H
        have A90 := Aside0.mk A900
        clear A900
        by_cases c91 : t287 = true
        · subst c91
          have H1 : ((schema_May.f kj5 a1_0 a1_1 a1_2 a1_3).bind fun t288 => (if t288 = true then ((schema_Step.f kj5 a0_0 a0_1 a0_2 a0_3 a0_0 a0_1 a0_2 a0_3).bind fun t289 => (if t289 = 0 then (if t285 = 2 then (if a0_0 = a1_0 then (if a0_1 = a1_1 then (if a0_2 = a1_2 then (if a0_3 = a1_3 then (none) else (some true)) else (some true)) else (some true)) else (some true)) else (some true)) else (none))) else (some (t285 == 2)))) = some r := by rw [if_pos rfl] at H; exact H
          clear H
          have H := H1
          clear H1
          replace H := Option.bind_eq_some_iff.mp H
          obtain ⟨t288, A920, H⟩ := H
          replace H : (if t288 = true then ((schema_Step.f kj5 a0_0 a0_1 a0_2 a0_3 a0_0 a0_1 a0_2 a0_3).bind fun t289 => (if t289 = 0 then (if t285 = 2 then (if a0_0 = a1_0 then (if a0_1 = a1_1 then (if a0_2 = a1_2 then (if a0_3 = a1_3 then (none) else (some true)) else (some true)) else (some true)) else (some true)) else (some true)) else (none))) else (some (t285 == 2))) = some r := H
          have A92 := Aside0.mk A920
          clear A920
          by_cases c93 : t288 = true
          · subst c93
            have H1 : ((schema_Step.f kj5 a0_0 a0_1 a0_2 a0_3 a0_0 a0_1 a0_2 a0_3).bind fun t289 => (if t289 = 0 then (if t285 = 2 then (if a0_0 = a1_0 then (if a0_1 = a1_1 then (if a0_2 = a1_2 then (if a0_3 = a1_3 then (none) else (some true)) else (some true)) else (some true)) else (some true)) else (some true)) else (none))) = some r := by rw [if_pos rfl] at H; exact H
            clear H
            have H := H1
            clear H1
            replace H := Option.bind_eq_some_iff.mp H
            obtain ⟨t289, A940, H⟩ := H
            replace H : (if t289 = 0 then (if t285 = 2 then (if a0_0 = a1_0 then (if a0_1 = a1_1 then (if a0_2 = a1_2 then (if a0_3 = a1_3 then (none) else (some true)) else (some true)) else (some true)) else (some true)) else (some true)) else (none)) = some r := H
            have A94 := Aside0.mk A940
            clear A940
            by_cases c95 : t289 = 0
            · rw [if_pos c95] at H
              have c95b0 : (t289 == 0) = true := beq_iff_eq.mpr c95
              have c95b1 : (t289 != 0) = false := bne_eq_false_iff_eq.mpr c95
              clear c95
              by_cases c96 : t285 = 2
              · rw [if_pos c96] at H
                have c96b0 : (t285 == 2) = true := beq_iff_eq.mpr c96
                have c96b1 : (t285 != 2) = false := bne_eq_false_iff_eq.mpr c96
                clear c96
                by_cases c97 : a0_0 = a1_0
                · rw [if_pos c97] at H
                  have c97b0 : (a0_0 == a1_0) = true := beq_iff_eq.mpr c97
                  have c97b1 : (a0_0 != a1_0) = false := bne_eq_false_iff_eq.mpr c97
                  clear c97
                  by_cases c98 : a0_1 = a1_1
                  · rw [if_pos c98] at H
                    have c98b0 : (a0_1 == a1_1) = true := beq_iff_eq.mpr c98
                    have c98b1 : (a0_1 != a1_1) = false := bne_eq_false_iff_eq.mpr c98
                    clear c98
                    by_cases c99 : a0_2 = a1_2
                    · rw [if_pos c99] at H
                      have c99b0 : (a0_2 == a1_2) = true := beq_iff_eq.mpr c99
                      have c99b1 : (a0_2 != a1_2) = false := bne_eq_false_iff_eq.mpr c99
                      clear c99
                      by_cases c100 : a0_3 = a1_3
                      · rw [if_pos c100] at H
                        exact absurd H (by simp)
                      · rw [if_neg c100] at H
                        have c100b0 : (a0_3 == a1_3) = false := beq_eq_false_iff_ne.mpr c100
                        have c100b1 : (a0_3 != a1_3) = true := bne_iff_ne.mpr c100
                        obtain rfl := Option.some.inj H
                        have hnb101 := NB282_283.out
                        have hnc101 := NB283_282.out
                        have hcz102_0 : wc.cell? ⟨gb282, 0, none⟩ = some (.int .i64 a0_0) := (blk_cell BK282.out 0).trans rfl
                        have hcz102_1 : wc.cell? ⟨gb282, 1, none⟩ = some (.int .i64 a0_1) := (blk_cell BK282.out 1).trans rfl
                        have hcz102_2 : wc.cell? ⟨gb282, 2, none⟩ = some (.int .i64 a0_2) := (blk_cell BK282.out 2).trans rfl
                        have hcz102_3 : wc.cell? ⟨gb282, 3, none⟩ = some (.int .i64 a0_3) := (blk_cell BK282.out 3).trans rfl
                        have hfz102_0 := blk_frozen BK282.out 0
                        have hfz102_1 := blk_frozen BK282.out 1
                        have hfz102_2 := blk_frozen BK282.out 2
                        have hfz102_3 := blk_frozen BK282.out 3
                        go_wp2_with (first | ((with_reducible refine gate_callee (f := 15) rfl ?_); refine goesL_ (some 67) rfl rfl Try.func15 (by kernel_rfl) rfl #[.agg #[.int .i64 a0_0, .int .i64 a0_1, .int .i64 a0_2, .int .i64 a0_3]] rfl (by (try simp only [List.map_toArray, List.map_cons, List.map_nil]); first | done | rfl | (simp only [List.length_drop, List.length_take]; rfl)) ?_; (with_reducible refine (schema_May.calls kj5 a0_0 a0_1 a0_2 a0_3 true _ A90.out).mono ?_); rintro e w103 ⟨rfl, hb⟩; refine ⟨_, rfl, ?_⟩; have n0_ := Aside0.mk (blk_below (g := gb282) (o := .cells #[.int .i64 a0_0, .int .i64 a0_1, .int .i64 a0_2, .int .i64 a0_3] 34 (0, 0)) (by (with_reducible repeat (first | refine blk_drewN ?_ _ | refine blk_drew ?_ | refine blk_alloc ?_ _)); exact BK282.out) hb); have n1_ := Aside0.mk (blk_below (g := gb283) (o := .cells #[.int .i64 a1_0, .int .i64 a1_1, .int .i64 a1_2, .int .i64 a1_3] 34 (0, 0)) (by (with_reducible repeat (first | refine blk_drewN ?_ _ | refine blk_drew ?_ | refine blk_alloc ?_ _)); exact BK283.out) hb); have n2_ := Aside0.mk (below_step (by repeat (first | (with_reducible first | exact HB.out | apply below_alloc | apply pw_below_drewN | apply below_drew1 | refine below_set ?_ GE282.out | refine below_set ?_ GE283.out) | exact HB.out)) hb); clear BK282; clear BK283; clear HB; have BK282 := n0_; have BK283 := n1_; have HB := n2_; clear n0_ n1_ n2_; (try clear hb); (try clear hb2); (try clear hk); (try clear hi); have hcz104_0 : w103.cell? ⟨gb283, 0, none⟩ = some (.int .i64 a1_0) := (blk_cell BK283.out 0).trans rfl; have hcz104_1 : w103.cell? ⟨gb283, 1, none⟩ = some (.int .i64 a1_1) := (blk_cell BK283.out 1).trans rfl; have hcz104_2 : w103.cell? ⟨gb283, 2, none⟩ = some (.int .i64 a1_2) := (blk_cell BK283.out 2).trans rfl; have hcz104_3 : w103.cell? ⟨gb283, 3, none⟩ = some (.int .i64 a1_3) := (blk_cell BK283.out 3).trans rfl; have hfz104_0 := blk_frozen BK283.out 0; have hfz104_1 := blk_frozen BK283.out 1; have hfz104_2 := blk_frozen BK283.out 2; have hfz104_3 := blk_frozen BK283.out 3) | (go_at_call 15; (with_reducible refine (schema_May.calls kj5 a1_0 a1_1 a1_2 a1_3 true _ A92.out).mono ?_); rintro e w105 ⟨rfl, hb⟩; have n0_ := Aside0.mk (blk_below (g := gb282) (o := .cells #[.int .i64 a0_0, .int .i64 a0_1, .int .i64 a0_2, .int .i64 a0_3] 34 (0, 0)) (by (with_reducible repeat (first | refine blk_drewN ?_ _ | refine blk_drew ?_ | refine blk_alloc ?_ _)); exact BK282.out) hb); have n1_ := Aside0.mk (blk_below (g := gb283) (o := .cells #[.int .i64 a1_0, .int .i64 a1_1, .int .i64 a1_2, .int .i64 a1_3] 34 (0, 0)) (by (with_reducible repeat (first | refine blk_drewN ?_ _ | refine blk_drew ?_ | refine blk_alloc ?_ _)); exact BK283.out) hb); have n2_ := Aside0.mk (below_step (by repeat (first | (with_reducible first | exact HB.out | apply below_alloc | apply pw_below_drewN | apply below_drew1 | refine below_set ?_ GE282.out | refine below_set ?_ GE283.out) | exact HB.out)) hb); clear BK282; clear BK283; clear HB; have BK282 := n0_; have BK283 := n1_; have HB := n2_; clear n0_ n1_ n2_; (try clear hb); (try clear hb2); (try clear hk); (try clear hi); have hcz106_0 : w105.cell? ⟨gb282, 0, none⟩ = some (.int .i64 a0_0) := (blk_cell BK282.out 0).trans rfl; have hcz106_1 : w105.cell? ⟨gb282, 1, none⟩ = some (.int .i64 a0_1) := (blk_cell BK282.out 1).trans rfl; have hcz106_2 : w105.cell? ⟨gb282, 2, none⟩ = some (.int .i64 a0_2) := (blk_cell BK282.out 2).trans rfl; have hcz106_3 : w105.cell? ⟨gb282, 3, none⟩ = some (.int .i64 a0_3) := (blk_cell BK282.out 3).trans rfl; have hfz106_0 := blk_frozen BK282.out 0; have hfz106_1 := blk_frozen BK282.out 1; have hfz106_2 := blk_frozen BK282.out 2; have hfz106_3 := blk_frozen BK282.out 3) | ((with_reducible refine gate_callee (f := 20) rfl ?_); refine goesL_ (some 78) rfl rfl Try.func20 (by kernel_rfl) rfl #[.agg #[.int .i64 a0_0, .int .i64 a0_1, .int .i64 a0_2, .int .i64 a0_3], .agg #[.int .i64 a0_0, .int .i64 a0_1, .int .i64 a0_2, .int .i64 a0_3]] rfl (by (try simp only [List.map_toArray, List.map_cons, List.map_nil]); first | done | rfl | (simp only [List.length_drop, List.length_take]; rfl)) ?_; (with_reducible refine (schema_Step.calls kj5 a0_0 a0_1 a0_2 a0_3 a0_0 a0_1 a0_2 a0_3 t289 _ A94.out).mono ?_); rintro e w107 ⟨rfl, hb⟩; refine ⟨_, rfl, ?_⟩; have n0_ := Aside0.mk (blk_below (g := gb282) (o := .cells #[.int .i64 a0_0, .int .i64 a0_1, .int .i64 a0_2, .int .i64 a0_3] 34 (0, 0)) (by (with_reducible repeat (first | refine blk_drewN ?_ _ | refine blk_drew ?_ | refine blk_alloc ?_ _)); exact BK282.out) hb); have n1_ := Aside0.mk (blk_below (g := gb283) (o := .cells #[.int .i64 a1_0, .int .i64 a1_1, .int .i64 a1_2, .int .i64 a1_3] 34 (0, 0)) (by (with_reducible repeat (first | refine blk_drewN ?_ _ | refine blk_drew ?_ | refine blk_alloc ?_ _)); exact BK283.out) hb); have n2_ := Aside0.mk (below_step (by repeat (first | (with_reducible first | exact HB.out | apply below_alloc | apply pw_below_drewN | apply below_drew1 | refine below_set ?_ GE282.out | refine below_set ?_ GE283.out) | exact HB.out)) hb); clear BK282; clear BK283; clear HB; have BK282 := n0_; have BK283 := n1_; have HB := n2_; clear n0_ n1_ n2_; (try clear hb); (try clear hb2); (try clear hk); (try clear hi); have hcz108_0 : w107.cell? ⟨gb282, 0, none⟩ = some (.int .i64 a0_0) := (blk_cell BK282.out 0).trans rfl; have hcz108_1 : w107.cell? ⟨gb282, 1, none⟩ = some (.int .i64 a0_1) := (blk_cell BK282.out 1).trans rfl; have hcz108_2 : w107.cell? ⟨gb282, 2, none⟩ = some (.int .i64 a0_2) := (blk_cell BK282.out 2).trans rfl; have hcz108_3 : w107.cell? ⟨gb282, 3, none⟩ = some (.int .i64 a0_3) := (blk_cell BK282.out 3).trans rfl; have hfz108_0 := blk_frozen BK282.out 0; have hfz108_1 := blk_frozen BK282.out 1; have hfz108_2 := blk_frozen BK282.out 2; have hfz108_3 := blk_frozen BK282.out 3; have hcz109_0 : w107.cell? ⟨gb283, 0, none⟩ = some (.int .i64 a1_0) := (blk_cell BK283.out 0).trans rfl; have hcz109_1 : w107.cell? ⟨gb283, 1, none⟩ = some (.int .i64 a1_1) := (blk_cell BK283.out 1).trans rfl; have hcz109_2 : w107.cell? ⟨gb283, 2, none⟩ = some (.int .i64 a1_2) := (blk_cell BK283.out 2).trans rfl; have hcz109_3 : w107.cell? ⟨gb283, 3, none⟩ = some (.int .i64 a1_3) := (blk_cell BK283.out 3).trans rfl; have hfz109_0 := blk_frozen BK283.out 0; have hfz109_1 := blk_frozen BK283.out 1; have hfz109_2 := blk_frozen BK283.out 2; have hfz109_3 := blk_frozen BK283.out 3))
                        go_ret
                        exact ⟨by first | rfl | (simp [errW_none, errW_some] <;> rfl) | (simp [*, errW_none, errW_some] <;> rfl), by repeat (first | (with_reducible first | exact HB.out | apply below_alloc | apply pw_below_drewN | apply below_drew1 | refine below_set ?_ GE282.out | refine below_set ?_ GE283.out) | exact HB.out)⟩
                    · rw [if_neg c99] at H
                      have c99b0 : (a0_2 == a1_2) = false := beq_eq_false_iff_ne.mpr c99
                      have c99b1 : (a0_2 != a1_2) = true := bne_iff_ne.mpr c99
                      obtain rfl := Option.some.inj H
                      have hnb110 := NB282_283.out
                      have hnc110 := NB283_282.out
                      have hcz111_0 : wc.cell? ⟨gb282, 0, none⟩ = some (.int .i64 a0_0) := (blk_cell BK282.out 0).trans rfl
                      have hcz111_1 : wc.cell? ⟨gb282, 1, none⟩ = some (.int .i64 a0_1) := (blk_cell BK282.out 1).trans rfl
                      have hcz111_2 : wc.cell? ⟨gb282, 2, none⟩ = some (.int .i64 a0_2) := (blk_cell BK282.out 2).trans rfl
                      have hcz111_3 : wc.cell? ⟨gb282, 3, none⟩ = some (.int .i64 a0_3) := (blk_cell BK282.out 3).trans rfl
                      have hfz111_0 := blk_frozen BK282.out 0
                      have hfz111_1 := blk_frozen BK282.out 1
                      have hfz111_2 := blk_frozen BK282.out 2
                      have hfz111_3 := blk_frozen BK282.out 3
                      go_wp2_with (first | ((with_reducible refine gate_callee (f := 15) rfl ?_); refine goesL_ (some 67) rfl rfl Try.func15 (by kernel_rfl) rfl #[.agg #[.int .i64 a0_0, .int .i64 a0_1, .int .i64 a0_2, .int .i64 a0_3]] rfl (by (try simp only [List.map_toArray, List.map_cons, List.map_nil]); first | done | rfl | (simp only [List.length_drop, List.length_take]; rfl)) ?_; (with_reducible refine (schema_May.calls kj5 a0_0 a0_1 a0_2 a0_3 true _ A90.out).mono ?_); rintro e w112 ⟨rfl, hb⟩; refine ⟨_, rfl, ?_⟩; have n0_ := Aside0.mk (blk_below (g := gb282) (o := .cells #[.int .i64 a0_0, .int .i64 a0_1, .int .i64 a0_2, .int .i64 a0_3] 34 (0, 0)) (by (with_reducible repeat (first | refine blk_drewN ?_ _ | refine blk_drew ?_ | refine blk_alloc ?_ _)); exact BK282.out) hb); have n1_ := Aside0.mk (blk_below (g := gb283) (o := .cells #[.int .i64 a1_0, .int .i64 a1_1, .int .i64 a1_2, .int .i64 a1_3] 34 (0, 0)) (by (with_reducible repeat (first | refine blk_drewN ?_ _ | refine blk_drew ?_ | refine blk_alloc ?_ _)); exact BK283.out) hb); have n2_ := Aside0.mk (below_step (by repeat (first | (with_reducible first | exact HB.out | apply below_alloc | apply pw_below_drewN | apply below_drew1 | refine below_set ?_ GE282.out | refine below_set ?_ GE283.out) | exact HB.out)) hb); clear BK282; clear BK283; clear HB; have BK282 := n0_; have BK283 := n1_; have HB := n2_; clear n0_ n1_ n2_; (try clear hb); (try clear hb2); (try clear hk); (try clear hi); have hcz113_0 : w112.cell? ⟨gb283, 0, none⟩ = some (.int .i64 a1_0) := (blk_cell BK283.out 0).trans rfl; have hcz113_1 : w112.cell? ⟨gb283, 1, none⟩ = some (.int .i64 a1_1) := (blk_cell BK283.out 1).trans rfl; have hcz113_2 : w112.cell? ⟨gb283, 2, none⟩ = some (.int .i64 a1_2) := (blk_cell BK283.out 2).trans rfl; have hcz113_3 : w112.cell? ⟨gb283, 3, none⟩ = some (.int .i64 a1_3) := (blk_cell BK283.out 3).trans rfl; have hfz113_0 := blk_frozen BK283.out 0; have hfz113_1 := blk_frozen BK283.out 1; have hfz113_2 := blk_frozen BK283.out 2; have hfz113_3 := blk_frozen BK283.out 3) | (go_at_call 15; (with_reducible refine (schema_May.calls kj5 a1_0 a1_1 a1_2 a1_3 true _ A92.out).mono ?_); rintro e w114 ⟨rfl, hb⟩; have n0_ := Aside0.mk (blk_below (g := gb282) (o := .cells #[.int .i64 a0_0, .int .i64 a0_1, .int .i64 a0_2, .int .i64 a0_3] 34 (0, 0)) (by (with_reducible repeat (first | refine blk_drewN ?_ _ | refine blk_drew ?_ | refine blk_alloc ?_ _)); exact BK282.out) hb); have n1_ := Aside0.mk (blk_below (g := gb283) (o := .cells #[.int .i64 a1_0, .int .i64 a1_1, .int .i64 a1_2, .int .i64 a1_3] 34 (0, 0)) (by (with_reducible repeat (first | refine blk_drewN ?_ _ | refine blk_drew ?_ | refine blk_alloc ?_ _)); exact BK283.out) hb); have n2_ := Aside0.mk (below_step (by repeat (first | (with_reducible first | exact HB.out | apply below_alloc | apply pw_below_drewN | apply below_drew1 | refine below_set ?_ GE282.out | refine below_set ?_ GE283.out) | exact HB.out)) hb); clear BK282; clear BK283; clear HB; have BK282 := n0_; have BK283 := n1_; have HB := n2_; clear n0_ n1_ n2_; (try clear hb); (try clear hb2); (try clear hk); (try clear hi); have hcz115_0 : w114.cell? ⟨gb282, 0, none⟩ = some (.int .i64 a0_0) := (blk_cell BK282.out 0).trans rfl; have hcz115_1 : w114.cell? ⟨gb282, 1, none⟩ = some (.int .i64 a0_1) := (blk_cell BK282.out 1).trans rfl; have hcz115_2 : w114.cell? ⟨gb282, 2, none⟩ = some (.int .i64 a0_2) := (blk_cell BK282.out 2).trans rfl; have hcz115_3 : w114.cell? ⟨gb282, 3, none⟩ = some (.int .i64 a0_3) := (blk_cell BK282.out 3).trans rfl; have hfz115_0 := blk_frozen BK282.out 0; have hfz115_1 := blk_frozen BK282.out 1; have hfz115_2 := blk_frozen BK282.out 2; have hfz115_3 := blk_frozen BK282.out 3) | ((with_reducible refine gate_callee (f := 20) rfl ?_); refine goesL_ (some 78) rfl rfl Try.func20 (by kernel_rfl) rfl #[.agg #[.int .i64 a0_0, .int .i64 a0_1, .int .i64 a0_2, .int .i64 a0_3], .agg #[.int .i64 a0_0, .int .i64 a0_1, .int .i64 a0_2, .int .i64 a0_3]] rfl (by (try simp only [List.map_toArray, List.map_cons, List.map_nil]); first | done | rfl | (simp only [List.length_drop, List.length_take]; rfl)) ?_; (with_reducible refine (schema_Step.calls kj5 a0_0 a0_1 a0_2 a0_3 a0_0 a0_1 a0_2 a0_3 t289 _ A94.out).mono ?_); rintro e w116 ⟨rfl, hb⟩; refine ⟨_, rfl, ?_⟩; have n0_ := Aside0.mk (blk_below (g := gb282) (o := .cells #[.int .i64 a0_0, .int .i64 a0_1, .int .i64 a0_2, .int .i64 a0_3] 34 (0, 0)) (by (with_reducible repeat (first | refine blk_drewN ?_ _ | refine blk_drew ?_ | refine blk_alloc ?_ _)); exact BK282.out) hb); have n1_ := Aside0.mk (blk_below (g := gb283) (o := .cells #[.int .i64 a1_0, .int .i64 a1_1, .int .i64 a1_2, .int .i64 a1_3] 34 (0, 0)) (by (with_reducible repeat (first | refine blk_drewN ?_ _ | refine blk_drew ?_ | refine blk_alloc ?_ _)); exact BK283.out) hb); have n2_ := Aside0.mk (below_step (by repeat (first | (with_reducible first | exact HB.out | apply below_alloc | apply pw_below_drewN | apply below_drew1 | refine below_set ?_ GE282.out | refine below_set ?_ GE283.out) | exact HB.out)) hb); clear BK282; clear BK283; clear HB; have BK282 := n0_; have BK283 := n1_; have HB := n2_; clear n0_ n1_ n2_; (try clear hb); (try clear hb2); (try clear hk); (try clear hi); have hcz117_0 : w116.cell? ⟨gb282, 0, none⟩ = some (.int .i64 a0_0) := (blk_cell BK282.out 0).trans rfl; have hcz117_1 : w116.cell? ⟨gb282, 1, none⟩ = some (.int .i64 a0_1) := (blk_cell BK282.out 1).trans rfl; have hcz117_2 : w116.cell? ⟨gb282, 2, none⟩ = some (.int .i64 a0_2) := (blk_cell BK282.out 2).trans rfl; have hcz117_3 : w116.cell? ⟨gb282, 3, none⟩ = some (.int .i64 a0_3) := (blk_cell BK282.out 3).trans rfl; have hfz117_0 := blk_frozen BK282.out 0; have hfz117_1 := blk_frozen BK282.out 1; have hfz117_2 := blk_frozen BK282.out 2; have hfz117_3 := blk_frozen BK282.out 3; have hcz118_0 : w116.cell? ⟨gb283, 0, none⟩ = some (.int .i64 a1_0) := (blk_cell BK283.out 0).trans rfl; have hcz118_1 : w116.cell? ⟨gb283, 1, none⟩ = some (.int .i64 a1_1) := (blk_cell BK283.out 1).trans rfl; have hcz118_2 : w116.cell? ⟨gb283, 2, none⟩ = some (.int .i64 a1_2) := (blk_cell BK283.out 2).trans rfl; have hcz118_3 : w116.cell? ⟨gb283, 3, none⟩ = some (.int .i64 a1_3) := (blk_cell BK283.out 3).trans rfl; have hfz118_0 := blk_frozen BK283.out 0; have hfz118_1 := blk_frozen BK283.out 1; have hfz118_2 := blk_frozen BK283.out 2; have hfz118_3 := blk_frozen BK283.out 3))
                      go_ret
                      exact ⟨by first | rfl | (simp [errW_none, errW_some] <;> rfl) | (simp [*, errW_none, errW_some] <;> rfl), by repeat (first | (with_reducible first | exact HB.out | apply below_alloc | apply pw_below_drewN | apply below_drew1 | refine below_set ?_ GE282.out | refine below_set ?_ GE283.out) | exact HB.out)⟩
                  · rw [if_neg c98] at H
                    have c98b0 : (a0_1 == a1_1) = false := beq_eq_false_iff_ne.mpr c98
                    have c98b1 : (a0_1 != a1_1) = true := bne_iff_ne.mpr c98
                    obtain rfl := Option.some.inj H
                    have hnb119 := NB282_283.out
                    have hnc119 := NB283_282.out
                    have hcz120_0 : wc.cell? ⟨gb282, 0, none⟩ = some (.int .i64 a0_0) := (blk_cell BK282.out 0).trans rfl
                    have hcz120_1 : wc.cell? ⟨gb282, 1, none⟩ = some (.int .i64 a0_1) := (blk_cell BK282.out 1).trans rfl
                    have hcz120_2 : wc.cell? ⟨gb282, 2, none⟩ = some (.int .i64 a0_2) := (blk_cell BK282.out 2).trans rfl
                    have hcz120_3 : wc.cell? ⟨gb282, 3, none⟩ = some (.int .i64 a0_3) := (blk_cell BK282.out 3).trans rfl
                    have hfz120_0 := blk_frozen BK282.out 0
                    have hfz120_1 := blk_frozen BK282.out 1
                    have hfz120_2 := blk_frozen BK282.out 2
                    have hfz120_3 := blk_frozen BK282.out 3
                    go_wp2_with (first | ((with_reducible refine gate_callee (f := 15) rfl ?_); refine goesL_ (some 67) rfl rfl Try.func15 (by kernel_rfl) rfl #[.agg #[.int .i64 a0_0, .int .i64 a0_1, .int .i64 a0_2, .int .i64 a0_3]] rfl (by (try simp only [List.map_toArray, List.map_cons, List.map_nil]); first | done | rfl | (simp only [List.length_drop, List.length_take]; rfl)) ?_; (with_reducible refine (schema_May.calls kj5 a0_0 a0_1 a0_2 a0_3 true _ A90.out).mono ?_); rintro e w121 ⟨rfl, hb⟩; refine ⟨_, rfl, ?_⟩; have n0_ := Aside0.mk (blk_below (g := gb282) (o := .cells #[.int .i64 a0_0, .int .i64 a0_1, .int .i64 a0_2, .int .i64 a0_3] 34 (0, 0)) (by (with_reducible repeat (first | refine blk_drewN ?_ _ | refine blk_drew ?_ | refine blk_alloc ?_ _)); exact BK282.out) hb); have n1_ := Aside0.mk (blk_below (g := gb283) (o := .cells #[.int .i64 a1_0, .int .i64 a1_1, .int .i64 a1_2, .int .i64 a1_3] 34 (0, 0)) (by (with_reducible repeat (first | refine blk_drewN ?_ _ | refine blk_drew ?_ | refine blk_alloc ?_ _)); exact BK283.out) hb); have n2_ := Aside0.mk (below_step (by repeat (first | (with_reducible first | exact HB.out | apply below_alloc | apply pw_below_drewN | apply below_drew1 | refine below_set ?_ GE282.out | refine below_set ?_ GE283.out) | exact HB.out)) hb); clear BK282; clear BK283; clear HB; have BK282 := n0_; have BK283 := n1_; have HB := n2_; clear n0_ n1_ n2_; (try clear hb); (try clear hb2); (try clear hk); (try clear hi); have hcz122_0 : w121.cell? ⟨gb283, 0, none⟩ = some (.int .i64 a1_0) := (blk_cell BK283.out 0).trans rfl; have hcz122_1 : w121.cell? ⟨gb283, 1, none⟩ = some (.int .i64 a1_1) := (blk_cell BK283.out 1).trans rfl; have hcz122_2 : w121.cell? ⟨gb283, 2, none⟩ = some (.int .i64 a1_2) := (blk_cell BK283.out 2).trans rfl; have hcz122_3 : w121.cell? ⟨gb283, 3, none⟩ = some (.int .i64 a1_3) := (blk_cell BK283.out 3).trans rfl; have hfz122_0 := blk_frozen BK283.out 0; have hfz122_1 := blk_frozen BK283.out 1; have hfz122_2 := blk_frozen BK283.out 2; have hfz122_3 := blk_frozen BK283.out 3) | (go_at_call 15; (with_reducible refine (schema_May.calls kj5 a1_0 a1_1 a1_2 a1_3 true _ A92.out).mono ?_); rintro e w123 ⟨rfl, hb⟩; have n0_ := Aside0.mk (blk_below (g := gb282) (o := .cells #[.int .i64 a0_0, .int .i64 a0_1, .int .i64 a0_2, .int .i64 a0_3] 34 (0, 0)) (by (with_reducible repeat (first | refine blk_drewN ?_ _ | refine blk_drew ?_ | refine blk_alloc ?_ _)); exact BK282.out) hb); have n1_ := Aside0.mk (blk_below (g := gb283) (o := .cells #[.int .i64 a1_0, .int .i64 a1_1, .int .i64 a1_2, .int .i64 a1_3] 34 (0, 0)) (by (with_reducible repeat (first | refine blk_drewN ?_ _ | refine blk_drew ?_ | refine blk_alloc ?_ _)); exact BK283.out) hb); have n2_ := Aside0.mk (below_step (by repeat (first | (with_reducible first | exact HB.out | apply below_alloc | apply pw_below_drewN | apply below_drew1 | refine below_set ?_ GE282.out | refine below_set ?_ GE283.out) | exact HB.out)) hb); clear BK282; clear BK283; clear HB; have BK282 := n0_; have BK283 := n1_; have HB := n2_; clear n0_ n1_ n2_; (try clear hb); (try clear hb2); (try clear hk); (try clear hi); have hcz124_0 : w123.cell? ⟨gb282, 0, none⟩ = some (.int .i64 a0_0) := (blk_cell BK282.out 0).trans rfl; have hcz124_1 : w123.cell? ⟨gb282, 1, none⟩ = some (.int .i64 a0_1) := (blk_cell BK282.out 1).trans rfl; have hcz124_2 : w123.cell? ⟨gb282, 2, none⟩ = some (.int .i64 a0_2) := (blk_cell BK282.out 2).trans rfl; have hcz124_3 : w123.cell? ⟨gb282, 3, none⟩ = some (.int .i64 a0_3) := (blk_cell BK282.out 3).trans rfl; have hfz124_0 := blk_frozen BK282.out 0; have hfz124_1 := blk_frozen BK282.out 1; have hfz124_2 := blk_frozen BK282.out 2; have hfz124_3 := blk_frozen BK282.out 3) | ((with_reducible refine gate_callee (f := 20) rfl ?_); refine goesL_ (some 78) rfl rfl Try.func20 (by kernel_rfl) rfl #[.agg #[.int .i64 a0_0, .int .i64 a0_1, .int .i64 a0_2, .int .i64 a0_3], .agg #[.int .i64 a0_0, .int .i64 a0_1, .int .i64 a0_2, .int .i64 a0_3]] rfl (by (try simp only [List.map_toArray, List.map_cons, List.map_nil]); first | done | rfl | (simp only [List.length_drop, List.length_take]; rfl)) ?_; (with_reducible refine (schema_Step.calls kj5 a0_0 a0_1 a0_2 a0_3 a0_0 a0_1 a0_2 a0_3 t289 _ A94.out).mono ?_); rintro e w125 ⟨rfl, hb⟩; refine ⟨_, rfl, ?_⟩; have n0_ := Aside0.mk (blk_below (g := gb282) (o := .cells #[.int .i64 a0_0, .int .i64 a0_1, .int .i64 a0_2, .int .i64 a0_3] 34 (0, 0)) (by (with_reducible repeat (first | refine blk_drewN ?_ _ | refine blk_drew ?_ | refine blk_alloc ?_ _)); exact BK282.out) hb); have n1_ := Aside0.mk (blk_below (g := gb283) (o := .cells #[.int .i64 a1_0, .int .i64 a1_1, .int .i64 a1_2, .int .i64 a1_3] 34 (0, 0)) (by (with_reducible repeat (first | refine blk_drewN ?_ _ | refine blk_drew ?_ | refine blk_alloc ?_ _)); exact BK283.out) hb); have n2_ := Aside0.mk (below_step (by repeat (first | (with_reducible first | exact HB.out | apply below_alloc | apply pw_below_drewN | apply below_drew1 | refine below_set ?_ GE282.out | refine below_set ?_ GE283.out) | exact HB.out)) hb); clear BK282; clear BK283; clear HB; have BK282 := n0_; have BK283 := n1_; have HB := n2_; clear n0_ n1_ n2_; (try clear hb); (try clear hb2); (try clear hk); (try clear hi); have hcz126_0 : w125.cell? ⟨gb282, 0, none⟩ = some (.int .i64 a0_0) := (blk_cell BK282.out 0).trans rfl; have hcz126_1 : w125.cell? ⟨gb282, 1, none⟩ = some (.int .i64 a0_1) := (blk_cell BK282.out 1).trans rfl; have hcz126_2 : w125.cell? ⟨gb282, 2, none⟩ = some (.int .i64 a0_2) := (blk_cell BK282.out 2).trans rfl; have hcz126_3 : w125.cell? ⟨gb282, 3, none⟩ = some (.int .i64 a0_3) := (blk_cell BK282.out 3).trans rfl; have hfz126_0 := blk_frozen BK282.out 0; have hfz126_1 := blk_frozen BK282.out 1; have hfz126_2 := blk_frozen BK282.out 2; have hfz126_3 := blk_frozen BK282.out 3; have hcz127_0 : w125.cell? ⟨gb283, 0, none⟩ = some (.int .i64 a1_0) := (blk_cell BK283.out 0).trans rfl; have hcz127_1 : w125.cell? ⟨gb283, 1, none⟩ = some (.int .i64 a1_1) := (blk_cell BK283.out 1).trans rfl; have hcz127_2 : w125.cell? ⟨gb283, 2, none⟩ = some (.int .i64 a1_2) := (blk_cell BK283.out 2).trans rfl; have hcz127_3 : w125.cell? ⟨gb283, 3, none⟩ = some (.int .i64 a1_3) := (blk_cell BK283.out 3).trans rfl; have hfz127_0 := blk_frozen BK283.out 0; have hfz127_1 := blk_frozen BK283.out 1; have hfz127_2 := blk_frozen BK283.out 2; have hfz127_3 := blk_frozen BK283.out 3))
                    go_ret
                    exact ⟨by first | rfl | (simp [errW_none, errW_some] <;> rfl) | (simp [*, errW_none, errW_some] <;> rfl), by repeat (first | (with_reducible first | exact HB.out | apply below_alloc | apply pw_below_drewN | apply below_drew1 | refine below_set ?_ GE282.out | refine below_set ?_ GE283.out) | exact HB.out)⟩
                · rw [if_neg c97] at H
                  have c97b0 : (a0_0 == a1_0) = false := beq_eq_false_iff_ne.mpr c97
                  have c97b1 : (a0_0 != a1_0) = true := bne_iff_ne.mpr c97
                  obtain rfl := Option.some.inj H
                  have hnb128 := NB282_283.out
                  have hnc128 := NB283_282.out
                  have hcz129_0 : wc.cell? ⟨gb282, 0, none⟩ = some (.int .i64 a0_0) := (blk_cell BK282.out 0).trans rfl
                  have hcz129_1 : wc.cell? ⟨gb282, 1, none⟩ = some (.int .i64 a0_1) := (blk_cell BK282.out 1).trans rfl
                  have hcz129_2 : wc.cell? ⟨gb282, 2, none⟩ = some (.int .i64 a0_2) := (blk_cell BK282.out 2).trans rfl
                  have hcz129_3 : wc.cell? ⟨gb282, 3, none⟩ = some (.int .i64 a0_3) := (blk_cell BK282.out 3).trans rfl
                  have hfz129_0 := blk_frozen BK282.out 0
                  have hfz129_1 := blk_frozen BK282.out 1
                  have hfz129_2 := blk_frozen BK282.out 2
                  have hfz129_3 := blk_frozen BK282.out 3
                  go_wp2_with (first | ((with_reducible refine gate_callee (f := 15) rfl ?_); refine goesL_ (some 67) rfl rfl Try.func15 (by kernel_rfl) rfl #[.agg #[.int .i64 a0_0, .int .i64 a0_1, .int .i64 a0_2, .int .i64 a0_3]] rfl (by (try simp only [List.map_toArray, List.map_cons, List.map_nil]); first | done | rfl | (simp only [List.length_drop, List.length_take]; rfl)) ?_; (with_reducible refine (schema_May.calls kj5 a0_0 a0_1 a0_2 a0_3 true _ A90.out).mono ?_); rintro e w130 ⟨rfl, hb⟩; refine ⟨_, rfl, ?_⟩; have n0_ := Aside0.mk (blk_below (g := gb282) (o := .cells #[.int .i64 a0_0, .int .i64 a0_1, .int .i64 a0_2, .int .i64 a0_3] 34 (0, 0)) (by (with_reducible repeat (first | refine blk_drewN ?_ _ | refine blk_drew ?_ | refine blk_alloc ?_ _)); exact BK282.out) hb); have n1_ := Aside0.mk (blk_below (g := gb283) (o := .cells #[.int .i64 a1_0, .int .i64 a1_1, .int .i64 a1_2, .int .i64 a1_3] 34 (0, 0)) (by (with_reducible repeat (first | refine blk_drewN ?_ _ | refine blk_drew ?_ | refine blk_alloc ?_ _)); exact BK283.out) hb); have n2_ := Aside0.mk (below_step (by repeat (first | (with_reducible first | exact HB.out | apply below_alloc | apply pw_below_drewN | apply below_drew1 | refine below_set ?_ GE282.out | refine below_set ?_ GE283.out) | exact HB.out)) hb); clear BK282; clear BK283; clear HB; have BK282 := n0_; have BK283 := n1_; have HB := n2_; clear n0_ n1_ n2_; (try clear hb); (try clear hb2); (try clear hk); (try clear hi); have hcz131_0 : w130.cell? ⟨gb283, 0, none⟩ = some (.int .i64 a1_0) := (blk_cell BK283.out 0).trans rfl; have hcz131_1 : w130.cell? ⟨gb283, 1, none⟩ = some (.int .i64 a1_1) := (blk_cell BK283.out 1).trans rfl; have hcz131_2 : w130.cell? ⟨gb283, 2, none⟩ = some (.int .i64 a1_2) := (blk_cell BK283.out 2).trans rfl; have hcz131_3 : w130.cell? ⟨gb283, 3, none⟩ = some (.int .i64 a1_3) := (blk_cell BK283.out 3).trans rfl; have hfz131_0 := blk_frozen BK283.out 0; have hfz131_1 := blk_frozen BK283.out 1; have hfz131_2 := blk_frozen BK283.out 2; have hfz131_3 := blk_frozen BK283.out 3) | (go_at_call 15; (with_reducible refine (schema_May.calls kj5 a1_0 a1_1 a1_2 a1_3 true _ A92.out).mono ?_); rintro e w132 ⟨rfl, hb⟩; have n0_ := Aside0.mk (blk_below (g := gb282) (o := .cells #[.int .i64 a0_0, .int .i64 a0_1, .int .i64 a0_2, .int .i64 a0_3] 34 (0, 0)) (by (with_reducible repeat (first | refine blk_drewN ?_ _ | refine blk_drew ?_ | refine blk_alloc ?_ _)); exact BK282.out) hb); have n1_ := Aside0.mk (blk_below (g := gb283) (o := .cells #[.int .i64 a1_0, .int .i64 a1_1, .int .i64 a1_2, .int .i64 a1_3] 34 (0, 0)) (by (with_reducible repeat (first | refine blk_drewN ?_ _ | refine blk_drew ?_ | refine blk_alloc ?_ _)); exact BK283.out) hb); have n2_ := Aside0.mk (below_step (by repeat (first | (with_reducible first | exact HB.out | apply below_alloc | apply pw_below_drewN | apply below_drew1 | refine below_set ?_ GE282.out | refine below_set ?_ GE283.out) | exact HB.out)) hb); clear BK282; clear BK283; clear HB; have BK282 := n0_; have BK283 := n1_; have HB := n2_; clear n0_ n1_ n2_; (try clear hb); (try clear hb2); (try clear hk); (try clear hi); have hcz133_0 : w132.cell? ⟨gb282, 0, none⟩ = some (.int .i64 a0_0) := (blk_cell BK282.out 0).trans rfl; have hcz133_1 : w132.cell? ⟨gb282, 1, none⟩ = some (.int .i64 a0_1) := (blk_cell BK282.out 1).trans rfl; have hcz133_2 : w132.cell? ⟨gb282, 2, none⟩ = some (.int .i64 a0_2) := (blk_cell BK282.out 2).trans rfl; have hcz133_3 : w132.cell? ⟨gb282, 3, none⟩ = some (.int .i64 a0_3) := (blk_cell BK282.out 3).trans rfl; have hfz133_0 := blk_frozen BK282.out 0; have hfz133_1 := blk_frozen BK282.out 1; have hfz133_2 := blk_frozen BK282.out 2; have hfz133_3 := blk_frozen BK282.out 3) | ((with_reducible refine gate_callee (f := 20) rfl ?_); refine goesL_ (some 78) rfl rfl Try.func20 (by kernel_rfl) rfl #[.agg #[.int .i64 a0_0, .int .i64 a0_1, .int .i64 a0_2, .int .i64 a0_3], .agg #[.int .i64 a0_0, .int .i64 a0_1, .int .i64 a0_2, .int .i64 a0_3]] rfl (by (try simp only [List.map_toArray, List.map_cons, List.map_nil]); first | done | rfl | (simp only [List.length_drop, List.length_take]; rfl)) ?_; (with_reducible refine (schema_Step.calls kj5 a0_0 a0_1 a0_2 a0_3 a0_0 a0_1 a0_2 a0_3 t289 _ A94.out).mono ?_); rintro e w134 ⟨rfl, hb⟩; refine ⟨_, rfl, ?_⟩; have n0_ := Aside0.mk (blk_below (g := gb282) (o := .cells #[.int .i64 a0_0, .int .i64 a0_1, .int .i64 a0_2, .int .i64 a0_3] 34 (0, 0)) (by (with_reducible repeat (first | refine blk_drewN ?_ _ | refine blk_drew ?_ | refine blk_alloc ?_ _)); exact BK282.out) hb); have n1_ := Aside0.mk (blk_below (g := gb283) (o := .cells #[.int .i64 a1_0, .int .i64 a1_1, .int .i64 a1_2, .int .i64 a1_3] 34 (0, 0)) (by (with_reducible repeat (first | refine blk_drewN ?_ _ | refine blk_drew ?_ | refine blk_alloc ?_ _)); exact BK283.out) hb); have n2_ := Aside0.mk (below_step (by repeat (first | (with_reducible first | exact HB.out | apply below_alloc | apply pw_below_drewN | apply below_drew1 | refine below_set ?_ GE282.out | refine below_set ?_ GE283.out) | exact HB.out)) hb); clear BK282; clear BK283; clear HB; have BK282 := n0_; have BK283 := n1_; have HB := n2_; clear n0_ n1_ n2_; (try clear hb); (try clear hb2); (try clear hk); (try clear hi); have hcz135_0 : w134.cell? ⟨gb282, 0, none⟩ = some (.int .i64 a0_0) := (blk_cell BK282.out 0).trans rfl; have hcz135_1 : w134.cell? ⟨gb282, 1, none⟩ = some (.int .i64 a0_1) := (blk_cell BK282.out 1).trans rfl; have hcz135_2 : w134.cell? ⟨gb282, 2, none⟩ = some (.int .i64 a0_2) := (blk_cell BK282.out 2).trans rfl; have hcz135_3 : w134.cell? ⟨gb282, 3, none⟩ = some (.int .i64 a0_3) := (blk_cell BK282.out 3).trans rfl; have hfz135_0 := blk_frozen BK282.out 0; have hfz135_1 := blk_frozen BK282.out 1; have hfz135_2 := blk_frozen BK282.out 2; have hfz135_3 := blk_frozen BK282.out 3; have hcz136_0 : w134.cell? ⟨gb283, 0, none⟩ = some (.int .i64 a1_0) := (blk_cell BK283.out 0).trans rfl; have hcz136_1 : w134.cell? ⟨gb283, 1, none⟩ = some (.int .i64 a1_1) := (blk_cell BK283.out 1).trans rfl; have hcz136_2 : w134.cell? ⟨gb283, 2, none⟩ = some (.int .i64 a1_2) := (blk_cell BK283.out 2).trans rfl; have hcz136_3 : w134.cell? ⟨gb283, 3, none⟩ = some (.int .i64 a1_3) := (blk_cell BK283.out 3).trans rfl; have hfz136_0 := blk_frozen BK283.out 0; have hfz136_1 := blk_frozen BK283.out 1; have hfz136_2 := blk_frozen BK283.out 2; have hfz136_3 := blk_frozen BK283.out 3))
                  go_ret
                  exact ⟨by first | rfl | (simp [errW_none, errW_some] <;> rfl) | (simp [*, errW_none, errW_some] <;> rfl), by repeat (first | (with_reducible first | exact HB.out | apply below_alloc | apply pw_below_drewN | apply below_drew1 | refine below_set ?_ GE282.out | refine below_set ?_ GE283.out) | exact HB.out)⟩
              · rw [if_neg c96] at H
                have c96b0 : (t285 == 2) = false := beq_eq_false_iff_ne.mpr c96
                have c96b1 : (t285 != 2) = true := bne_iff_ne.mpr c96
                obtain rfl := Option.some.inj H
                have hnb137 := NB282_283.out
                have hnc137 := NB283_282.out
                have hcz138_0 : wc.cell? ⟨gb282, 0, none⟩ = some (.int .i64 a0_0) := (blk_cell BK282.out 0).trans rfl
                have hcz138_1 : wc.cell? ⟨gb282, 1, none⟩ = some (.int .i64 a0_1) := (blk_cell BK282.out 1).trans rfl
                have hcz138_2 : wc.cell? ⟨gb282, 2, none⟩ = some (.int .i64 a0_2) := (blk_cell BK282.out 2).trans rfl
                have hcz138_3 : wc.cell? ⟨gb282, 3, none⟩ = some (.int .i64 a0_3) := (blk_cell BK282.out 3).trans rfl
                have hfz138_0 := blk_frozen BK282.out 0
                have hfz138_1 := blk_frozen BK282.out 1
                have hfz138_2 := blk_frozen BK282.out 2
                have hfz138_3 := blk_frozen BK282.out 3
                go_wp2_with (first | ((with_reducible refine gate_callee (f := 15) rfl ?_); refine goesL_ (some 67) rfl rfl Try.func15 (by kernel_rfl) rfl #[.agg #[.int .i64 a0_0, .int .i64 a0_1, .int .i64 a0_2, .int .i64 a0_3]] rfl (by (try simp only [List.map_toArray, List.map_cons, List.map_nil]); first | done | rfl | (simp only [List.length_drop, List.length_take]; rfl)) ?_; (with_reducible refine (schema_May.calls kj5 a0_0 a0_1 a0_2 a0_3 true _ A90.out).mono ?_); rintro e w139 ⟨rfl, hb⟩; refine ⟨_, rfl, ?_⟩; have n0_ := Aside0.mk (blk_below (g := gb282) (o := .cells #[.int .i64 a0_0, .int .i64 a0_1, .int .i64 a0_2, .int .i64 a0_3] 34 (0, 0)) (by (with_reducible repeat (first | refine blk_drewN ?_ _ | refine blk_drew ?_ | refine blk_alloc ?_ _)); exact BK282.out) hb); have n1_ := Aside0.mk (blk_below (g := gb283) (o := .cells #[.int .i64 a1_0, .int .i64 a1_1, .int .i64 a1_2, .int .i64 a1_3] 34 (0, 0)) (by (with_reducible repeat (first | refine blk_drewN ?_ _ | refine blk_drew ?_ | refine blk_alloc ?_ _)); exact BK283.out) hb); have n2_ := Aside0.mk (below_step (by repeat (first | (with_reducible first | exact HB.out | apply below_alloc | apply pw_below_drewN | apply below_drew1 | refine below_set ?_ GE282.out | refine below_set ?_ GE283.out) | exact HB.out)) hb); clear BK282; clear BK283; clear HB; have BK282 := n0_; have BK283 := n1_; have HB := n2_; clear n0_ n1_ n2_; (try clear hb); (try clear hb2); (try clear hk); (try clear hi); have hcz140_0 : w139.cell? ⟨gb283, 0, none⟩ = some (.int .i64 a1_0) := (blk_cell BK283.out 0).trans rfl; have hcz140_1 : w139.cell? ⟨gb283, 1, none⟩ = some (.int .i64 a1_1) := (blk_cell BK283.out 1).trans rfl; have hcz140_2 : w139.cell? ⟨gb283, 2, none⟩ = some (.int .i64 a1_2) := (blk_cell BK283.out 2).trans rfl; have hcz140_3 : w139.cell? ⟨gb283, 3, none⟩ = some (.int .i64 a1_3) := (blk_cell BK283.out 3).trans rfl; have hfz140_0 := blk_frozen BK283.out 0; have hfz140_1 := blk_frozen BK283.out 1; have hfz140_2 := blk_frozen BK283.out 2; have hfz140_3 := blk_frozen BK283.out 3) | (go_at_call 15; (with_reducible refine (schema_May.calls kj5 a1_0 a1_1 a1_2 a1_3 true _ A92.out).mono ?_); rintro e w141 ⟨rfl, hb⟩; have n0_ := Aside0.mk (blk_below (g := gb282) (o := .cells #[.int .i64 a0_0, .int .i64 a0_1, .int .i64 a0_2, .int .i64 a0_3] 34 (0, 0)) (by (with_reducible repeat (first | refine blk_drewN ?_ _ | refine blk_drew ?_ | refine blk_alloc ?_ _)); exact BK282.out) hb); have n1_ := Aside0.mk (blk_below (g := gb283) (o := .cells #[.int .i64 a1_0, .int .i64 a1_1, .int .i64 a1_2, .int .i64 a1_3] 34 (0, 0)) (by (with_reducible repeat (first | refine blk_drewN ?_ _ | refine blk_drew ?_ | refine blk_alloc ?_ _)); exact BK283.out) hb); have n2_ := Aside0.mk (below_step (by repeat (first | (with_reducible first | exact HB.out | apply below_alloc | apply pw_below_drewN | apply below_drew1 | refine below_set ?_ GE282.out | refine below_set ?_ GE283.out) | exact HB.out)) hb); clear BK282; clear BK283; clear HB; have BK282 := n0_; have BK283 := n1_; have HB := n2_; clear n0_ n1_ n2_; (try clear hb); (try clear hb2); (try clear hk); (try clear hi); have hcz142_0 : w141.cell? ⟨gb282, 0, none⟩ = some (.int .i64 a0_0) := (blk_cell BK282.out 0).trans rfl; have hcz142_1 : w141.cell? ⟨gb282, 1, none⟩ = some (.int .i64 a0_1) := (blk_cell BK282.out 1).trans rfl; have hcz142_2 : w141.cell? ⟨gb282, 2, none⟩ = some (.int .i64 a0_2) := (blk_cell BK282.out 2).trans rfl; have hcz142_3 : w141.cell? ⟨gb282, 3, none⟩ = some (.int .i64 a0_3) := (blk_cell BK282.out 3).trans rfl; have hfz142_0 := blk_frozen BK282.out 0; have hfz142_1 := blk_frozen BK282.out 1; have hfz142_2 := blk_frozen BK282.out 2; have hfz142_3 := blk_frozen BK282.out 3) | ((with_reducible refine gate_callee (f := 20) rfl ?_); refine goesL_ (some 78) rfl rfl Try.func20 (by kernel_rfl) rfl #[.agg #[.int .i64 a0_0, .int .i64 a0_1, .int .i64 a0_2, .int .i64 a0_3], .agg #[.int .i64 a0_0, .int .i64 a0_1, .int .i64 a0_2, .int .i64 a0_3]] rfl (by (try simp only [List.map_toArray, List.map_cons, List.map_nil]); first | done | rfl | (simp only [List.length_drop, List.length_take]; rfl)) ?_; (with_reducible refine (schema_Step.calls kj5 a0_0 a0_1 a0_2 a0_3 a0_0 a0_1 a0_2 a0_3 t289 _ A94.out).mono ?_); rintro e w143 ⟨rfl, hb⟩; refine ⟨_, rfl, ?_⟩; have n0_ := Aside0.mk (blk_below (g := gb282) (o := .cells #[.int .i64 a0_0, .int .i64 a0_1, .int .i64 a0_2, .int .i64 a0_3] 34 (0, 0)) (by (with_reducible repeat (first | refine blk_drewN ?_ _ | refine blk_drew ?_ | refine blk_alloc ?_ _)); exact BK282.out) hb); have n1_ := Aside0.mk (blk_below (g := gb283) (o := .cells #[.int .i64 a1_0, .int .i64 a1_1, .int .i64 a1_2, .int .i64 a1_3] 34 (0, 0)) (by (with_reducible repeat (first | refine blk_drewN ?_ _ | refine blk_drew ?_ | refine blk_alloc ?_ _)); exact BK283.out) hb); have n2_ := Aside0.mk (below_step (by repeat (first | (with_reducible first | exact HB.out | apply below_alloc | apply pw_below_drewN | apply below_drew1 | refine below_set ?_ GE282.out | refine below_set ?_ GE283.out) | exact HB.out)) hb); clear BK282; clear BK283; clear HB; have BK282 := n0_; have BK283 := n1_; have HB := n2_; clear n0_ n1_ n2_; (try clear hb); (try clear hb2); (try clear hk); (try clear hi)))
                go_ret
                exact ⟨by first | rfl | (simp [errW_none, errW_some] <;> rfl) | (simp [*, errW_none, errW_some] <;> rfl), by repeat (first | (with_reducible first | exact HB.out | apply below_alloc | apply pw_below_drewN | apply below_drew1 | refine below_set ?_ GE282.out | refine below_set ?_ GE283.out) | exact HB.out)⟩
            · rw [if_neg c95] at H
              exact absurd H (by simp)
          · replace c93 := Bool.eq_false_iff.mpr c93
            subst c93
            have H1 : (some (t285 == 2)) = some r := by rw [if_neg (show ¬ (false = true) by decide)] at H; exact H
            clear H
            have H := H1
            clear H1
            obtain rfl := Option.some.inj H
            have hnb144 := NB282_283.out
            have hnc144 := NB283_282.out
            have hcz145_0 : wc.cell? ⟨gb282, 0, none⟩ = some (.int .i64 a0_0) := (blk_cell BK282.out 0).trans rfl
            have hcz145_1 : wc.cell? ⟨gb282, 1, none⟩ = some (.int .i64 a0_1) := (blk_cell BK282.out 1).trans rfl
            have hcz145_2 : wc.cell? ⟨gb282, 2, none⟩ = some (.int .i64 a0_2) := (blk_cell BK282.out 2).trans rfl
            have hcz145_3 : wc.cell? ⟨gb282, 3, none⟩ = some (.int .i64 a0_3) := (blk_cell BK282.out 3).trans rfl
            have hfz145_0 := blk_frozen BK282.out 0
            have hfz145_1 := blk_frozen BK282.out 1
            have hfz145_2 := blk_frozen BK282.out 2
            have hfz145_3 := blk_frozen BK282.out 3
            go_wp2_with (first | ((with_reducible refine gate_callee (f := 15) rfl ?_); refine goesL_ (some 67) rfl rfl Try.func15 (by kernel_rfl) rfl #[.agg #[.int .i64 a0_0, .int .i64 a0_1, .int .i64 a0_2, .int .i64 a0_3]] rfl (by (try simp only [List.map_toArray, List.map_cons, List.map_nil]); first | done | rfl | (simp only [List.length_drop, List.length_take]; rfl)) ?_; (with_reducible refine (schema_May.calls kj5 a0_0 a0_1 a0_2 a0_3 true _ A90.out).mono ?_); rintro e w146 ⟨rfl, hb⟩; refine ⟨_, rfl, ?_⟩; have n0_ := Aside0.mk (blk_below (g := gb282) (o := .cells #[.int .i64 a0_0, .int .i64 a0_1, .int .i64 a0_2, .int .i64 a0_3] 34 (0, 0)) (by (with_reducible repeat (first | refine blk_drewN ?_ _ | refine blk_drew ?_ | refine blk_alloc ?_ _)); exact BK282.out) hb); have n1_ := Aside0.mk (blk_below (g := gb283) (o := .cells #[.int .i64 a1_0, .int .i64 a1_1, .int .i64 a1_2, .int .i64 a1_3] 34 (0, 0)) (by (with_reducible repeat (first | refine blk_drewN ?_ _ | refine blk_drew ?_ | refine blk_alloc ?_ _)); exact BK283.out) hb); have n2_ := Aside0.mk (below_step (by repeat (first | (with_reducible first | exact HB.out | apply below_alloc | apply pw_below_drewN | apply below_drew1 | refine below_set ?_ GE282.out | refine below_set ?_ GE283.out) | exact HB.out)) hb); clear BK282; clear BK283; clear HB; have BK282 := n0_; have BK283 := n1_; have HB := n2_; clear n0_ n1_ n2_; (try clear hb); (try clear hb2); (try clear hk); (try clear hi); have hcz147_0 : w146.cell? ⟨gb283, 0, none⟩ = some (.int .i64 a1_0) := (blk_cell BK283.out 0).trans rfl; have hcz147_1 : w146.cell? ⟨gb283, 1, none⟩ = some (.int .i64 a1_1) := (blk_cell BK283.out 1).trans rfl; have hcz147_2 : w146.cell? ⟨gb283, 2, none⟩ = some (.int .i64 a1_2) := (blk_cell BK283.out 2).trans rfl; have hcz147_3 : w146.cell? ⟨gb283, 3, none⟩ = some (.int .i64 a1_3) := (blk_cell BK283.out 3).trans rfl; have hfz147_0 := blk_frozen BK283.out 0; have hfz147_1 := blk_frozen BK283.out 1; have hfz147_2 := blk_frozen BK283.out 2; have hfz147_3 := blk_frozen BK283.out 3) | (go_at_call 15; (with_reducible refine (schema_May.calls kj5 a1_0 a1_1 a1_2 a1_3 false _ A92.out).mono ?_); rintro e w148 ⟨rfl, hb⟩; have n0_ := Aside0.mk (blk_below (g := gb282) (o := .cells #[.int .i64 a0_0, .int .i64 a0_1, .int .i64 a0_2, .int .i64 a0_3] 34 (0, 0)) (by (with_reducible repeat (first | refine blk_drewN ?_ _ | refine blk_drew ?_ | refine blk_alloc ?_ _)); exact BK282.out) hb); have n1_ := Aside0.mk (blk_below (g := gb283) (o := .cells #[.int .i64 a1_0, .int .i64 a1_1, .int .i64 a1_2, .int .i64 a1_3] 34 (0, 0)) (by (with_reducible repeat (first | refine blk_drewN ?_ _ | refine blk_drew ?_ | refine blk_alloc ?_ _)); exact BK283.out) hb); have n2_ := Aside0.mk (below_step (by repeat (first | (with_reducible first | exact HB.out | apply below_alloc | apply pw_below_drewN | apply below_drew1 | refine below_set ?_ GE282.out | refine below_set ?_ GE283.out) | exact HB.out)) hb); clear BK282; clear BK283; clear HB; have BK282 := n0_; have BK283 := n1_; have HB := n2_; clear n0_ n1_ n2_; (try clear hb); (try clear hb2); (try clear hk); (try clear hi)))
            go_ret
            exact ⟨by first | rfl | (simp [errW_none, errW_some] <;> rfl) | (simp [*, errW_none, errW_some] <;> rfl), by repeat (first | (with_reducible first | exact HB.out | apply below_alloc | apply pw_below_drewN | apply below_drew1 | refine below_set ?_ GE282.out | refine below_set ?_ GE283.out) | exact HB.out)⟩
        · replace c91 := Bool.eq_false_iff.mpr c91
          subst c91
          have H1 : (some (t285 == 2)) = some r := by rw [if_neg (show ¬ (false = true) by decide)] at H; exact H
          clear H
          have H := H1
          clear H1
          obtain rfl := Option.some.inj H
          have hnb149 := NB282_283.out
          have hnc149 := NB283_282.out
          have hcz150_0 : wc.cell? ⟨gb282, 0, none⟩ = some (.int .i64 a0_0) := (blk_cell BK282.out 0).trans rfl
          have hcz150_1 : wc.cell? ⟨gb282, 1, none⟩ = some (.int .i64 a0_1) := (blk_cell BK282.out 1).trans rfl
          have hcz150_2 : wc.cell? ⟨gb282, 2, none⟩ = some (.int .i64 a0_2) := (blk_cell BK282.out 2).trans rfl
          have hcz150_3 : wc.cell? ⟨gb282, 3, none⟩ = some (.int .i64 a0_3) := (blk_cell BK282.out 3).trans rfl
          have hfz150_0 := blk_frozen BK282.out 0
          have hfz150_1 := blk_frozen BK282.out 1
          have hfz150_2 := blk_frozen BK282.out 2
          have hfz150_3 := blk_frozen BK282.out 3
          go_wp2_with (first | ((with_reducible refine gate_callee (f := 15) rfl ?_); refine goesL_ (some 67) rfl rfl Try.func15 (by kernel_rfl) rfl #[.agg #[.int .i64 a0_0, .int .i64 a0_1, .int .i64 a0_2, .int .i64 a0_3]] rfl (by (try simp only [List.map_toArray, List.map_cons, List.map_nil]); first | done | rfl | (simp only [List.length_drop, List.length_take]; rfl)) ?_; (with_reducible refine (schema_May.calls kj5 a0_0 a0_1 a0_2 a0_3 false _ A90.out).mono ?_); rintro e w151 ⟨rfl, hb⟩; refine ⟨_, rfl, ?_⟩; have n0_ := Aside0.mk (blk_below (g := gb282) (o := .cells #[.int .i64 a0_0, .int .i64 a0_1, .int .i64 a0_2, .int .i64 a0_3] 34 (0, 0)) (by (with_reducible repeat (first | refine blk_drewN ?_ _ | refine blk_drew ?_ | refine blk_alloc ?_ _)); exact BK282.out) hb); have n1_ := Aside0.mk (blk_below (g := gb283) (o := .cells #[.int .i64 a1_0, .int .i64 a1_1, .int .i64 a1_2, .int .i64 a1_3] 34 (0, 0)) (by (with_reducible repeat (first | refine blk_drewN ?_ _ | refine blk_drew ?_ | refine blk_alloc ?_ _)); exact BK283.out) hb); have n2_ := Aside0.mk (below_step (by repeat (first | (with_reducible first | exact HB.out | apply below_alloc | apply pw_below_drewN | apply below_drew1 | refine below_set ?_ GE282.out | refine below_set ?_ GE283.out) | exact HB.out)) hb); clear BK282; clear BK283; clear HB; have BK282 := n0_; have BK283 := n1_; have HB := n2_; clear n0_ n1_ n2_; (try clear hb); (try clear hb2); (try clear hk); (try clear hi)))
          go_ret
          exact ⟨by first | rfl | (simp [errW_none, errW_some] <;> rfl) | (simp [*, errW_none, errW_some] <;> rfl), by repeat (first | (with_reducible first | exact HB.out | apply below_alloc | apply pw_below_drewN | apply below_drew1 | refine below_set ?_ GE282.out | refine below_set ?_ GE283.out) | exact HB.out)⟩

end Go.Proofs.Ytiafnckmlklodaa.P
