-- Written by a program of this session over the kit's print of the translation. Lean checks it.
import Derived.Test.YtiafnckmlklodaaRows
import Derived.Test.YtiafnckmlklodaaPureSchemaSteps
import Derived.Test.YtiafnckmlklodaaOpens
import Derived.WalkKit
import Derived.ProofKit
import Derived.OpenShut
import Derived.ShutString
import Derived.ChangeOld
import Derived.Below
import Derived.SizedLaws
namespace Go.Proofs.Ytiafnckmlklodaa.schemaSteps
open Go.ChangeShapes Go.WideShapes Go.ChangeAt Go.RowKit Go.Proofs.Ytiafnckmlklodaa.P Go.Proofs.YtiafnckmlklodaaW.PrintWords
set_option linter.unusedVariables false
theorem own : ownKnob Try.prog.godebug = none := by kernel_rfl
theorem laidOut : laidOutB Try.prog = true := by kernel_rfl
set_option maxRecDepth 100000 in
theorem lifted (os : Os) (started : os.Started) (H : Type) (enc : TypeId × Value → H) :
    ReturnsInHanded {} Try.checked os 7 .any (Rows.schemaStepsSpec.pre6 enc Try.prog Try.f7 Rows.schemaStepsRow.domain false) (Rows.schemaStepsSpec.post enc Try.prog Try.f7 false true false false) := by
  refine returnsInHanded_of_change_sized (C := Try.checked) own started (by kernel_rfl) Try.func7
    (ChangeSpec.witness6 (enc := enc) (C := Try.checked) false ⟨#[], #[.agg #[.int .i64 0, .int .i64 0, .int .i64 0, .int .i64 0], .agg #[.int .i64 0, .int .i64 0, .int .i64 0, .int .i64 0]], []⟩ 8 (by kernel_rfl) (by kernel_rfl) (by kernel_rfl) (by kernel_rfl)) ?_
  intro W base args ds gs before hval0 hW hcnd hsz0 _
  clear hsz0
  have hval : ∀ (j : Nat) t v, Try.f7.params[j]? = some t → args[j]? = some v → Value.okWide Try.prog W .any base t v := hval0
  have hW' := hW
  obtain ⟨p, q, hA0, hV, rfl, hfz, hnd⟩ := hW
  have hA : DataW.TrodAll enc Try.prog W 0 (fun _ => true) true Try.f7.params.toList args.toList ds p := hA0
  rw [Try.params7] at hA hval
  obtain ⟨v0, vs0, d0, ds0, p0, q0, hargs, rfl, rfl, h0, r0⟩ := trodAll_cons hA
  obtain ⟨v1, vs1, d1, ds1, p1, q1, rfl, rfl, rfl, h1, r1⟩ := trodAll_cons r0
  obtain ⟨rfl, rfl, rfl⟩ := trodAll_nil r1
  obtain rfl : args = #[v0, v1] := by cases args; simp_all
  obtain ⟨rfl, rfl⟩ := trodVars_none hV
  have k0 := h0
  have lt0 : ∀ x ∈ p0, x.block < W.heap.size := by obtain ⟨m, hm⟩ := k0; exact DataW.trod_lt m _ _ _ hm
  obtain ⟨x0, cs0, rfl, hk0, w0⟩ := Rd.agg_of (d := (Kd.pair (Kd.int .i64) (Kd.pair (Kd.int .i64) (Kd.pair (Kd.int .i64) (Kd.int .i64))))) (Rd.opens_struct0 Try.underlying34 (by kernel_rfl) (Rd.opensF_cons rfl (Rd.opens_int Try.underlying3 (by kernel_rfl)) (Rd.opensF_cons rfl (Rd.opens_int Try.underlying3 (by kernel_rfl)) (Rd.opensF_cons rfl (Rd.opens_int Try.underlying3 (by kernel_rfl)) (Rd.opensF_last rfl (Rd.opens_int Try.underlying3 (by kernel_rfl))))))) (by obtain ⟨cs, h, _⟩ := okWide_struct Try.underlying34 (hval 0 34 v0 rfl rfl); exact ⟨cs, h⟩) h0
  obtain ⟨csl0, hcs0⟩ : ∃ csl, csl = cs0.toList := ⟨_, rfl⟩
  rw [← hcs0] at hk0
  obtain ⟨_, _, hcc0, rfl, ⟨_, _, rfl, rfl, ⟨_, _, rfl, rfl, rfl⟩⟩⟩ := hk0
  obtain rfl : cs0 = #[.int .i64 x0.1, .int .i64 x0.2.1, .int .i64 x0.2.2.1, .int .i64 x0.2.2.2] := by
    rw [hcc0] at hcs0
    rw [← Array.toList_inj, ← hcs0]
    rfl
  clear hcs0 hcc0
  have k1 := h1
  have lt1 : ∀ x ∈ p1, x.block < W.heap.size := by obtain ⟨m, hm⟩ := k1; exact DataW.trod_lt m _ _ _ hm
  obtain ⟨x1, cs1, rfl, hk1, w1⟩ := Rd.agg_of (d := (Kd.pair (Kd.int .i64) (Kd.pair (Kd.int .i64) (Kd.pair (Kd.int .i64) (Kd.int .i64))))) (Rd.opens_struct0 Try.underlying34 (by kernel_rfl) (Rd.opensF_cons rfl (Rd.opens_int Try.underlying3 (by kernel_rfl)) (Rd.opensF_cons rfl (Rd.opens_int Try.underlying3 (by kernel_rfl)) (Rd.opensF_cons rfl (Rd.opens_int Try.underlying3 (by kernel_rfl)) (Rd.opensF_last rfl (Rd.opens_int Try.underlying3 (by kernel_rfl))))))) (by obtain ⟨cs, h, _⟩ := okWide_struct Try.underlying34 (hval 1 34 v1 rfl rfl); exact ⟨cs, h⟩) h1
  obtain ⟨csl1, hcs1⟩ : ∃ csl, csl = cs1.toList := ⟨_, rfl⟩
  rw [← hcs1] at hk1
  obtain ⟨_, _, hcc1, rfl, ⟨_, _, rfl, rfl, ⟨_, _, rfl, rfl, rfl⟩⟩⟩ := hk1
  obtain rfl : cs1 = #[.int .i64 x1.1, .int .i64 x1.2.1, .int .i64 x1.2.2.1, .int .i64 x1.2.2.2] := by
    rw [hcc1] at hcs1
    rw [← Array.toList_inj, ← hcs1]
    rfl
  clear hcs1 hcc1
  clear hA0 hval0
  obtain ⟨k, hf⟩ := Pure.SchemaSteps x0.1 x0.2.1 x0.2.2.1 x0.2.2.2 x1.1 x1.2.1 x1.2.2.1 x1.2.2.2 w0 w1
  refine (drydocklaw04_SchemaSteps.calls k x0.1 x0.2.1 x0.2.2.1 x0.2.2.2 x1.1 x1.2.1 x1.2.2.1 x1.2.2.2 true W  hf).mono fun e W' hpost => ?_
  obtain ⟨he, bel0⟩ := hpost
  have bel := bel0
  subst he
  exact ⟨_, rfl, _, _, _, [], _, [], hW', trodAll_mk1 (shut_bool Try.underlying4 _), (trodAll_cons_mk (Below.trod laidOut (by kernel_rfl) (of_decide_eq_true (by kernel_rfl)) k0 bel lt0) (trodAll_cons_mk (Below.trod laidOut (by kernel_rfl) (of_decide_eq_true (by kernel_rfl)) k1 bel lt1) trodAll_mk0)), rfl, bel.frame _, fun h => by cases h⟩
theorem over : Rows.schemaStepsRow.holds Try.pinned (OpenSpec.ofChange Rows.schemaStepsSpec) :=
  OpenClaim.holds_of_wide 7 Try.f7 rfl rfl rfl rfl rfl rfl rfl ⟨rfl, rfl, rfl, rfl, rfl⟩ rfl rfl rfl rfl rfl (by kernel_rfl) Try.func7 (by kernel_rfl)
    (of_decide_eq_true (by kernel_rfl)) (by unfold Func.isWrapper; first | (rw [if_pos (by decide +kernel)]; kernel_rfl) | (rw [if_neg (by decide +kernel)]; exact ⟨rfl, rfl⟩))
    (fun os started H enc _ => lifted os started H enc)
theorem proved : Rows.SchemaStepsSaid := over
#print axioms proved
end Go.Proofs.Ytiafnckmlklodaa.schemaSteps
namespace Go.Proofs.Ytiafnckmlklodaa
/-- The row, under a short name, for the claim. -/
theorem schemaSteps_holds : Rows.SchemaStepsSaid := schemaSteps.proved
end Go.Proofs.Ytiafnckmlklodaa
