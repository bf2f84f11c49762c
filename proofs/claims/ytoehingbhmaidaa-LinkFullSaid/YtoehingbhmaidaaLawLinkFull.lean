-- Written by a program of this session over the kit's print of the translation. Lean checks it.
import Derived.Test.YtoehingbhmaidaaRows
import Derived.Test.YtoehingbhmaidaaPureLinkFull
import Derived.Test.YtoehingbhmaidaaOpens
import Derived.WalkKit
import Derived.ProofKit
import Derived.OpenShut
import Derived.ShutString
import Derived.ChangeOld
import Derived.Below
import Derived.SizedLaws
namespace Go.Proofs.Ytoehingbhmaidaa.linkFull
open Go.ChangeShapes Go.WideShapes Go.ChangeAt Go.RowKit Go.Proofs.Ytoehingbhmaidaa.P Go.Proofs.YtoehingbhmaidaaW.PrintWords
set_option linter.unusedVariables false
theorem own : ownKnob Try.prog.godebug = none := by kernel_rfl
theorem laidOut : laidOutB Try.prog = true := by kernel_rfl
set_option maxRecDepth 100000 in
theorem lifted (os : Os) (started : os.Started) (H : Type) (enc : TypeId × Value → H) :
    ReturnsInHanded {} Try.checked os 9 .any (Rows.linkFullSpec.pre6 enc Try.prog Try.f9 Rows.linkFullRow.domain false) (Rows.linkFullSpec.post enc Try.prog Try.f9 false true false false) := by
  refine returnsInHanded_of_change_sized (C := Try.checked) own started (by kernel_rfl) Try.func9
    (ChangeSpec.witness6 (enc := enc) (C := Try.checked) false ⟨#[], #[.agg #[.int .i64 0, .int .i64 0, .int .i64 0, .int .i64 0, .int .i64 0], .int .i64 0], []⟩ 8 (by kernel_rfl) (by kernel_rfl) (by kernel_rfl) (by kernel_rfl)) ?_
  intro W base args ds gs before hval0 hW hcnd hsz0 _
  clear hsz0
  have hval : ∀ (j : Nat) t v, Try.f9.params[j]? = some t → args[j]? = some v → Value.okWide Try.prog W .any base t v := hval0
  have hW' := hW
  obtain ⟨p, q, hA0, hV, rfl, hfz, hnd⟩ := hW
  have hA : DataW.TrodAll enc Try.prog W 0 (fun _ => true) true Try.f9.params.toList args.toList ds p := hA0
  rw [Try.params9] at hA hval
  obtain ⟨v0, vs0, d0, ds0, p0, q0, hargs, rfl, rfl, h0, r0⟩ := trodAll_cons hA
  obtain ⟨v1, vs1, d1, ds1, p1, q1, rfl, rfl, rfl, h1, r1⟩ := trodAll_cons r0
  obtain ⟨rfl, rfl, rfl⟩ := trodAll_nil r1
  obtain rfl : args = #[v0, v1] := by cases args; simp_all
  obtain ⟨rfl, rfl⟩ := trodVars_none hV
  have k0 := h0
  have lt0 : ∀ x ∈ p0, x.block < W.heap.size := by obtain ⟨m, hm⟩ := k0; exact DataW.trod_lt m _ _ _ hm
  obtain ⟨x0, cs0, rfl, hk0, w0⟩ := Rd.agg_of (d := (Kd.pair (Kd.int .i64) (Kd.pair (Kd.int .i64) (Kd.pair (Kd.int .i64) (Kd.pair (Kd.int .i64) (Kd.int .i64)))))) (Rd.opens_array0 Try.underlying41 (by kernel_rfl) (Rd.opensA_cons (Rd.opens_int Try.underlying3 (by kernel_rfl)) (Rd.opensA_cons (Rd.opens_int Try.underlying3 (by kernel_rfl)) (Rd.opensA_cons (Rd.opens_int Try.underlying3 (by kernel_rfl)) (Rd.opensA_cons (Rd.opens_int Try.underlying3 (by kernel_rfl)) (Rd.opensA_last (Rd.opens_int Try.underlying3 (by kernel_rfl)))))))) (by obtain ⟨cs, h, _⟩ := Rd.okWide_array Try.underlying41 (hval 0 41 v0 rfl rfl); exact ⟨cs, h⟩) h0
  obtain ⟨csl0, hcs0⟩ : ∃ csl, csl = cs0.toList := ⟨_, rfl⟩
  rw [← hcs0] at hk0
  obtain ⟨_, _, hcc0, rfl, ⟨_, _, rfl, rfl, ⟨_, _, rfl, rfl, ⟨_, _, rfl, rfl, rfl⟩⟩⟩⟩ := hk0
  obtain rfl : cs0 = #[.int .i64 x0.1, .int .i64 x0.2.1, .int .i64 x0.2.2.1, .int .i64 x0.2.2.2.1, .int .i64 x0.2.2.2.2] := by
    rw [hcc0] at hcs0
    rw [← Array.toList_inj, ← hcs0]
    rfl
  clear hcs0 hcc0
  obtain ⟨a1, rfl, rfl, rfl, w1⟩ := open_int Try.underlying3 (hval 1 3 v1 rfl rfl) h1
  clear hA0 hval0
  obtain ⟨k, hf⟩ := Pure.LinkFull x0.1 x0.2.1 x0.2.2.1 x0.2.2.2.1 x0.2.2.2.2 a1 w0 w1
  refine (drydocklaw16_LinkFull.calls k x0.1 x0.2.1 x0.2.2.1 x0.2.2.2.1 x0.2.2.2.2 a1 true W  hf).mono fun e W' hpost => ?_
  obtain ⟨he, bel0⟩ := hpost
  have bel := bel0
  subst he
  exact ⟨_, rfl, _, _, _, [], _, [], hW', trodAll_mk1 (shut_bool Try.underlying4 _), (trodAll_cons_mk (Below.trod laidOut (by kernel_rfl) (of_decide_eq_true (by kernel_rfl)) k0 bel lt0) (trodAll_cons_mk (shut_int Try.underlying3 w1) trodAll_mk0)), rfl, bel.frame _, fun h => by cases h⟩
theorem over : Rows.linkFullRow.holds Try.pinned (OpenSpec.ofChange Rows.linkFullSpec) :=
  OpenClaim.holds_of_wide 9 Try.f9 rfl rfl rfl rfl rfl rfl rfl ⟨rfl, rfl, rfl, rfl, rfl⟩ rfl rfl rfl rfl rfl (by kernel_rfl) Try.func9 (by kernel_rfl)
    (of_decide_eq_true (by kernel_rfl)) (by unfold Func.isWrapper; first | (rw [if_pos (by decide +kernel)]; kernel_rfl) | (rw [if_neg (by decide +kernel)]; exact ⟨rfl, rfl⟩))
    (fun os started H enc _ => lifted os started H enc)
theorem proved : Rows.LinkFullSaid := over
#print axioms proved
end Go.Proofs.Ytoehingbhmaidaa.linkFull
namespace Go.Proofs.Ytoehingbhmaidaa
/-- The row, under a short name, for the claim. -/
theorem linkFull_holds : Rows.LinkFullSaid := linkFull.proved
end Go.Proofs.Ytoehingbhmaidaa
