-- Written by a program of this session over the kit's print of the translation. Lean checks it.
import Derived.Test.YtipnfcicpnmggaaRows
import Derived.Test.YtipnfcicpnmggaaPureEpochWaits
import Derived.Test.YtipnfcicpnmggaaOpens
import Derived.WalkKit
import Derived.ProofKit
import Derived.OpenShut
import Derived.ShutString
import Derived.ChangeOld
import Derived.Below
import Derived.SizedLaws
namespace Go.Proofs.Ytipnfcicpnmggaa.epochWaits
open Go.ChangeShapes Go.WideShapes Go.ChangeAt Go.RowKit Go.Proofs.Ytipnfcicpnmggaa.P Go.Proofs.YtipnfcicpnmggaaW.PrintWords
set_option linter.unusedVariables false
theorem own : ownKnob Try.prog.godebug = none := by kernel_rfl
theorem laidOut : laidOutB Try.prog = true := by kernel_rfl
set_option maxRecDepth 100000 in
theorem lifted (os : Os) (started : os.Started) (H : Type) (enc : TypeId × Value → H) :
    ReturnsInHanded {} Try.checked os 4 .any (Rows.epochWaitsSpec.pre6 enc Try.prog Try.f4 Rows.epochWaitsRow.domain false) (Rows.epochWaitsSpec.post enc Try.prog Try.f4 false true false false) := by
  refine returnsInHanded_of_change_sized (C := Try.checked) own started (by kernel_rfl) Try.func4
    (ChangeSpec.witness6 (enc := enc) (C := Try.checked) false ⟨#[], #[.agg #[.bool false, .bool false, .bool false, .bool false], .agg #[.bool false, .bool false, .bool false, .bool false], .agg #[.bool false, .bool false, .bool false, .bool false]], []⟩ 8 (by kernel_rfl) (by kernel_rfl) (by kernel_rfl) (by kernel_rfl)) ?_
  intro W base args ds gs before hval0 hW hcnd hsz0 _
  clear hsz0
  have hval : ∀ (j : Nat) t v, Try.f4.params[j]? = some t → args[j]? = some v → Value.okWide Try.prog W .any base t v := hval0
  have hW' := hW
  obtain ⟨p, q, hA0, hV, rfl, hfz, hnd⟩ := hW
  have hA : DataW.TrodAll enc Try.prog W 0 (fun _ => true) true Try.f4.params.toList args.toList ds p := hA0
  rw [Try.params4] at hA hval
  obtain ⟨v0, vs0, d0, ds0, p0, q0, hargs, rfl, rfl, h0, r0⟩ := trodAll_cons hA
  obtain ⟨v1, vs1, d1, ds1, p1, q1, rfl, rfl, rfl, h1, r1⟩ := trodAll_cons r0
  obtain ⟨v2, vs2, d2, ds2, p2, q2, rfl, rfl, rfl, h2, r2⟩ := trodAll_cons r1
  obtain ⟨rfl, rfl, rfl⟩ := trodAll_nil r2
  obtain rfl : args = #[v0, v1, v2] := by cases args; simp_all
  obtain ⟨rfl, rfl⟩ := trodVars_none hV
  have k0 := h0
  have lt0 : ∀ x ∈ p0, x.block < W.heap.size := by obtain ⟨m, hm⟩ := k0; exact DataW.trod_lt m _ _ _ hm
  obtain ⟨x0, cs0, rfl, hk0, w0⟩ := Rd.agg_of (d := (Kd.pair Kd.bool (Kd.pair Kd.bool (Kd.pair Kd.bool Kd.bool)))) (Rd.opens_array0 Try.underlying39 (by kernel_rfl) (Rd.opensA_cons (Rd.opens_bool Try.underlying4 (by kernel_rfl)) (Rd.opensA_cons (Rd.opens_bool Try.underlying4 (by kernel_rfl)) (Rd.opensA_cons (Rd.opens_bool Try.underlying4 (by kernel_rfl)) (Rd.opensA_last (Rd.opens_bool Try.underlying4 (by kernel_rfl))))))) (by obtain ⟨cs, h, _⟩ := Rd.okWide_array Try.underlying39 (hval 0 39 v0 rfl rfl); exact ⟨cs, h⟩) h0
  obtain ⟨csl0, hcs0⟩ : ∃ csl, csl = cs0.toList := ⟨_, rfl⟩
  rw [← hcs0] at hk0
  obtain ⟨_, _, hcc0, rfl, ⟨_, _, rfl, rfl, ⟨_, _, rfl, rfl, rfl⟩⟩⟩ := hk0
  obtain rfl : cs0 = #[.bool x0.1, .bool x0.2.1, .bool x0.2.2.1, .bool x0.2.2.2] := by
    rw [hcc0] at hcs0
    rw [← Array.toList_inj, ← hcs0]
    rfl
  clear hcs0 hcc0
  have k1 := h1
  have lt1 : ∀ x ∈ p1, x.block < W.heap.size := by obtain ⟨m, hm⟩ := k1; exact DataW.trod_lt m _ _ _ hm
  obtain ⟨x1, cs1, rfl, hk1, w1⟩ := Rd.agg_of (d := (Kd.pair Kd.bool (Kd.pair Kd.bool (Kd.pair Kd.bool Kd.bool)))) (Rd.opens_array0 Try.underlying39 (by kernel_rfl) (Rd.opensA_cons (Rd.opens_bool Try.underlying4 (by kernel_rfl)) (Rd.opensA_cons (Rd.opens_bool Try.underlying4 (by kernel_rfl)) (Rd.opensA_cons (Rd.opens_bool Try.underlying4 (by kernel_rfl)) (Rd.opensA_last (Rd.opens_bool Try.underlying4 (by kernel_rfl))))))) (by obtain ⟨cs, h, _⟩ := Rd.okWide_array Try.underlying39 (hval 1 39 v1 rfl rfl); exact ⟨cs, h⟩) h1
  obtain ⟨csl1, hcs1⟩ : ∃ csl, csl = cs1.toList := ⟨_, rfl⟩
  rw [← hcs1] at hk1
  obtain ⟨_, _, hcc1, rfl, ⟨_, _, rfl, rfl, ⟨_, _, rfl, rfl, rfl⟩⟩⟩ := hk1
  obtain rfl : cs1 = #[.bool x1.1, .bool x1.2.1, .bool x1.2.2.1, .bool x1.2.2.2] := by
    rw [hcc1] at hcs1
    rw [← Array.toList_inj, ← hcs1]
    rfl
  clear hcs1 hcc1
  have k2 := h2
  have lt2 : ∀ x ∈ p2, x.block < W.heap.size := by obtain ⟨m, hm⟩ := k2; exact DataW.trod_lt m _ _ _ hm
  obtain ⟨x2, cs2, rfl, hk2, w2⟩ := Rd.agg_of (d := (Kd.pair Kd.bool (Kd.pair Kd.bool (Kd.pair Kd.bool Kd.bool)))) (Rd.opens_array0 Try.underlying39 (by kernel_rfl) (Rd.opensA_cons (Rd.opens_bool Try.underlying4 (by kernel_rfl)) (Rd.opensA_cons (Rd.opens_bool Try.underlying4 (by kernel_rfl)) (Rd.opensA_cons (Rd.opens_bool Try.underlying4 (by kernel_rfl)) (Rd.opensA_last (Rd.opens_bool Try.underlying4 (by kernel_rfl))))))) (by obtain ⟨cs, h, _⟩ := Rd.okWide_array Try.underlying39 (hval 2 39 v2 rfl rfl); exact ⟨cs, h⟩) h2
  obtain ⟨csl2, hcs2⟩ : ∃ csl, csl = cs2.toList := ⟨_, rfl⟩
  rw [← hcs2] at hk2
  obtain ⟨_, _, hcc2, rfl, ⟨_, _, rfl, rfl, ⟨_, _, rfl, rfl, rfl⟩⟩⟩ := hk2
  obtain rfl : cs2 = #[.bool x2.1, .bool x2.2.1, .bool x2.2.2.1, .bool x2.2.2.2] := by
    rw [hcc2] at hcs2
    rw [← Array.toList_inj, ← hcs2]
    rfl
  clear hcs2 hcc2
  clear hA0 hval0
  obtain ⟨k, hf⟩ := Pure.EpochWaits x0.1 x0.2.1 x0.2.2.1 x0.2.2.2 x1.1 x1.2.1 x1.2.2.1 x1.2.2.2 x2.1 x2.2.1 x2.2.2.1 x2.2.2.2 w0 w1 w2
  refine (drydocklaw17_EpochWaits.calls k x0.1 x0.2.1 x0.2.2.1 x0.2.2.2 x1.1 x1.2.1 x1.2.2.1 x1.2.2.2 x2.1 x2.2.1 x2.2.2.1 x2.2.2.2 true W  hf).mono fun e W' hpost => ?_
  obtain ⟨he, bel0⟩ := hpost
  have bel := bel0
  subst he
  exact ⟨_, rfl, _, _, _, [], _, [], hW', trodAll_mk1 (shut_bool Try.underlying4 _), (trodAll_cons_mk (Below.trod laidOut (by kernel_rfl) (of_decide_eq_true (by kernel_rfl)) k0 bel lt0) (trodAll_cons_mk (Below.trod laidOut (by kernel_rfl) (of_decide_eq_true (by kernel_rfl)) k1 bel lt1) (trodAll_cons_mk (Below.trod laidOut (by kernel_rfl) (of_decide_eq_true (by kernel_rfl)) k2 bel lt2) trodAll_mk0))), rfl, bel.frame _, fun h => by cases h⟩
theorem over : Rows.epochWaitsRow.holds Try.pinned (OpenSpec.ofChange Rows.epochWaitsSpec) :=
  OpenClaim.holds_of_wide 4 Try.f4 rfl rfl rfl rfl rfl rfl rfl ⟨rfl, rfl, rfl, rfl, rfl⟩ rfl rfl rfl rfl rfl (by kernel_rfl) Try.func4 (by kernel_rfl)
    (of_decide_eq_true (by kernel_rfl)) (by unfold Func.isWrapper; first | (rw [if_pos (by decide +kernel)]; kernel_rfl) | (rw [if_neg (by decide +kernel)]; exact ⟨rfl, rfl⟩))
    (fun os started H enc _ => lifted os started H enc)
theorem proved : Rows.EpochWaitsSaid := over
#print axioms proved
end Go.Proofs.Ytipnfcicpnmggaa.epochWaits
namespace Go.Proofs.Ytipnfcicpnmggaa
/-- The row, under a short name, for the claim. -/
theorem epochWaits_holds : Rows.EpochWaitsSaid := epochWaits.proved
end Go.Proofs.Ytipnfcicpnmggaa
