-- Written by a program of this session over the kit's print of the translation. Lean checks it.
import Derived.Test.YtipnfcicpnmggaaRows
import Derived.Test.YtipnfcicpnmggaaPureEpochAlone
import Derived.Test.YtipnfcicpnmggaaOpens
import Derived.WalkKit
import Derived.ProofKit
import Derived.OpenShut
import Derived.ShutString
import Derived.ChangeOld
import Derived.Below
import Derived.SizedLaws
namespace Go.Proofs.Ytipnfcicpnmggaa.epochAlone
open Go.ChangeShapes Go.WideShapes Go.ChangeAt Go.RowKit Go.Proofs.Ytipnfcicpnmggaa.P Go.Proofs.YtipnfcicpnmggaaW.PrintWords
set_option linter.unusedVariables false
theorem own : ownKnob Try.prog.godebug = none := by kernel_rfl
theorem laidOut : laidOutB Try.prog = true := by kernel_rfl
theorem open_k43 : Rd.Opens Try.prog k43 43 (fun x => (((Lit.int .i64 x.f0).wf = true) ∧ ((Lit.int .i64 x.f1).wf = true))) := by
  have h := Rd.opens_struct Try.underlying43 (by kernel_rfl) (Rd.opensF_cons rfl (Rd.opens_int Try.underlying3 (by kernel_rfl)) (Rd.opensF_last rfl (Rd.opens_int Try.underlying3 (by kernel_rfl)))) (fun x : S43 => (x.f0, x.f1)) (fun y_ => ⟨y_.1, y_.2⟩) (fun _ => rfl)
  exact ⟨h.1, h.2⟩
set_option maxRecDepth 100000 in
theorem lifted (os : Os) (started : os.Started) (H : Type) (enc : TypeId × Value → H) :
    ReturnsInHanded {} Try.checked os 7 .any (Rows.epochAloneSpec.pre6 enc Try.prog Try.f7 Rows.epochAloneRow.domain false) (Rows.epochAloneSpec.post enc Try.prog Try.f7 false true false false) := by
  refine returnsInHanded_of_change_sized (C := Try.checked) own started (by kernel_rfl) Try.func7
    (ChangeSpec.witness6 (enc := enc) (C := Try.checked) false ⟨#[], #[.agg #[.int .i64 0, .int .i64 0, .int .i64 0, .int .i64 0, .int .i64 0, .slice none 0 0], .int .i64 0], []⟩ 8 (by kernel_rfl) (by kernel_rfl) (by kernel_rfl) (by kernel_rfl)) ?_
  intro W base args ds gs before hval0 hW hcnd hsz0 _
  clear hsz0
  have hval : ∀ (j : Nat) t v, Try.f7.params[j]? = some t → args[j]? = some v → Value.okWide Try.prog W .any base t v := hval0
  have hW' := hW
  obtain ⟨p, q, hA0, hV, rfl, hfz, hnd⟩ := hW
  have hA : DataW.TrodAll enc Try.prog W 0 (fun _ => true) true Try.f7.params.toList args.toList ds p := hA0
  rw [Try.params7] at hA hval
  obtain ⟨v0, vs0, d0, ds0, p0, q0, hargs, rfl, rfl, h0, r0⟩ := trodAll_cons hA
  obtain ⟨v1, vs1, d1, ds1, p1, q1, rfl, rfl, rfl, h1, r1⟩ := trodAll_cons r0
  obtain ⟨rfl, rfl, rfl⟩ := trodAll_nil r1
  obtain rfl : args = #[v0, v1] := by cases args; simp_all
  obtain ⟨rfl, rfl⟩ := trodVars_none hV
  have k0 := h0
  have lt0 : ∀ x ∈ p0, x.block < W.heap.size := by obtain ⟨m, hm⟩ := k0; exact DataW.trod_lt m _ _ _ hm
  obtain ⟨x0, cs0, rfl, hk0, w0⟩ := Rd.agg_of (d := (Kd.pair (Kd.int .i64) (Kd.pair (Kd.pair (Kd.int .i64) (Kd.pair (Kd.int .i64) (Kd.pair (Kd.int .i64) (Kd.int .i64)))) (Kd.slice 43 k43)))) (Rd.opens_struct0 Try.underlying25 (by kernel_rfl) (Rd.opensF_cons rfl (Rd.opens_int Try.underlying3 (by kernel_rfl)) (Rd.opensF_cons rfl (Rd.opens_array0 Try.underlying22 (by kernel_rfl) (Rd.opensA_cons (Rd.opens_int Try.underlying3 (by kernel_rfl)) (Rd.opensA_cons (Rd.opens_int Try.underlying3 (by kernel_rfl)) (Rd.opensA_cons (Rd.opens_int Try.underlying3 (by kernel_rfl)) (Rd.opensA_last (Rd.opens_int Try.underlying3 (by kernel_rfl))))))) (Rd.opensF_last rfl (Rd.opens_slice Try.underlying23 (by kernel_rfl) open_k43))))) (by obtain ⟨cs, h, _⟩ := okWide_struct Try.underlying25 (hval 0 25 v0 rfl rfl); exact ⟨cs, h⟩) h0
  obtain ⟨csl0, hcs0⟩ : ∃ csl, csl = cs0.toList := ⟨_, rfl⟩
  rw [← hcs0] at hk0
  obtain ⟨_, _, hcc0, rfl, ⟨_, _, rfl, ⟨_, _, rfl, rfl, ⟨_, _, rfl, rfl, ⟨_, _, rfl, rfl, rfl⟩⟩⟩, ⟨A0_5, c0_5, rfl, hc0_5, hr0_5⟩⟩⟩ := hk0
  obtain rfl : cs0 = #[.int .i64 x0.1, .int .i64 x0.2.1.1, .int .i64 x0.2.1.2.1, .int .i64 x0.2.1.2.2.1, .int .i64 x0.2.1.2.2.2, .slice A0_5 x0.2.2.length c0_5] := by
    rw [hcc0] at hcs0
    rw [← Array.toList_inj, ← hcs0]
    rfl
  clear hcs0 hcc0
  obtain ⟨a1, rfl, rfl, rfl, w1⟩ := open_int Try.underlying3 (hval 1 3 v1 rfl rfl) h1
  clear hA0 hval0
  obtain ⟨k, hf⟩ := Pure.EpochAlone x0.1 x0.2.1.1 x0.2.1.2.1 x0.2.1.2.2.1 x0.2.1.2.2.2 x0.2.2 a1 w0 w1
  refine (drydocklaw17_EpochAlone.calls k x0.1 x0.2.1.1 x0.2.1.2.1 x0.2.1.2.2.1 x0.2.1.2.2.2 A0_5 c0_5 x0.2.2 a1 true W hr0_5 hc0_5 hf).mono fun e W' hpost => ?_
  obtain ⟨he, bel0⟩ := hpost
  have bel := bel0
  subst he
  exact ⟨_, rfl, _, _, _, [], _, [], hW', trodAll_mk1 (shut_bool Try.underlying4 _), (trodAll_cons_mk (Below.trod laidOut (by kernel_rfl) (of_decide_eq_true (by kernel_rfl)) k0 bel lt0) (trodAll_cons_mk (shut_int Try.underlying3 w1) trodAll_mk0)), rfl, bel.frame _, fun h => by cases h⟩
theorem over : Rows.epochAloneRow.holds Try.pinned (OpenSpec.ofChange Rows.epochAloneSpec) :=
  OpenClaim.holds_of_wide 7 Try.f7 rfl rfl rfl rfl rfl rfl rfl ⟨rfl, rfl, rfl, rfl, rfl⟩ rfl rfl rfl rfl rfl (by kernel_rfl) Try.func7 (by kernel_rfl)
    (of_decide_eq_true (by kernel_rfl)) (by unfold Func.isWrapper; first | (rw [if_pos (by decide +kernel)]; kernel_rfl) | (rw [if_neg (by decide +kernel)]; exact ⟨rfl, rfl⟩))
    (fun os started H enc _ => lifted os started H enc)
theorem proved : Rows.EpochAloneSaid := over
#print axioms proved
end Go.Proofs.Ytipnfcicpnmggaa.epochAlone
namespace Go.Proofs.Ytipnfcicpnmggaa
/-- The row, under a short name, for the claim. -/
theorem epochAlone_holds : Rows.EpochAloneSaid := epochAlone.proved
end Go.Proofs.Ytipnfcicpnmggaa
