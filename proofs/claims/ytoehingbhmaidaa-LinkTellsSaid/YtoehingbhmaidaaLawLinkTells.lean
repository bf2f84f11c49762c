-- Written by a program of this session over the kit's print of the translation. Lean checks it.
import Derived.Test.YtoehingbhmaidaaRows
import Derived.Test.YtoehingbhmaidaaPureLinkTells
import Derived.Test.YtoehingbhmaidaaOpens
import Derived.WalkKit
import Derived.ProofKit
import Derived.OpenShut
import Derived.ShutString
import Derived.ChangeOld
import Derived.Below
import Derived.SizedLaws
namespace Go.Proofs.Ytoehingbhmaidaa.linkTells
open Go.ChangeShapes Go.WideShapes Go.ChangeAt Go.RowKit Go.Proofs.Ytoehingbhmaidaa.P Go.Proofs.YtoehingbhmaidaaW.PrintWords
set_option linter.unusedVariables false
theorem own : ownKnob Try.prog.godebug = none := by kernel_rfl
theorem laidOut : laidOutB Try.prog = true := by kernel_rfl
theorem open_k26 : Rd.Opens Try.prog k26 26 (fun x => (((Lit.int .i64 x.f0).wf = true) ∧ ((Lit.int .i64 x.f1).wf = true))) := by
  have h := Rd.opens_struct Try.underlying26 (by kernel_rfl) (Rd.opensF_cons rfl (Rd.opens_int Try.underlying3 (by kernel_rfl)) (Rd.opensF_last rfl (Rd.opens_int Try.underlying3 (by kernel_rfl)))) (fun x : S26 => (x.f0, x.f1)) (fun y_ => ⟨y_.1, y_.2⟩) (fun _ => rfl)
  exact ⟨h.1, h.2⟩
set_option maxRecDepth 100000 in
theorem lifted (os : Os) (started : os.Started) (H : Type) (enc : TypeId × Value → H) :
    ReturnsInHanded {} Try.checked os 3 .any (Rows.linkTellsSpec.pre6 enc Try.prog Try.f3 Rows.linkTellsRow.domain false) (Rows.linkTellsSpec.post enc Try.prog Try.f3 false true false false) := by
  refine returnsInHanded_of_change_sized (C := Try.checked) own started (by kernel_rfl) Try.func3
    (ChangeSpec.witness6 (enc := enc) (C := Try.checked) false ⟨#[], #[.agg #[.int .i64 0, .slice none 0 0], .agg #[.int .i64 0, .int .i64 0], .int .i64 0, .int .i64 0, .int .i64 0], []⟩ 8 (by kernel_rfl) (by kernel_rfl) (by kernel_rfl) (by kernel_rfl)) ?_
  intro W base args ds gs before hval0 hW hcnd hsz0 _
  clear hsz0
  have hval : ∀ (j : Nat) t v, Try.f3.params[j]? = some t → args[j]? = some v → Value.okWide Try.prog W .any base t v := hval0
  have hW' := hW
  obtain ⟨p, q, hA0, hV, rfl, hfz, hnd⟩ := hW
  have hA : DataW.TrodAll enc Try.prog W 0 (fun _ => true) true Try.f3.params.toList args.toList ds p := hA0
  rw [Try.params3] at hA hval
  obtain ⟨v0, vs0, d0, ds0, p0, q0, hargs, rfl, rfl, h0, r0⟩ := trodAll_cons hA
  obtain ⟨v1, vs1, d1, ds1, p1, q1, rfl, rfl, rfl, h1, r1⟩ := trodAll_cons r0
  obtain ⟨v2, vs2, d2, ds2, p2, q2, rfl, rfl, rfl, h2, r2⟩ := trodAll_cons r1
  obtain ⟨v3, vs3, d3, ds3, p3, q3, rfl, rfl, rfl, h3, r3⟩ := trodAll_cons r2
  obtain ⟨v4, vs4, d4, ds4, p4, q4, rfl, rfl, rfl, h4, r4⟩ := trodAll_cons r3
  obtain ⟨rfl, rfl, rfl⟩ := trodAll_nil r4
  obtain rfl : args = #[v0, v1, v2, v3, v4] := by cases args; simp_all
  obtain ⟨rfl, rfl⟩ := trodVars_none hV
  have k0 := h0
  have lt0 : ∀ x ∈ p0, x.block < W.heap.size := by obtain ⟨m, hm⟩ := k0; exact DataW.trod_lt m _ _ _ hm
  obtain ⟨x0, cs0, rfl, hk0, w0⟩ := Rd.agg_of (d := (Kd.pair (Kd.int .i64) (Kd.slice 26 k26))) (Rd.opens_struct0 Try.underlying24 (by kernel_rfl) (Rd.opensF_cons rfl (Rd.opens_int Try.underlying3 (by kernel_rfl)) (Rd.opensF_last rfl (Rd.opens_slice Try.underlying22 (by kernel_rfl) open_k26)))) (by obtain ⟨cs, h, _⟩ := okWide_struct Try.underlying24 (hval 0 24 v0 rfl rfl); exact ⟨cs, h⟩) h0
  obtain ⟨csl0, hcs0⟩ : ∃ csl, csl = cs0.toList := ⟨_, rfl⟩
  rw [← hcs0] at hk0
  obtain ⟨_, _, hcc0, rfl, ⟨A0_1, c0_1, rfl, hc0_1, hr0_1⟩⟩ := hk0
  obtain rfl : cs0 = #[.int .i64 x0.1, .slice A0_1 x0.2.length c0_1] := by
    rw [hcc0] at hcs0
    rw [← Array.toList_inj, ← hcs0]
    rfl
  clear hcs0 hcc0
  have k1 := h1
  have lt1 : ∀ x ∈ p1, x.block < W.heap.size := by obtain ⟨m, hm⟩ := k1; exact DataW.trod_lt m _ _ _ hm
  obtain ⟨x1, cs1, rfl, hk1, w1⟩ := Rd.agg_of (d := (Kd.pair (Kd.int .i64) (Kd.int .i64))) (Rd.opens_struct0 Try.underlying26 (by kernel_rfl) (Rd.opensF_cons rfl (Rd.opens_int Try.underlying3 (by kernel_rfl)) (Rd.opensF_last rfl (Rd.opens_int Try.underlying3 (by kernel_rfl))))) (by obtain ⟨cs, h, _⟩ := okWide_struct Try.underlying26 (hval 1 26 v1 rfl rfl); exact ⟨cs, h⟩) h1
  obtain ⟨csl1, hcs1⟩ : ∃ csl, csl = cs1.toList := ⟨_, rfl⟩
  rw [← hcs1] at hk1
  obtain ⟨_, _, hcc1, rfl, rfl⟩ := hk1
  obtain rfl : cs1 = #[.int .i64 x1.1, .int .i64 x1.2] := by
    rw [hcc1] at hcs1
    rw [← Array.toList_inj, ← hcs1]
    rfl
  clear hcs1 hcc1
  obtain ⟨a2, rfl, rfl, rfl, w2⟩ := open_int Try.underlying3 (hval 2 3 v2 rfl rfl) h2
  obtain ⟨a3, rfl, rfl, rfl, w3⟩ := open_int Try.underlying3 (hval 3 3 v3 rfl rfl) h3
  obtain ⟨a4, rfl, rfl, rfl, w4⟩ := open_int Try.underlying3 (hval 4 3 v4 rfl rfl) h4
  clear hA0 hval0
  obtain ⟨k, hf⟩ := Pure.LinkTells x0.1 x0.2 x1.1 x1.2 a2 a3 a4 w0 w1 w2 w3 w4
  refine (drydocklaw16_LinkTells.calls k x0.1 A0_1 c0_1 x0.2 x1.1 x1.2 a2 a3 a4 true W hr0_1 hc0_1 hf).mono fun e W' hpost => ?_
  obtain ⟨he, bel0⟩ := hpost
  have bel := bel0
  subst he
  exact ⟨_, rfl, _, _, _, [], _, [], hW', trodAll_mk1 (shut_bool Try.underlying4 _), (trodAll_cons_mk (Below.trod laidOut (by kernel_rfl) (of_decide_eq_true (by kernel_rfl)) k0 bel lt0) (trodAll_cons_mk (Below.trod laidOut (by kernel_rfl) (of_decide_eq_true (by kernel_rfl)) k1 bel lt1) (trodAll_cons_mk (shut_int Try.underlying3 w2) (trodAll_cons_mk (shut_int Try.underlying3 w3) (trodAll_cons_mk (shut_int Try.underlying3 w4) trodAll_mk0))))), rfl, bel.frame _, fun h => by cases h⟩
theorem over : Rows.linkTellsRow.holds Try.pinned (OpenSpec.ofChange Rows.linkTellsSpec) :=
  OpenClaim.holds_of_wide 3 Try.f3 rfl rfl rfl rfl rfl rfl rfl ⟨rfl, rfl, rfl, rfl, rfl⟩ rfl rfl rfl rfl rfl (by kernel_rfl) Try.func3 (by kernel_rfl)
    (of_decide_eq_true (by kernel_rfl)) (by unfold Func.isWrapper; first | (rw [if_pos (by decide +kernel)]; kernel_rfl) | (rw [if_neg (by decide +kernel)]; exact ⟨rfl, rfl⟩))
    (fun os started H enc _ => lifted os started H enc)
theorem proved : Rows.LinkTellsSaid := over
#print axioms proved
end Go.Proofs.Ytoehingbhmaidaa.linkTells
namespace Go.Proofs.Ytoehingbhmaidaa
/-- The row, under a short name, for the claim. -/
theorem linkTells_holds : Rows.LinkTellsSaid := linkTells.proved
end Go.Proofs.Ytoehingbhmaidaa
