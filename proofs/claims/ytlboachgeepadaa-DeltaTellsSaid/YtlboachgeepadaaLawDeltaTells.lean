-- Written by a program of this session over the kit's print of the translation. Lean checks it.
import Derived.Test.YtlboachgeepadaaRows
import Derived.Test.YtlboachgeepadaaPureDeltaTells
import Derived.Test.YtlboachgeepadaaOpens
import Derived.WalkKit
import Derived.ProofKit
import Derived.OpenShut
import Derived.ShutString
import Derived.ChangeOld
import Derived.Below
import Derived.SizedLaws
namespace Go.Proofs.Ytlboachgeepadaa.deltaTells
open Go.ChangeShapes Go.WideShapes Go.ChangeAt Go.RowKit Go.Proofs.Ytlboachgeepadaa.P Go.Proofs.YtlboachgeepadaaW.PrintWords
set_option linter.unusedVariables false
theorem own : ownKnob Try.prog.godebug = none := by kernel_rfl
theorem laidOut : laidOutB Try.prog = true := by kernel_rfl
theorem open_k72 : Rd.Opens Try.prog k72 72 (fun x => (((Lit.int .i64 x.f0).wf = true) ∧ ((Lit.int .i64 x.f1).wf = true) ∧ ((Lit.int .i64 x.f2).wf = true) ∧ ((Lit.int .i64 x.f3).wf = true) ∧ (True) ∧ ((Lit.int .i64 x.f5).wf = true) ∧ ((Lit.int .u32 x.f6).wf = true))) := by
  have h := Rd.opens_struct Try.underlying72 (by kernel_rfl) (Rd.opensF_cons rfl (Rd.opens_int Try.underlying3 (by kernel_rfl)) (Rd.opensF_cons rfl (Rd.opens_int Try.underlying3 (by kernel_rfl)) (Rd.opensF_cons rfl (Rd.opens_int Try.underlying3 (by kernel_rfl)) (Rd.opensF_cons rfl (Rd.opens_int Try.underlying3 (by kernel_rfl)) (Rd.opensF_cons rfl (Rd.opens_bool Try.underlying4 (by kernel_rfl)) (Rd.opensF_cons rfl (Rd.opens_int Try.underlying3 (by kernel_rfl)) (Rd.opensF_last rfl (Rd.opens_int Try.underlying27 (by kernel_rfl))))))))) (fun x : S72 => (x.f0, x.f1, x.f2, x.f3, x.f4, x.f5, x.f6)) (fun y_ => ⟨y_.1, y_.2.1, y_.2.2.1, y_.2.2.2.1, y_.2.2.2.2.1, y_.2.2.2.2.2.1, y_.2.2.2.2.2.2⟩) (fun _ => rfl)
  exact ⟨h.1, h.2⟩
theorem open_k61 : Rd.Opens Try.prog k61 61 (fun x => (((Lit.int .i64 x.f0).wf = true) ∧ (x.f1.length ≤ 9223372036854775807 ∧ ∀ x_ ∈ x.f1, (((Lit.int .i64 x_.f0).wf = true) ∧ ((Lit.int .i64 x_.f1).wf = true) ∧ ((Lit.int .i64 x_.f2).wf = true) ∧ ((Lit.int .i64 x_.f3).wf = true) ∧ (True) ∧ ((Lit.int .i64 x_.f5).wf = true) ∧ ((Lit.int .u32 x_.f6).wf = true))))) := by
  have h := Rd.opens_struct Try.underlying61 (by kernel_rfl) (Rd.opensF_cons rfl (Rd.opens_int Try.underlying3 (by kernel_rfl)) (Rd.opensF_last rfl (Rd.opens_slice Try.underlying59 (by kernel_rfl) open_k72))) (fun x : S61 => (x.f0, x.f1)) (fun y_ => ⟨y_.1, y_.2⟩) (fun _ => rfl)
  exact ⟨h.1, h.2⟩
theorem open_k63 : Rd.Opens Try.prog k63 63 (fun x => (((Lit.int .u32 x.f0).wf = true) ∧ (x.f1.length ≤ 9223372036854775807 ∧ ∀ x_ ∈ x.f1, ((Lit.int .u32 x_).wf = true)))) := by
  have h := Rd.opens_struct Try.underlying63 (by kernel_rfl) (Rd.opensF_cons rfl (Rd.opens_int Try.underlying27 (by kernel_rfl)) (Rd.opensF_last rfl (Rd.opens_slice Try.underlying22 (by kernel_rfl) (Rd.opens_int Try.underlying27 (by kernel_rfl))))) (fun x : S63 => (x.f0, x.f1)) (fun y_ => ⟨y_.1, y_.2⟩) (fun _ => rfl)
  exact ⟨h.1, h.2⟩
theorem heap_k63 : Kd.Heap k63 := Kd.heap_iso _ (Kd.heap_pair (Kd.heap_int .u32) (Kd.heap_slice 27 (Kd.heap_int .u32)))
theorem share_k63 {W : World} {A : Option Addr} {c : Nat} {xs : List S63} (hc : xs.length ≤ c) (h : Kd.C k63 W A xs.length xs) : Kd.V k63 63 W W.heap.size (fun k_ => (fun k : Nat => k < W.heap.size) k_) (.slice A xs.length c) xs :=
  Kd.V_mk hc (fun W' hW => heap_k63.C (fun k hk => hW k hk hk) h)
set_option maxRecDepth 100000 in
theorem lifted (os : Os) (started : os.Started) (H : Type) (enc : TypeId × Value → H) :
    ReturnsInHanded {} Try.checked os 5 .any (Rows.deltaTellsSpec.pre6 enc Try.prog Try.f5 Rows.deltaTellsRow.domain false) (Rows.deltaTellsSpec.post enc Try.prog Try.f5 false true false false) := by
  refine returnsInHanded_of_change_sized (C := Try.checked) own started (by kernel_rfl) Try.func5
    (ChangeSpec.witness6 (enc := enc) (C := Try.checked) false ⟨#[], #[.agg #[.slice none 0 0, .bool false], .int .u32 0, .int .i64 0, .slice none 0 0, .agg #[.int .i64 0, .int .i64 0, .int .i64 0, .int .i64 0, .slice none 0 0, .slice none 0 0, .int .i64 0, .int .i64 0, .int .i64 0, .int .i64 0, .slice none 0 0, .int .u32 0]], []⟩ 8 (by kernel_rfl) (by kernel_rfl) (by kernel_rfl) (by kernel_rfl)) ?_
  intro W base args ds gs before hval0 hW hcnd hsz0 _
  clear hsz0
  have hval : ∀ (j : Nat) t v, Try.f5.params[j]? = some t → args[j]? = some v → Value.okWide Try.prog W .any base t v := hval0
  have hW' := hW
  obtain ⟨p, q, hA0, hV, rfl, hfz, hnd⟩ := hW
  have hA : DataW.TrodAll enc Try.prog W 0 (fun _ => true) true Try.f5.params.toList args.toList ds p := hA0
  rw [Try.params5] at hA hval
  obtain ⟨v0, vs0, d0, ds0, p0, q0, hargs, rfl, rfl, h0, r0⟩ := trodAll_cons hA
  obtain ⟨v1, vs1, d1, ds1, p1, q1, rfl, rfl, rfl, h1, r1⟩ := trodAll_cons r0
  obtain ⟨v2, vs2, d2, ds2, p2, q2, rfl, rfl, rfl, h2, r2⟩ := trodAll_cons r1
  obtain ⟨v3, vs3, d3, ds3, p3, q3, rfl, rfl, rfl, h3, r3⟩ := trodAll_cons r2
  obtain ⟨v4, vs4, d4, ds4, p4, q4, rfl, rfl, rfl, h4, r4⟩ := trodAll_cons r3
  obtain ⟨rfl, rfl, rfl⟩ := trodAll_nil r4
  obtain rfl : args = #[v0, v1, v2, v3, v4] := by cases args; simp_all
  obtain ⟨rfl, rfl⟩ := trodVars_none hV
  have k0 := h0
  have lt0 : ∀ x ∈ p0, x.block < W.heap.size := by obtain ⟨m, hm⟩ := k0; exact DataW.trod_lt m _ _ _ hm
  obtain ⟨x0, cs0, rfl, hk0, w0⟩ := Rd.agg_of (d := (Kd.pair (Kd.slice 27 (Kd.int .u32)) Kd.bool)) (Rd.opens_struct0 Try.underlying25 (by kernel_rfl) (Rd.opensF_cons rfl (Rd.opens_slice Try.underlying22 (by kernel_rfl) (Rd.opens_int Try.underlying27 (by kernel_rfl))) (Rd.opensF_last rfl (Rd.opens_bool Try.underlying4 (by kernel_rfl))))) (by obtain ⟨cs, h, _⟩ := okWide_struct Try.underlying25 (hval 0 25 v0 rfl rfl); exact ⟨cs, h⟩) h0
  obtain ⟨csl0, hcs0⟩ : ∃ csl, csl = cs0.toList := ⟨_, rfl⟩
  rw [← hcs0] at hk0
  obtain ⟨_, _, hcc0, ⟨A0_0, c0_0, rfl, hc0_0, hr0_0⟩, rfl⟩ := hk0
  obtain rfl : cs0 = #[.slice A0_0 x0.1.length c0_0, .bool x0.2] := by
    rw [hcc0] at hcs0
    rw [← Array.toList_inj, ← hcs0]
    rfl
  clear hcs0 hcc0
  obtain ⟨a1, rfl, rfl, rfl, w1⟩ := open_int Try.underlying27 (hval 1 27 v1 rfl rfl) h1
  obtain ⟨a2, rfl, rfl, rfl, w2⟩ := open_int Try.underlying3 (hval 2 3 v2 rfl rfl) h2
  have k3 := h3
  have lt3 : ∀ x ∈ p3, x.block < W.heap.size := by obtain ⟨m, hm⟩ := k3; exact DataW.trod_lt m _ _ _ hm
  obtain ⟨l3, A3, c3, rfl, hc3, hr3, w3⟩ := Rd.slice_of (Rd.opens_slice Try.underlying22 (by kernel_rfl) (Rd.opens_int Try.underlying27 (by kernel_rfl))) (okWide_slice Try.underlying22 (hval 3 22 v3 rfl rfl)) h3
  have k4 := h4
  have lt4 : ∀ x ∈ p4, x.block < W.heap.size := by obtain ⟨m, hm⟩ := k4; exact DataW.trod_lt m _ _ _ hm
  obtain ⟨x4, cs4, rfl, hk4, w4⟩ := Rd.agg_of (d := (Kd.pair (Kd.pair (Kd.int .i64) (Kd.pair (Kd.int .i64) (Kd.pair (Kd.int .i64) (Kd.int .i64)))) (Kd.pair (Kd.slice 61 k61) (Kd.pair (Kd.slice 27 (Kd.int .u32)) (Kd.pair (Kd.pair (Kd.int .i64) (Kd.pair (Kd.int .i64) (Kd.pair (Kd.int .i64) (Kd.int .i64)))) (Kd.pair (Kd.slice 63 k63) (Kd.int .u32))))))) (Rd.opens_struct0 Try.underlying42 (by kernel_rfl) (Rd.opensF_cons rfl (Rd.opens_struct0 Try.underlying34 (by kernel_rfl) (Rd.opensF_cons rfl (Rd.opens_int Try.underlying3 (by kernel_rfl)) (Rd.opensF_cons rfl (Rd.opens_int Try.underlying3 (by kernel_rfl)) (Rd.opensF_cons rfl (Rd.opens_int Try.underlying3 (by kernel_rfl)) (Rd.opensF_last rfl (Rd.opens_int Try.underlying3 (by kernel_rfl))))))) (Rd.opensF_cons rfl (Rd.opens_struct0 Try.underlying37 (by kernel_rfl) (Rd.opensF_last rfl (Rd.opens_slice Try.underlying35 (by kernel_rfl) open_k61))) (Rd.opensF_cons rfl (Rd.opens_slice Try.underlying22 (by kernel_rfl) (Rd.opens_int Try.underlying27 (by kernel_rfl))) (Rd.opensF_last rfl (Rd.opens_struct0 Try.underlying40 (by kernel_rfl) (Rd.opensF_cons rfl (Rd.opens_struct0 Try.underlying34 (by kernel_rfl) (Rd.opensF_cons rfl (Rd.opens_int Try.underlying3 (by kernel_rfl)) (Rd.opensF_cons rfl (Rd.opens_int Try.underlying3 (by kernel_rfl)) (Rd.opensF_cons rfl (Rd.opens_int Try.underlying3 (by kernel_rfl)) (Rd.opensF_last rfl (Rd.opens_int Try.underlying3 (by kernel_rfl))))))) (Rd.opensF_cons rfl (Rd.opens_slice Try.underlying38 (by kernel_rfl) open_k63) (Rd.opensF_last rfl (Rd.opens_int Try.underlying27 (by kernel_rfl))))))))))) (by obtain ⟨cs, h, _⟩ := okWide_struct Try.underlying42 (hval 4 42 v4 rfl rfl); exact ⟨cs, h⟩) h4
  obtain ⟨csl4, hcs4⟩ : ∃ csl, csl = cs4.toList := ⟨_, rfl⟩
  rw [← hcs4] at hk4
  obtain ⟨_, _, hcc4, ⟨_, _, rfl, rfl, ⟨_, _, rfl, rfl, ⟨_, _, rfl, rfl, rfl⟩⟩⟩, ⟨_, _, rfl, ⟨A4_4, c4_4, rfl, hc4_4, hr4_4⟩, ⟨_, _, rfl, ⟨A4_5, c4_5, rfl, hc4_5, hr4_5⟩, ⟨_, _, rfl, ⟨_, _, rfl, rfl, ⟨_, _, rfl, rfl, ⟨_, _, rfl, rfl, rfl⟩⟩⟩, ⟨_, _, rfl, ⟨A4_10, c4_10, rfl, hc4_10, hr4_10⟩, rfl⟩⟩⟩⟩⟩ := hk4
  obtain rfl : cs4 = #[.int .i64 x4.1.1, .int .i64 x4.1.2.1, .int .i64 x4.1.2.2.1, .int .i64 x4.1.2.2.2, .slice A4_4 x4.2.1.length c4_4, .slice A4_5 x4.2.2.1.length c4_5, .int .i64 x4.2.2.2.1.1, .int .i64 x4.2.2.2.1.2.1, .int .i64 x4.2.2.2.1.2.2.1, .int .i64 x4.2.2.2.1.2.2.2, .slice A4_10 x4.2.2.2.2.1.length c4_10, .int .u32 x4.2.2.2.2.2] := by
    rw [hcc4] at hcs4
    rw [← Array.toList_inj, ← hcs4]
    rfl
  clear hcs4 hcc4
  clear hA0 hval0
  obtain ⟨k, hf⟩ := Pure.DeltaTells x0.1 x0.2 a1 a2 l3 x4.1.1 x4.1.2.1 x4.1.2.2.1 x4.1.2.2.2 x4.2.1 x4.2.2.1 x4.2.2.2.1.1 x4.2.2.2.1.2.1 x4.2.2.2.1.2.2.1 x4.2.2.2.1.2.2.2 x4.2.2.2.2.1 x4.2.2.2.2.2
  refine (drydocklaw19_DeltaTells.calls k A0_0 c0_0 x0.1 x0.2 a1 a2 A3 c3 l3 x4.1.1 x4.1.2.1 x4.1.2.2.1 x4.1.2.2.2 A4_4 c4_4 x4.2.1 A4_5 c4_5 x4.2.2.1 x4.2.2.2.1.1 x4.2.2.2.1.2.1 x4.2.2.2.1.2.2.1 x4.2.2.2.1.2.2.2 (fun k_ => k_ < W.heap.size) A4_10 c4_10 x4.2.2.2.2.1 x4.2.2.2.2.2 true W hr0_0 hc0_0 hr3 hc3 hr4_4 hc4_4 hr4_5 hc4_5 (share_k63 hc4_10 hr4_10) hf).mono fun e W' hpost => ?_
  obtain ⟨he, bel0⟩ := hpost
  have bel := bel0
  subst he
  exact ⟨_, rfl, _, _, _, [], _, [], hW', trodAll_mk1 (shut_bool Try.underlying4 _), (trodAll_cons_mk (Below.trod laidOut (by kernel_rfl) (of_decide_eq_true (by kernel_rfl)) k0 bel lt0) (trodAll_cons_mk (shut_int Try.underlying27 w1) (trodAll_cons_mk (shut_int Try.underlying3 w2) (trodAll_cons_mk (Below.trod laidOut (by kernel_rfl) (of_decide_eq_true (by kernel_rfl)) k3 bel lt3) (trodAll_cons_mk (Below.trod laidOut (by kernel_rfl) (of_decide_eq_true (by kernel_rfl)) k4 bel lt4) trodAll_mk0))))), rfl, bel.frame _, fun h => by cases h⟩
theorem over : Rows.deltaTellsRow.holds Try.pinned (OpenSpec.ofChange Rows.deltaTellsSpec) :=
  OpenClaim.holds_of_wide 5 Try.f5 rfl rfl rfl rfl rfl rfl rfl ⟨rfl, rfl, rfl, rfl, rfl⟩ rfl rfl rfl rfl rfl (by kernel_rfl) Try.func5 (by kernel_rfl)
    (of_decide_eq_true (by kernel_rfl)) (by unfold Func.isWrapper; first | (rw [if_pos (by decide +kernel)]; kernel_rfl) | (rw [if_neg (by decide +kernel)]; exact ⟨rfl, rfl⟩))
    (fun os started H enc _ => lifted os started H enc)
theorem proved : Rows.DeltaTellsSaid := over
#print axioms proved
end Go.Proofs.Ytlboachgeepadaa.deltaTells
namespace Go.Proofs.Ytlboachgeepadaa
/-- The row, under a short name, for the claim. -/
theorem deltaTells_holds : Rows.DeltaTellsSaid := deltaTells.proved
end Go.Proofs.Ytlboachgeepadaa
