-- Written by a program of this session over the kit's print of the translation. Lean checks it.
import Derived.Test.YtiafnckmlklodaaRows
import Derived.Test.YtiafnckmlklodaaPureSchemaLists
import Derived.Test.YtiafnckmlklodaaOpens
import Derived.WalkKit
import Derived.ProofKit
import Derived.OpenShut
import Derived.ShutString
import Derived.ChangeOld
import Derived.Below
import Derived.SizedLaws
namespace Go.Proofs.Ytiafnckmlklodaa.schemaLists
open Go.ChangeShapes Go.WideShapes Go.ChangeAt Go.RowKit Go.Proofs.Ytiafnckmlklodaa.P Go.Proofs.YtiafnckmlklodaaW.PrintWords
set_option linter.unusedVariables false
theorem own : ownKnob Try.prog.godebug = none := by kernel_rfl
theorem laidOut : laidOutB Try.prog = true := by kernel_rfl
theorem open_k34 : Rd.Opens Try.prog k34 34 (fun x => (((Lit.int .i64 x.f0).wf = true) ∧ ((Lit.int .i64 x.f1).wf = true) ∧ ((Lit.int .i64 x.f2).wf = true) ∧ ((Lit.int .i64 x.f3).wf = true))) := by
  have h := Rd.opens_struct Try.underlying34 (by kernel_rfl) (Rd.opensF_cons rfl (Rd.opens_int Try.underlying3 (by kernel_rfl)) (Rd.opensF_cons rfl (Rd.opens_int Try.underlying3 (by kernel_rfl)) (Rd.opensF_cons rfl (Rd.opens_int Try.underlying3 (by kernel_rfl)) (Rd.opensF_last rfl (Rd.opens_int Try.underlying3 (by kernel_rfl)))))) (fun x : S34 => (x.f0, x.f1, x.f2, x.f3)) (fun y_ => ⟨y_.1, y_.2.1, y_.2.2.1, y_.2.2.2⟩) (fun _ => rfl)
  exact ⟨h.1, h.2⟩
/-- A row's slice is no longer than its weight allows. -/
theorem sized_any {H : Type} {enc : TypeId × Value → H} {P : Program} {W : World} {base : Nat} {spare : Nat → Bool} {held : Bool} {t e : TypeId} {a : Option Addr} {len cap : Nat} {d : DataW H} {ps : List MemPlace} {ts : List TypeId} {ds : List (DataW H)} {j : Nat}
    (hsz : (DataW.weightsEach P ts ds).all (· ≤ reachBytes) = true) (ht : ts[j]? = some t) (hd : ds[j]? = some d) (hu : P.underlying t = some (.slice e)) {B : Nat} (hB : P.bytesOf e = B)
    (h : DataW.Trod enc P W base spare held t (.slice a len cap) d ps) : len * B ≤ 140737488351232 := by
  obtain ⟨fuel, hf⟩ := h
  rcases DataW.trod_slice hu hf with ⟨hcs, _⟩ | ⟨a', len', cap', elems, rest, n, _, hcs, hx, _, _, _, hlen, _⟩
  · simp [Value.cells] at hcs
    obtain ⟨rfl, rfl, rfl⟩ := hcs
    simp
  · simp [Value.cells] at hcs
    obtain ⟨rfl, rfl, rfl⟩ := hcs
    obtain ⟨hx, _⟩ := Prod.mk.inj hx
    subst hx
    have z := sized_slice hsz ht hd hu
    rw [hB, List.length_map, hlen] at z
    exact Nat.le_trans (Nat.mul_le_mul_right B (Nat.le_add_right _ _)) (Nat.le_trans z (by decide))
set_option maxRecDepth 100000 in
theorem lifted (os : Os) (started : os.Started) (H : Type) (enc : TypeId × Value → H) :
    ReturnsInHanded {} Try.checked os 5 .any (Rows.schemaListsSpec.pre6 enc Try.prog Try.f5 Rows.schemaListsRow.domain false) (Rows.schemaListsSpec.post enc Try.prog Try.f5 false true false false) := by
  refine returnsInHanded_of_change_sized (C := Try.checked) own started (by kernel_rfl) Try.func5
    (ChangeSpec.witness6 (enc := enc) (C := Try.checked) false ⟨#[], #[.slice none 0 0, .slice none 0 0], []⟩ 8 (by kernel_rfl) (by kernel_rfl) (by kernel_rfl) (by kernel_rfl)) ?_
  intro W base args ds gs before hval0 hW hcnd hsz0 _
  have hsz : (DataW.weightsEach Try.prog (Try.f5.params.toList ++ Rows.schemaListsSpec.plain.varTypes Try.prog) (ds ++ gs)).all (· ≤ reachBytes) = true := hsz0
  clear hsz0
  have hval : ∀ (j : Nat) t v, Try.f5.params[j]? = some t → args[j]? = some v → Value.okWide Try.prog W .any base t v := hval0
  have hW' := hW
  obtain ⟨p, q, hA0, hV, rfl, hfz, hnd⟩ := hW
  have hA : DataW.TrodAll enc Try.prog W 0 (fun _ => true) true Try.f5.params.toList args.toList ds p := hA0
  rw [Try.params5] at hA hval hsz
  obtain ⟨v0, vs0, d0, ds0, p0, q0, hargs, rfl, rfl, h0, r0⟩ := trodAll_cons hA
  obtain ⟨v1, vs1, d1, ds1, p1, q1, rfl, rfl, rfl, h1, r1⟩ := trodAll_cons r0
  obtain ⟨rfl, rfl, rfl⟩ := trodAll_nil r1
  obtain rfl : args = #[v0, v1] := by cases args; simp_all
  obtain ⟨rfl, rfl⟩ := trodVars_none hV
  have k0 := h0
  have lt0 : ∀ x ∈ p0, x.block < W.heap.size := by obtain ⟨m, hm⟩ := k0; exact DataW.trod_lt m _ _ _ hm
  obtain ⟨l0, A0, c0, rfl, hc0, hr0, w0⟩ := Rd.slice_of (Rd.opens_slice Try.underlying22 (by kernel_rfl) open_k34) (okWide_slice Try.underlying22 (hval 0 22 v0 rfl rfl)) h0
  have z0 := sized_any hsz (j := 0) (t := 22) rfl rfl Try.underlying22 (show Try.prog.bytesOf 34 = 32 by kernel_rfl) h0
  have k1 := h1
  have lt1 : ∀ x ∈ p1, x.block < W.heap.size := by obtain ⟨m, hm⟩ := k1; exact DataW.trod_lt m _ _ _ hm
  obtain ⟨l1, A1, c1, rfl, hc1, hr1, w1⟩ := Rd.slice_of (Rd.opens_slice Try.underlying22 (by kernel_rfl) open_k34) (okWide_slice Try.underlying22 (hval 1 22 v1 rfl rfl)) h1
  have z1 := sized_any hsz (j := 1) (t := 22) rfl rfl Try.underlying22 (show Try.prog.bytesOf 34 = 32 by kernel_rfl) h1
  clear hA0 hval0
  obtain ⟨k, hf⟩ := Pure.SchemaLists l0 l1 w0 w1 z0 z1
  refine (drydocklaw04_SchemaLists.calls k A0 c0 l0 A1 c1 l1 true W hr0 hc0 hr1 hc1 hf).mono fun e W' hpost => ?_
  obtain ⟨he, bel0⟩ := hpost
  have bel := bel0
  subst he
  exact ⟨_, rfl, _, _, _, [], _, [], hW', trodAll_mk1 (shut_bool Try.underlying4 _), (trodAll_cons_mk (Below.trod laidOut (by kernel_rfl) (of_decide_eq_true (by kernel_rfl)) k0 bel lt0) (trodAll_cons_mk (Below.trod laidOut (by kernel_rfl) (of_decide_eq_true (by kernel_rfl)) k1 bel lt1) trodAll_mk0)), rfl, bel.frame _, fun h => by cases h⟩
theorem over : Rows.schemaListsRow.holds Try.pinned (OpenSpec.ofChange Rows.schemaListsSpec) :=
  OpenClaim.holds_of_wide 5 Try.f5 rfl rfl rfl rfl rfl rfl rfl ⟨rfl, rfl, rfl, rfl, rfl⟩ rfl rfl rfl rfl rfl (by kernel_rfl) Try.func5 (by kernel_rfl)
    (of_decide_eq_true (by kernel_rfl)) (by unfold Func.isWrapper; first | (rw [if_pos (by decide +kernel)]; kernel_rfl) | (rw [if_neg (by decide +kernel)]; exact ⟨rfl, rfl⟩))
    (fun os started H enc _ => lifted os started H enc)
theorem proved : Rows.SchemaListsSaid := over
#print axioms proved
end Go.Proofs.Ytiafnckmlklodaa.schemaLists
namespace Go.Proofs.Ytiafnckmlklodaa
/-- The row, under a short name, for the claim. -/
theorem schemaLists_holds : Rows.SchemaListsSaid := schemaLists.proved
end Go.Proofs.Ytiafnckmlklodaa
