/- SchemaLists -/
import Derived.Test.YtiafnckmlklodaaPx10 -- the law
import Derived.Test.YtiafnckmlklodaaSpecC
namespace Go.Proofs.Ytiafnckmlklodaa.Pure
open Go.Proofs.Ytiafnckmlklodaa.Spec Go.RowKit Go.Proofs.Ytiafnckmlklodaa.P Go.Proofs.YtiafnckmlklodaaW.PrintWords Go.Proofs.YtiafnckmlklodaaW.PrintLast

theorem SchemaLists : ∀ (l0 : List (S34)) (l1 : List (S34)), (l0.length ≤ 9223372036854775807 ∧ ∀ x_ ∈ l0, (((Lit.int .i64 x_.f0).wf = true) ∧ ((Lit.int .i64 x_.f1).wf = true) ∧ ((Lit.int .i64 x_.f2).wf = true) ∧ ((Lit.int .i64 x_.f3).wf = true))) → (l1.length ≤ 9223372036854775807 ∧ ∀ x_ ∈ l1, (((Lit.int .i64 x_.f0).wf = true) ∧ ((Lit.int .i64 x_.f1).wf = true) ∧ ((Lit.int .i64 x_.f2).wf = true) ∧ ((Lit.int .i64 x_.f3).wf = true))) → l0.length * 32 ≤ 140737488351232 → l1.length * 32 ≤ 140737488351232 → ∃ k, drydocklaw04_SchemaLists.f k l0 l1 = some true := by
  intro l0 l1 _ _ z0 z1
  suffices H : Ev (fun k => drydocklaw04_SchemaLists.f k l0 l1) true from H.rounds
  have out : Ev (fun k => drydocklaw04_SchemaLists.j0 k l0 l1 true true) true := Ev.step (f := fun _ => some true) (fun k => by simp only [drydocklaw04_SchemaLists.j0, if_true]) (Ev.now _)
  unfold drydocklaw04_SchemaLists.f
  refine Ev.bind awake_ev ?_
  simp only [if_true]
  have ws : wrap64 ((l0.length : Int) + (l1.length : Int)) = (l0.length : Int) + (l1.length : Int) := by unfold wrap64; omega
  rw [ws]
  by_cases h4 : (l0.length : Int) + (l1.length : Int) > 4
  · rw [decide_eq_true h4]; exact out
  rw [decide_eq_false h4]
  have hla : (l0 ++ l1).length = l0.length + l1.length := List.length_append
  refine Ev.step (f := fun k => (schema_Put.f k l0).bind fun bt179 => _) (fun k => by simp only [drydocklaw04_SchemaLists.j0, Bool.false_eq_true, if_false]; rfl) ?_
  refine Ev.bind (put_ev l0) ?_
  refine Ev.bind (put_ev l1) ?_
  have g1 : ([] : List S34).length + l0.length < 4398046511104 := by simp; omega
  have g2 : ([] ++ l0 : List S34).length + l1.length < 4398046511104 := by simp; omega
  simp only [if_pos g1, Option.bind_some, if_pos g2]
  rw [List.nil_append]
  refine Ev.bind (put_ev (l0 ++ l1)) ?_
  have bad : ¬ (putOk l0 ∧ putOk l1) → Ev (fun k => drydocklaw04_SchemaLists.j1 k l0 l1 (putS l0).1 (putS l1).1 (putS (l0 ++ l1)).1 (putS (l0 ++ l1)).2 true) true := fun hb => by
    have hn : ¬ putOk (l0 ++ l1) := fun z => hb (by
      have hz := z.2
      rw [List.all_append, Bool.and_eq_true] at hz
      exact ⟨⟨by omega, hz.1⟩, ⟨by omega, hz.2⟩⟩)
    rw [putS_no hn]
    exact Ev.step (f := fun _ => some true) (fun k => by simp only [drydocklaw04_SchemaLists.j1, if_true]; rfl) (Ev.now _)
  by_cases h0 : putOk l0
  · by_cases h1 : putOk l1
    · have ha : putOk (l0 ++ l1) := ⟨by omega, by rw [List.all_append, h0.2, h1.2]; rfl⟩
      rw [putS_ok h0, putS_ok h1, putS_ok ha]
      simp only [if_true, bne_self_eq_false]
      have e5 : wrap64 (1 + wrap64 (5 * (l0.length : Int))) = 1 + 5 * (l0.length : Int) := by rw [wrap_s (a := 5 * (l0.length : Int)) (by omega) (by omega), wrap_s (by omega) (by omega)]
      have e6 : wrap64 (1 + wrap64 (5 * (l1.length : Int))) = 1 + 5 * (l1.length : Int) := by rw [wrap_s (a := 5 * (l1.length : Int)) (by omega) (by omega), wrap_s (by omega) (by omega)]
      have b0 := bytesS_len l0
      have b1 := bytesS_len l1
      have b2 := bytesS_len (l0 ++ l1)
      have e7 : wrap64 (wrap64 (((bytesS l0).length : Int) + ((bytesS l1).length : Int)) - 1) = ((bytesS (l0 ++ l1)).length : Int) := by
        rw [wrap_s (a := ((bytesS l0).length : Int) + ((bytesS l1).length : Int)) (by omega) (by omega), wrap_s (by omega) (by omega)]; omega
      have e8 : (wrap64 (rd (bytesS (l0 ++ l1)) 0) != (l0.length : Int) + (l1.length : Int)) = false := by
        have : rd (bytesS (l0 ++ l1)) 0 = (l0.length : Int) + (l1.length : Int) := by
          show ((l0 ++ l1).length : Int) % 256 = _
          omega
        rw [this, wrap_s (by omega) (by omega)]; simp
      have g3 : ((bytesS l0).length : Int) = 1 + 5 * (l0.length : Int) := by omega
      have g4 : ((bytesS l1).length : Int) = 1 + 5 * (l1.length : Int) := by omega
      have g5 : 0 < ((bytesS (l0 ++ l1)).length : Int) := by omega
      refine Ev.step (f := fun k => drydocklaw04_SchemaLists.j2 k (bytesS l0) (bytesS l1) (bytesS (l0 ++ l1)) false) (fun k => ?_) ?_
      · simp only [drydocklaw04_SchemaLists.j1, Bool.false_eq_true, if_false, if_true, e5, e6, e7, if_pos g3, if_pos g4, if_pos g5, ws, e8]
      · have f0 : (bytesS l0).drop 1 = l0.flatMap encB := rfl
        have f1 : (bytesS l1).drop 1 = l1.flatMap encB := rfl
        have l5 := encB_len l0
        have fz : bytesS (l0 ++ l1) = (((l0 ++ l1).length : Int) % 256) :: (l0.flatMap encB ++ l1.flatMap encB) := by unfold bytesS; rw [List.flatMap_append]
        have bl : (bytesS l0).length = (l0.flatMap encB).length + 1 := rfl
        have d1 : ((bytesS (l0 ++ l1)).take ((bytesS l0).length : Int).toNat).drop 1 = l0.flatMap encB := by
          rw [Int.toNat_natCast, fz, bl, List.take_succ_cons, List.drop_succ_cons, List.drop_zero, List.take_left']
          rfl
        have d2 : (bytesS (l0 ++ l1)).drop ((bytesS l0).length : Int).toNat = l1.flatMap encB := by
          rw [Int.toNat_natCast, fz, bl, List.drop_succ_cons, List.drop_left']
          rfl
        have q1 : 1 ≤ ((bytesS l0).length : Int) := by omega
        have q2 : ((bytesS l0).length : Int) ≤ ((bytesS (l0 ++ l1)).length : Int) := by omega
        have q3 : 0 ≤ ((bytesS l0).length : Int) := by omega
        have q4 : 1 ≤ ((bytesS l1).length : Int) := by omega
        refine Ev.step (f := fun k => (drydockref01_Bytes.f k (l0.flatMap encB) (l0.flatMap encB)).bind fun t206 => (if t206 = true then ((drydockref01_Bytes.f k (l1.flatMap encB) (l1.flatMap encB)).bind fun t215 => (some t215)) else none)) (fun k => ?_) ?_
        · simp only [drydocklaw04_SchemaLists.j2, Bool.false_eq_true, if_false, if_pos q1, if_pos q2, if_pos q3, if_pos q4, d1, d2, f0, f1]
        · refine Ev.bind (bytes_ev _ (by omega)) ?_
          simp only [if_true]
          exact Ev.bind (bytes_ev _ (by rw [encB_len]; omega)) (Ev.now _)
    · have hb := bad (fun z => h1 z.2)
      have e : ((putS l1).2 != 0) = true := by rw [putS_no h1]; rfl
      have e0 : (putS l0).2 = 0 := by rw [putS_ok h0]
      rw [e]; simp only [if_pos e0]; exact hb
  · have hb := bad (fun z => h0 z.1)
    have e0 : ¬ (putS l0).2 = 0 := by rw [putS_no h0]; decide
    simp only [if_neg e0]; exact hb

end Go.Proofs.Ytiafnckmlklodaa.Pure
