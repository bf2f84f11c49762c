/- slices.ContainsFunc with the closure of schema.Put answers whether one of the schemas may not be. -/
import Derived.Test.YtiafnckmlklodaaPx2
import Derived.Lib.Hide
namespace Go.Proofs.Ytiafnckmlklodaa.P
open Go.RowKit Go.Proofs.YtiafnckmlklodaaW.PrintWords Go.Proofs.YtiafnckmlklodaaW.PrintLast Go.Proofs.YtiafnckmlklodaaW.PrintMore
set_option linter.unusedVariables false
set_option linter.unusedSimpArgs false

/-- May a schema be? -/
def mayS (s : S34) : Bool := decide (0 ≤ s.f0 ∧ s.f0 ≤ 3 ∧ 1 ≤ s.f1 ∧ s.f1 ≤ 16 ∧ 1 ≤ s.f2 ∧ s.f2 ≤ (if s.f0 = 3 then 1 else 4) ∧ 0 ≤ s.f3 ∧ s.f3 ≤ 1000)
theorem may_f (k : Nat) (a b c d : Int) : schema_May.f (k + 1) a b c d = some (mayS ⟨a, b, c, d⟩) := by
  unfold schema_May.f mayS
  by_cases h : a = 3
  · rw [if_pos h]
    simp only [schema_May.j0, schema_in.f]
    subst h
    by_cases h1 : 1 ≤ b ∧ b ≤ 16
    · by_cases h2 : 1 ≤ c ∧ c ≤ 1
      · by_cases h3 : 0 ≤ d <;> simp [h1, h2, h3]
      · simp only [ge_iff_le]
        by_cases h4 : 1 ≤ c
        · have h5 : ¬ c ≤ 1 := fun h => h2 ⟨h4, h⟩
          simp [h1, h4, h5]
        · simp [h1, h4]
    · by_cases h4 : 1 ≤ b
      · have h5 : ¬ b ≤ 16 := fun h => h1 ⟨h4, h⟩
        simp [h4, h5]
      · simp [h4]
  · rw [if_neg h]
    simp only [schema_May.j0, schema_in.f, if_neg h]
    by_cases h0 : 0 ≤ a
    · by_cases h0' : a ≤ 3
      · by_cases h1 : 1 ≤ b
        · by_cases h1' : b ≤ 16
          · by_cases h2 : 1 ≤ c
            · by_cases h2' : c ≤ 4
              · by_cases h3 : 0 ≤ d <;> simp [h0, h0', h1, h1', h2, h2', h3]
              · simp [h0, h0', h1, h1', h2, h2']
            · simp [h0, h0', h1, h1', h2]
          · simp [h0, h0', h1, h1']
        · simp [h0, h0', h1]
      · simp [h0, h0']
    · simp [h0]
/-- Where a schema is first met that may not be, counted from i; -1: nowhere. -/
def nx : List S34 → Nat → Int
  | [], _ => -1
  | x :: t, i => if mayS x = false then (i : Int) else nx t (i + 1)
theorem nx_cons (x : S34) (t : List S34) (i : Nat) : nx (x :: t) i = if mayS x = false then (i : Int) else nx t (i + 1) := rfl
theorem nx_all (l : List S34) : ∀ i : Nat, decide (nx l i ≥ 0) = !(l.all mayS) := by
  induction l with
  | nil => intro i; rfl
  | cons x t ih =>
    intro i
    rw [nx_cons]
    by_cases h : mayS x = false
    · rw [if_pos h]
      simp [h]
    · rw [if_neg h, ih]
      simp only [Bool.not_eq_false] at h
      simp [h]
theorem rd_T34_nat (l : List S34) (i : Nat) (h : i < l.length) : rd_T34 l (i : Int) = l[i] := by
  simp [rd_T34, List.getD, h]
set_option maxHeartbeats 1000000 in
set_option maxRecDepth 100000 in
theorem any1 (x : S34) (w : World) :
    Calls Try.prog 23 #[.agg #[.int .i64 x.f0, .int .i64 x.f1, .int .i64 x.f2, .int .i64 x.f3]] w fun e w' => e = .returned (.bool (!mayS x)) ∧ Below w.heap.size w w' := by
  have hu34 := Try.underlying34
  go_enter Try.func23, Try.ntmps23
  go_wp2_with fail
  refine (schema_May.calls 1 _ _ _ _ _ _ (may_f 0 _ _ _ _)).mono ?_
  rintro e w2 ⟨rfl, hb2⟩
  have hb : Below w.heap.size w (w.alloc (.cells #[.int .i64 x.f0, .int .i64 x.f1, .int .i64 x.f2, .int .i64 x.f3] 34)) := below_alloc (Below.refl _ _) _
  go_wp2
  go_ret
  exact ⟨rfl, below_step hb hb2⟩
set_option maxHeartbeats 2000000 in
set_option maxRecDepth 100000 in
theorem any_idx (A0 : Option Addr) (c0 : Nat) (l0 : List S34) (w : World) (hr0 : Kd.C k34 w A0 l0.length l0) :
    Calls Try.prog 26 #[.slice A0 l0.length c0, .func (.func 23) #[] #[]] w fun e w' => e = .returned (.int .i64 (nx l0 0)) ∧ Below w.heap.size w w' := by
  have HR0 := Aside0.mk hr0
  clear hr0
  have hlen : l0.length ≤ 9223372036854775807 := HR0.out.2.1
  have HB := Aside0.mk (Below.refl w.heap.size w)
  go_enter Try.func26, Try.ntmps26
  go_wp2
  go_loopg [8] l0.length (fun kq v8 w' => ∃ i : Nat, v8 = .int .i64 (i : Int) ∧ i ≤ l0.length ∧ Aside0 (kq + i = l0.length ∧ nx l0 0 = nx (l0.drop i) i) ∧ Aside0 (Below w.heap.size w w'))
  case atStart => exact ⟨0, rfl, Nat.zero_le _, ⟨rfl, rfl⟩, HB⟩
  case round =>
    clear HB
    obtain ⟨i, rfl, hi, HF, HB⟩ := hrel
    by_cases hlt : i < l0.length
    · obtain ⟨ad, e1, hx0, hx1, hx2, hx3⟩ := at_T34 (Kd.C_below HR0.out HB.out) (i : Int) (by omega) (by omega)
      cases e1
      rw [rd_T34_nat l0 i hlt, Int.toNat_natCast] at hx0 hx1 hx2 hx3
      have hdr := Lib.hid (List.drop_eq_getElem_cons hlt)
      by_cases hxa : mayS l0[i] = false
      · have hb0 : (!mayS l0[i]) = true := by rw [hxa]; rfl
        have HX := Lib.hid hxa
        clear hxa
        go_wp2_with (go_at_call 23; (with_reducible refine (any1 _ _).mono ?_); rintro e w2 ⟨rfl, hb2⟩)
        go_ret
        refine ⟨?_, below_step HB.out hb2⟩
        rw [HF.out.2, hdr.out, nx_cons, if_pos HX.out]
        rfl
      · have hb0 : (!mayS l0[i]) = false := by simp only [Bool.not_eq_false] at hxa; rw [hxa]; rfl
        have HX := Lib.hid hxa
        clear hxa
        cases gk with
        | zero => exact absurd HF.out.1 (by omega)
        | succ k1 =>
          go_wp2_with (go_at_call 23; (with_reducible refine (any1 _ _).mono ?_); rintro e w2 ⟨rfl, hb2⟩)
          go_roundg k1
          case measure => omega
          case rel =>
            refine ⟨i + 1, by go_num, by omega, ⟨by have := HF.out.1; omega, ?_⟩, ⟨below_step HB.out hb2⟩⟩
            rw [HF.out.2, hdr.out, nx_cons, if_neg HX.out]
    · have he : l0.drop i = [] := List.drop_eq_nil_of_le (by omega)
      have HE := Lib.hid he
      clear he
      go_wp2
      go_ret
      refine ⟨?_, HB.out⟩
      rw [HF.out.2, HE.out]
      rfl
def api_Schema_22.f (l0 : List S34) : Option Bool := some (!(l0.all mayS))
set_option maxHeartbeats 1000000 in
set_option maxRecDepth 100000 in
theorem api_Schema_22.calls (A0 : Option Addr) (c0 : Nat) (l0 : List S34) (r : Bool) (w : World) (hr0 : Kd.C k34 w A0 l0.length l0) (hc0 : l0.length ≤ c0) (h : api_Schema_22.f l0 = some r) :
    Calls Try.prog 22 #[.slice A0 l0.length c0, .func (.func 23) #[] #[]] w fun e w' => e = .returned (.bool r) ∧ Below w.heap.size w w' := by
  obtain rfl := Option.some.inj h
  clear h
  have HN := Lib.hid (nx_all l0 0)
  go_enter Try.func22, Try.ntmps22
  go_wp2_with fail
  refine (any_idx A0 c0 l0 w hr0).mono ?_
  rintro e w2 ⟨rfl, hb2⟩
  go_wp2
  go_ret
  refine ⟨?_, hb2⟩
  rw [← HN.out]
  rfl
end Go.Proofs.Ytiafnckmlklodaa.P
