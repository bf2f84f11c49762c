-- Written by a program of this session over the kit's print of the translation. Lean checks it.
import Derived.Test.YtiafnckmlklodaaPx0
import Derived.Test.YtiafnckmlklodaaPx4
import Derived.Test.YtiafnckmlklodaaPx5
import Derived.Test.YtiafnckmlklodaaPx6
namespace Go.Proofs.Ytiafnckmlklodaa.P
open Go.RowKit Go.Proofs.YtiafnckmlklodaaW.PrintWords Go.Proofs.YtiafnckmlklodaaW.PrintLast Go.Proofs.YtiafnckmlklodaaW.PrintMore
attribute [local go_sem] max2_int min2_int max_two min_two max_three min_three max_four min_four   -- for this text's walks alone
set_option linter.unusedVariables false
set_option linter.unusedSimpArgs false

/-! ### drydocklaw04_SchemaLists: function 5 -/
mutual
def drydocklaw04_SchemaLists.j0 : Nat → List (S34) → List (S34) → Bool → Bool → Option (Bool)
  | 0, _, _, _, _ => none
  | k + 1, x0, x1, x5, x22 => if x22 = true then (some x5) else ((schema_Put.f k x0).bind fun bt179 => ((schema_Put.f k x1).bind fun bt183 => (if ([] : List (S34)).length + x0.length < 4398046511104 then ((some (([] : List (S34)) ++ x0 : List (S34))).bind fun y187 => (if y187.length + x1.length < 4398046511104 then ((schema_Put.f k (y187 ++ x1)).bind fun bt193 => (if bt179.2 = 0 then (drydocklaw04_SchemaLists.j1 k x0 x1 bt179.1 bt183.1 bt193.1 bt193.2 (bt183.2 != 0)) else (drydocklaw04_SchemaLists.j1 k x0 x1 bt179.1 bt183.1 bt193.1 bt193.2 true))) else (none))) else (none))))
def drydocklaw04_SchemaLists.j1 : Nat → List (S34) → List (S34) → List Int → List Int → List Int → Int → Bool → Option (Bool)
  | 0, _, _, _, _, _, _, _ => none
  | k + 1, x0, x1, x6, x8, x10, x11, x47 => if x47 = true then (if x11 = 1 then (some ((x10.length : Int) == 0)) else (none)) else (if x11 = 0 then (if (x6.length : Int) = (wrap64 (1 + (wrap64 (5 * (x0.length : Int))))) then (if (x8.length : Int) = (wrap64 (1 + (wrap64 (5 * (x1.length : Int))))) then (if (x10.length : Int) = (wrap64 ((wrap64 ((x6.length : Int) + (x8.length : Int))) - 1)) then (if 0 < (x10.length : Int) then (drydocklaw04_SchemaLists.j2 k x6 x8 x10 ((wrap64 (rd x10 0)) != (wrap64 ((x0.length : Int) + (x1.length : Int))))) else (none)) else (drydocklaw04_SchemaLists.j2 k x6 x8 x10 true)) else (drydocklaw04_SchemaLists.j2 k x6 x8 x10 true)) else (drydocklaw04_SchemaLists.j2 k x6 x8 x10 true)) else (drydocklaw04_SchemaLists.j2 k x6 x8 x10 true))
def drydocklaw04_SchemaLists.j2 : Nat → List Int → List Int → List Int → Bool → Option (Bool)
  | 0, _, _, _, _ => none
  | k + 1, x6, x8, x10, x97 => if x97 = true then (none) else (if 1 ≤ (x6.length : Int) then (if (x6.length : Int) ≤ (x10.length : Int) then ((drydockref01_Bytes.f k ((x10.take ((x6.length : Int) : Int).toNat).drop 1) (x6.drop 1)).bind fun t206 => (if t206 = true then (if 0 ≤ (x6.length : Int) then (if 1 ≤ (x8.length : Int) then ((drydockref01_Bytes.f k (x10.drop ((x6.length : Int) : Int).toNat) (x8.drop 1)).bind fun t215 => (some t215)) else (none)) else (none)) else (none))) else (none)) else (none))
end
def drydocklaw04_SchemaLists.f (k : Nat) (l0 : List (S34)) (l1 : List (S34)) : Option (Bool) := (drydocklaw04_awake.f k).bind fun t178 => (if t178 = true then (drydocklaw04_SchemaLists.j0 k l0 l1 t178 (decide ((wrap64 ((l0.length : Int) + (l1.length : Int))) > 4))) else (drydocklaw04_SchemaLists.j0 k l0 l1 t178 true))
theorem drydocklaw04_SchemaLists.mono_l : ∀ k, (∀ y0 y1 y2 y3, LeO (drydocklaw04_SchemaLists.j0 k y0 y1 y2 y3) (drydocklaw04_SchemaLists.j0 (k + 1) y0 y1 y2 y3)) ∧ (∀ y0 y1 y2 y3 y4 y5 y6, LeO (drydocklaw04_SchemaLists.j1 k y0 y1 y2 y3 y4 y5 y6) (drydocklaw04_SchemaLists.j1 (k + 1) y0 y1 y2 y3 y4 y5 y6)) ∧ (∀ y0 y1 y2 y3, LeO (drydocklaw04_SchemaLists.j2 k y0 y1 y2 y3) (drydocklaw04_SchemaLists.j2 (k + 1) y0 y1 y2 y3))
  | 0 => ⟨fun _ _ _ _ r h => by simp [drydocklaw04_SchemaLists.j0] at h, fun _ _ _ _ _ _ _ r h => by simp [drydocklaw04_SchemaLists.j1] at h, fun _ _ _ _ r h => by simp [drydocklaw04_SchemaLists.j2] at h⟩
  | k + 1 => by
    obtain ⟨ih0, ih1, ih2⟩ := drydocklaw04_SchemaLists.mono_l k
    refine ⟨?_, ?_, ?_⟩
    · intro y0 y1 y2 y3
      unfold drydocklaw04_SchemaLists.j0
      repeat' first
      | (with_reducible exact ih0 _ _ _ _)
      | (with_reducible exact ih1 _ _ _ _ _ _ _)
      | (with_reducible exact ih2 _ _ _ _)
      | (with_reducible exact drydocklaw04_awake.mono _)
      | (with_reducible exact drydockref01_Bytes.mono _ _ _)
      | (with_reducible exact schema_Put.mono _ _)
      | (with_reducible exact LeO.refl _)
      | (with_reducible exact LeO.none _)
      | (with_reducible refine LeO.ite ?_ ?_)
      | (with_reducible refine LeO.bind ?_ (fun _ => ?_))
      | exact ih0 _ _ _ _
      | exact ih1 _ _ _ _ _ _ _
      | exact ih2 _ _ _ _
      | exact drydocklaw04_awake.mono _
      | exact drydockref01_Bytes.mono _ _ _
      | exact schema_Put.mono _ _
      | exact LeO.none _
      | refine LeO.ite ?_ ?_
      | refine LeO.bind ?_ (fun _ => ?_)
    · intro y0 y1 y2 y3 y4 y5 y6
      unfold drydocklaw04_SchemaLists.j1
      repeat' first
      | (with_reducible exact ih0 _ _ _ _)
      | (with_reducible exact ih1 _ _ _ _ _ _ _)
      | (with_reducible exact ih2 _ _ _ _)
      | (with_reducible exact drydocklaw04_awake.mono _)
      | (with_reducible exact drydockref01_Bytes.mono _ _ _)
      | (with_reducible exact schema_Put.mono _ _)
      | (with_reducible exact LeO.refl _)
      | (with_reducible exact LeO.none _)
      | (with_reducible refine LeO.ite ?_ ?_)
      | (with_reducible refine LeO.bind ?_ (fun _ => ?_))
      | exact ih0 _ _ _ _
      | exact ih1 _ _ _ _ _ _ _
      | exact ih2 _ _ _ _
      | exact drydocklaw04_awake.mono _
      | exact drydockref01_Bytes.mono _ _ _
      | exact schema_Put.mono _ _
      | exact LeO.none _
      | refine LeO.ite ?_ ?_
      | refine LeO.bind ?_ (fun _ => ?_)
    · intro y0 y1 y2 y3
      unfold drydocklaw04_SchemaLists.j2
      repeat' first
      | (with_reducible exact ih0 _ _ _ _)
      | (with_reducible exact ih1 _ _ _ _ _ _ _)
      | (with_reducible exact ih2 _ _ _ _)
      | (with_reducible exact drydocklaw04_awake.mono _)
      | (with_reducible exact drydockref01_Bytes.mono _ _ _)
      | (with_reducible exact schema_Put.mono _ _)
      | (with_reducible exact LeO.refl _)
      | (with_reducible exact LeO.none _)
      | (with_reducible refine LeO.ite ?_ ?_)
      | (with_reducible refine LeO.bind ?_ (fun _ => ?_))
      | exact ih0 _ _ _ _
      | exact ih1 _ _ _ _ _ _ _
      | exact ih2 _ _ _ _
      | exact drydocklaw04_awake.mono _
      | exact drydockref01_Bytes.mono _ _ _
      | exact schema_Put.mono _ _
      | exact LeO.none _
      | refine LeO.ite ?_ ?_
      | refine LeO.bind ?_ (fun _ => ?_)
theorem drydocklaw04_SchemaLists.mono : ∀ a0 a1 k, LeO (drydocklaw04_SchemaLists.f k a0 a1) (drydocklaw04_SchemaLists.f (k + 1) a0 a1) := by
  intro a0 a1 k
  obtain ⟨ih0, ih1, ih2⟩ := drydocklaw04_SchemaLists.mono_l k
  unfold drydocklaw04_SchemaLists.f
  repeat' first
      | (with_reducible exact ih0 _ _ _ _)
      | (with_reducible exact ih1 _ _ _ _ _ _ _)
      | (with_reducible exact ih2 _ _ _ _)
      | (with_reducible exact drydocklaw04_awake.mono _)
      | (with_reducible exact drydockref01_Bytes.mono _ _ _)
      | (with_reducible exact schema_Put.mono _ _)
      | (with_reducible exact LeO.refl _)
      | (with_reducible exact LeO.none _)
      | (with_reducible refine LeO.ite ?_ ?_)
      | (with_reducible refine LeO.bind ?_ (fun _ => ?_))
      | exact ih0 _ _ _ _
      | exact ih1 _ _ _ _ _ _ _
      | exact ih2 _ _ _ _
      | exact drydocklaw04_awake.mono _
      | exact drydockref01_Bytes.mono _ _ _
      | exact schema_Put.mono _ _
      | exact LeO.none _
      | refine LeO.ite ?_ ?_
      | refine LeO.bind ?_ (fun _ => ?_)
set_option maxHeartbeats 8000000 in
set_option maxRecDepth 100000 in
theorem drydocklaw04_SchemaLists.calls (k : Nat) (A0 : Option Addr) (c0 : Nat) (l0 : List (S34)) (A1 : Option Addr) (c1 : Nat) (l1 : List (S34)) (r : Bool) (w : World) (hr0 : Kd.C k34 w A0 l0.length l0) (hc0 : l0.length ≤ c0) (hr1 : Kd.C k34 w A1 l1.length l1) (hc1 : l1.length ≤ c1) (h : drydocklaw04_SchemaLists.f k l0 l1 = some r) :
    Calls Try.prog 5 #[.slice A0 l0.length c0, .slice A1 l1.length c1] w fun e w' => e = .returned (.bool r) ∧ Below w.heap.size w w' := by
  have HR0 := Aside0.mk hr0
  have HC0 := Aside0.mk hc0
  clear hr0 hc0
  have HR1 := Aside0.mk hr1
  have HC1 := Aside0.mk hc1
  clear hr1 hc1
  have HB := Aside0.mk (Below.refl w.heap.size w)
  have H : ((drydocklaw04_awake.f k).bind fun t178 => (if t178 = true then (drydocklaw04_SchemaLists.j0 k l0 l1 t178 (decide ((wrap64 ((l0.length : Int) + (l1.length : Int))) > 4))) else (drydocklaw04_SchemaLists.j0 k l0 l1 t178 true))) = some r := h
  clear h
  replace H := Option.bind_eq_some_iff.mp H
  obtain ⟨t178, A30, H⟩ := H
  replace H : (if t178 = true then (drydocklaw04_SchemaLists.j0 k l0 l1 t178 (decide ((wrap64 ((l0.length : Int) + (l1.length : Int))) > 4))) else (drydocklaw04_SchemaLists.j0 k l0 l1 t178 true)) = some r := H
  have A3 := Aside0.mk A30
  clear A30
  have HC4 := Aside0.mk H
  clear H
  go_enter Try.func5, Try.ntmps5
  go_upto_region 2 with (first | (go_at_call 9; (with_reducible refine (drydocklaw04_awake.calls k  t178 _ A3.out).mono ?_); rintro e w5 ⟨rfl, hb⟩; have n0_ := Aside0.mk (below_step (by repeat (first | (with_reducible first | exact HB.out | apply below_alloc | apply pw_below_drewN | apply below_drew1) | exact HB.out)) hb); clear HB; have HB := n0_; clear n0_; (try clear hb); (try clear hb2); (try clear hk); (try clear hi)))
  repeat (go_quiet (first | (go_at_call 9; (with_reducible refine (drydocklaw04_awake.calls k  t178 _ A3.out).mono ?_); rintro e w5 ⟨rfl, hb⟩; have n0_ := Aside0.mk (below_step (by repeat (first | (with_reducible first | exact HB.out | apply below_alloc | apply pw_below_drewN | apply below_drew1) | exact HB.out)) hb); clear HB; have HB := n0_; clear n0_; (try clear hb); (try clear hb2); (try clear hk); (try clear hi))); go_upto_region 2 with (first | (go_at_call 9; (with_reducible refine (drydocklaw04_awake.calls k  t178 _ A3.out).mono ?_); rintro e w5 ⟨rfl, hb⟩; have n0_ := Aside0.mk (below_step (by repeat (first | (with_reducible first | exact HB.out | apply below_alloc | apply pw_below_drewN | apply below_drew1) | exact HB.out)) hb); clear HB; have HB := n0_; clear n0_; (try clear hb); (try clear hb2); (try clear hk); (try clear hi))))
  (try simp only [Act.put, List.setIfInBounds_toArray, List.set_cons_zero, List.set_cons_succ])
  go_cut [22] (fun v22 wc => ∃ (kq : Nat) (x22_3 : Bool), v22 = .bool x22_3 ∧ Aside0 (drydocklaw04_SchemaLists.j0 kq l0 l1 t178 x22_3 = some r) ∧ Aside0 (kq ≤ k) ∧ Aside0 (Below w.heap.size w wc))
  case first =>
    have H := HC4.out
    clear HC4
    by_cases c6 : t178 = true
    · subst c6
      have H1 : (drydocklaw04_SchemaLists.j0 k l0 l1 true (decide ((wrap64 ((l0.length : Int) + (l1.length : Int))) > 4))) = some r := by rw [if_pos rfl] at H; exact H
      clear H
      have H := H1
      clear H1
      have H' := Aside0.mk H
      clear H
      go_wp2
      repeat (go_quiet (fail); try go_wp2)
      go_meet
      case rel => exact ⟨_, (decide ((wrap64 ((l0.length : Int) + (l1.length : Int))) > 4)), (by first | rfl | (simp; done) | (simp [*]; done)), H', ⟨by first | omega | exact Nat.le_refl _⟩, ⟨by repeat (first | (with_reducible first | exact HB.out | apply below_alloc | apply pw_below_drewN | apply below_drew1) | exact HB.out)⟩⟩
    · replace c6 := Bool.eq_false_iff.mpr c6
      subst c6
      have H1 : (drydocklaw04_SchemaLists.j0 k l0 l1 false true) = some r := by rw [if_neg (show ¬ (false = true) by decide)] at H; exact H
      clear H
      have H := H1
      clear H1
      have H' := Aside0.mk H
      clear H
      go_wp2
      repeat (go_quiet (fail); try go_wp2)
      go_meet
      case rel => exact ⟨_, (true), (by first | rfl | (simp; done) | (simp [*]; done)), H', ⟨by first | omega | exact Nat.le_refl _⟩, ⟨by repeat (first | (with_reducible first | exact HB.out | apply below_alloc | apply pw_below_drewN | apply below_drew1) | exact HB.out)⟩⟩
  case rest =>
    clear HC4
    try clear c1
    try clear p2
    try clear c5
    try clear c6
    try clear p6
    obtain ⟨kq, x22_3, rfl, HA, HJ3, HB⟩ := hcut
    cases kq with
    | zero => exact absurd HA.out (by simp [drydocklaw04_SchemaLists.j0])
    | succ kj3 =>
      have H := HA.out
      clear HA
      simp only [drydocklaw04_SchemaLists.j0] at H
      by_cases c7 : x22_3 = true
      · subst c7
        have H1 : (some t178) = some r := by rw [if_pos rfl] at H; exact H
        clear H
        have H := H1
        clear H1
        obtain rfl := Option.some.inj H
        go_wp2
        repeat (go_quiet (fail); try go_wp2)
        go_ret
        exact ⟨by first | rfl | (simp [errW_none, errW_some] <;> rfl) | (simp [*, errW_none, errW_some] <;> rfl), by repeat (first | (with_reducible first | exact HB.out | apply below_alloc | apply pw_below_drewN | apply below_drew1) | exact HB.out)⟩
      · replace c7 := Bool.eq_false_iff.mpr c7
        subst c7
        have H1 : ((schema_Put.f kj3 l0).bind fun bt179 => ((schema_Put.f kj3 l1).bind fun bt183 => (if ([] : List (S34)).length + l0.length < 4398046511104 then ((some (([] : List (S34)) ++ l0 : List (S34))).bind fun y187 => (if y187.length + l1.length < 4398046511104 then ((schema_Put.f kj3 (y187 ++ l1)).bind fun bt193 => (if bt179.2 = 0 then (drydocklaw04_SchemaLists.j1 kj3 l0 l1 bt179.1 bt183.1 bt193.1 bt193.2 (bt183.2 != 0)) else (drydocklaw04_SchemaLists.j1 kj3 l0 l1 bt179.1 bt183.1 bt193.1 bt193.2 true))) else (none))) else (none)))) = some r := by rw [if_neg (show ¬ (false = true) by decide)] at H; exact H
        clear H
        have H := H1
        clear H1
        replace H := Option.bind_eq_some_iff.mp H
        obtain ⟨⟨t179, t180⟩, A80, H⟩ := H
        replace H : ((schema_Put.f kj3 l1).bind fun bt183 => (if ([] : List (S34)).length + l0.length < 4398046511104 then ((some (([] : List (S34)) ++ l0 : List (S34))).bind fun y187 => (if y187.length + l1.length < 4398046511104 then ((schema_Put.f kj3 (y187 ++ l1)).bind fun bt193 => (if t180 = 0 then (drydocklaw04_SchemaLists.j1 kj3 l0 l1 t179 bt183.1 bt193.1 bt193.2 (bt183.2 != 0)) else (drydocklaw04_SchemaLists.j1 kj3 l0 l1 t179 bt183.1 bt193.1 bt193.2 true))) else (none))) else (none))) = some r := H
        have A8 := Aside0.mk A80
        clear A80
        replace H := Option.bind_eq_some_iff.mp H
        obtain ⟨⟨t183, t184⟩, A90, H⟩ := H
        replace H : (if ([] : List (S34)).length + l0.length < 4398046511104 then ((some (([] : List (S34)) ++ l0 : List (S34))).bind fun y187 => (if y187.length + l1.length < 4398046511104 then ((schema_Put.f kj3 (y187 ++ l1)).bind fun bt193 => (if t180 = 0 then (drydocklaw04_SchemaLists.j1 kj3 l0 l1 t179 t183 bt193.1 bt193.2 (t184 != 0)) else (drydocklaw04_SchemaLists.j1 kj3 l0 l1 t179 t183 bt193.1 bt193.2 true))) else (none))) else (none)) = some r := H
        have A9 := Aside0.mk A90
        clear A90
        by_cases c10 : ([] : List (S34)).length + l0.length < 4398046511104
        · rw [if_pos c10] at H
          have LMc10 := Aside0.mk c10
          clear c10
          obtain ⟨y187, hy187⟩ : ∃ y_ : List (S34), y_ = (([] : List (S34)) ++ l0) := ⟨_, rfl⟩
          replace H : (if y187.length + l1.length < 4398046511104 then ((schema_Put.f kj3 (y187 ++ l1)).bind fun bt193 => (if t180 = 0 then (drydocklaw04_SchemaLists.j1 kj3 l0 l1 t179 t183 bt193.1 bt193.2 (t184 != 0)) else (drydocklaw04_SchemaLists.j1 kj3 l0 l1 t179 t183 bt193.1 bt193.2 true))) else (none)) = some r := by first | (rw [hy187]; with_reducible exact H) | (have H2_ := (Option.bind_some _ _).symm.trans H; rw [hy187]; with_reducible exact H2_) | (have H2_ := (Option.bind_some _ _).symm.trans H; with_reducible exact H2_) | with_reducible exact H | (rw [hy187]; exact H) | exact H
          have Ny187 := Aside0.mk hy187
          clear hy187
          by_cases c11 : y187.length + l1.length < 4398046511104
          · rw [if_pos c11] at H
            have LMc11 := Aside0.mk c11
            clear c11
            obtain ⟨y190, hy190⟩ : ∃ y_ : List (S34), y_ = (y187 ++ l1) := ⟨_, rfl⟩
            replace H : ((schema_Put.f kj3 y190).bind fun bt193 => (if t180 = 0 then (drydocklaw04_SchemaLists.j1 kj3 l0 l1 t179 t183 bt193.1 bt193.2 (t184 != 0)) else (drydocklaw04_SchemaLists.j1 kj3 l0 l1 t179 t183 bt193.1 bt193.2 true))) = some r := by first | (rw [hy190]; with_reducible exact H) | (have H2_ := (Option.bind_some _ _).symm.trans H; rw [hy190]; with_reducible exact H2_) | (have H2_ := (Option.bind_some _ _).symm.trans H; with_reducible exact H2_) | with_reducible exact H | (rw [hy190]; exact H) | exact H
            have Ny190 := Aside0.mk hy190
            clear hy190
            replace H := Option.bind_eq_some_iff.mp H
            obtain ⟨⟨t193, t194⟩, A120, H⟩ := H
            replace H : (if t180 = 0 then (drydocklaw04_SchemaLists.j1 kj3 l0 l1 t179 t183 t193 t194 (t184 != 0)) else (drydocklaw04_SchemaLists.j1 kj3 l0 l1 t179 t183 t193 t194 true)) = some r := H
            have A12 := Aside0.mk A120
            clear A120
            have HC13 := Aside0.mk H
            clear H
            go_upto_region 7 with (first | (go_at_call 10; (with_reducible refine (schema_Put.calls kj3 _ _ l0 t179 t180 _ ?side1 ?side2 A8.out).mono ?_); (case side1 => repeat (first | exact (Kd.C_below HR0.out HB.out) | (with_reducible refine Kd.C_alloc ?_ _) | (with_reducible refine Kd.C_drewN ?_ _) | (with_reducible refine Kd.C_drew ?_))); (case side2 => exact HC0.out); rintro e w14 ⟨v181, rfl, ho0, hb⟩; have n0_ := Aside0.mk (Kd.R_lower ho0 (below_size (by repeat (first | (with_reducible first | exact HB.out | apply below_alloc | apply pw_below_drewN | apply below_drew1) | exact HB.out)))); have n1_ := Aside0.mk (below_step (by repeat (first | (with_reducible first | exact HB.out | apply below_alloc | apply pw_below_drewN | apply below_drew1) | exact HB.out)) hb); clear HB; have HO182 := n0_; have HB := n1_; clear n0_ n1_; (try clear hb); (try clear hb2); (try clear hk); (try clear hi); (try clear ho0); obtain ⟨Ao15, co15, eo15⟩ := Kd.R_slice HO182.out; subst eo15) | (go_at_call 10; (with_reducible refine (schema_Put.calls kj3 _ _ l1 t183 t184 _ ?side1 ?side2 A9.out).mono ?_); (case side1 => repeat (first | exact (Kd.C_below HR1.out HB.out) | (with_reducible refine Kd.C_alloc ?_ _) | (with_reducible refine Kd.C_drewN ?_ _) | (with_reducible refine Kd.C_drew ?_))); (case side2 => exact HC1.out); rintro e w16 ⟨v185, rfl, ho0, hb⟩; have n0_ := Aside0.mk (Kd.R_elder' (by (with_reducible repeat (first | apply Kd.R_alloc | apply Kd.R_drewN | apply Kd.R_drew)); exact HO182.out) (Kd.R_base ho0) hb); have n1_ := Aside0.mk (Kd.R_lower (Kd.R_new' ho0 (Kd.R_lt (by (with_reducible repeat (first | apply Kd.R_alloc | apply Kd.R_drewN | apply Kd.R_drew)); exact HO182.out))) (below_size (by repeat (first | (with_reducible first | exact HB.out | apply below_alloc | apply pw_below_drewN | apply below_drew1) | exact HB.out)))); have n2_ := Aside0.mk (below_step (by repeat (first | (with_reducible first | exact HB.out | apply below_alloc | apply pw_below_drewN | apply below_drew1) | exact HB.out)) hb); clear HO182; clear HB; have HO182 := n0_; have HO186 := n1_; have HB := n2_; clear n0_ n1_ n2_; (try clear hb); (try clear hb2); (try clear hk); (try clear hi); (try clear ho0); obtain ⟨Ao17, co17, eo17⟩ := Kd.R_slice HO186.out; subst eo17) | ((with_reducible refine gate_builtin (b := .append) (xs := #[.const (.slice none 0 0), .tmp 35]) rfl ?_); (try (refine gate_guard (by rfl) ?_; dsimp only)); at_builtin; refine Kd.R_append_rows k34 (w0 := w) w.heap.size rfl (.const (.slice none 0 0)) (.tmp 35) 22 34 (.agg #[(.int .i64 0), (.int .i64 0), (.int .i64 0), (.int .i64 0)]) 32 rfl Try.underlying22 info34 rfl (by decide) (by omega) (.slice none 0 0) ([] : List (S34)) l0 _ _ _ (fun _ => True) (fun _ => False) rfl rfl ?aO ?aR (fun _ _ h => h) (fun _ h => h.elim) ?aF ?aB ?aS ?aL ?_; (case aR => repeat (first | exact (Kd.C_below HR0.out HB.out) | (with_reducible refine Kd.C_alloc ?_ _) | (with_reducible refine Kd.C_drewN ?_ _) | (with_reducible refine Kd.C_drew ?_))); (case aB => exact (by repeat (first | (with_reducible first | exact HB.out | apply below_alloc | apply pw_below_drewN | apply below_drew1) | exact HB.out))); (case aF => exact (fun _ _ => trivial)); (case aO => exact ((Kd.R_nil _ _ _ _ (fun _ => True)))); (case aS => exact (below_size (by repeat (first | (with_reducible first | exact HB.out | apply below_alloc | apply pw_below_drewN | apply below_drew1) | exact HB.out)))); (case aL => have := LMc10.out; omega); intro v188 w18 ho hb hg hat; rw [← Ny187.out] at ho; have n0_ := Aside0.mk (Kd.R_grown (by (with_reducible repeat (first | apply Kd.R_alloc | apply Kd.R_drewN | apply Kd.R_drew)); exact HO182.out) hg (fun _ _ => by simp [Value.ownBlock])); have n1_ := Aside0.mk (Kd.R_grown (by (with_reducible repeat (first | apply Kd.R_alloc | apply Kd.R_drewN | apply Kd.R_drew)); exact HO186.out) hg (fun _ _ => by simp [Value.ownBlock])); have n2_ := Aside0.mk (hb); have n3_ := Aside0.mk (ho); clear HO182; clear HO186; clear HB; have HO182 := n0_; have HO186 := n1_; have HB := n2_; have HO189 := n3_; clear n0_ n1_ n2_ n3_; clear ho hb hg hat) | ((with_reducible refine gate_builtin (b := .append) (xs := #[.tmp 36, .tmp 37]) rfl ?_); (try (refine gate_guard (by rfl) ?_; dsimp only)); at_builtin; refine Kd.R_append_rows k34 (w0 := w) w.heap.size rfl (.tmp 36) (.tmp 37) 22 34 (.agg #[(.int .i64 0), (.int .i64 0), (.int .i64 0), (.int .i64 0)]) 32 rfl Try.underlying22 info34 rfl (by decide) (by omega) v188 y187 l1 _ _ _ (fun _ => True) (fun _ => False) rfl rfl ?aO ?aR (fun _ _ h => h) (fun _ h => h.elim) ?aF ?aB ?aS ?aL ?_; (case aR => repeat (first | exact (Kd.C_below HR1.out HB.out) | (with_reducible refine Kd.C_alloc ?_ _) | (with_reducible refine Kd.C_drewN ?_ _) | (with_reducible refine Kd.C_drew ?_))); (case aB => exact (by repeat (first | (with_reducible first | exact HB.out | apply below_alloc | apply pw_below_drewN | apply below_drew1) | exact HB.out))); (case aF => exact (fun _ _ => trivial)); (case aO => exact (by (with_reducible repeat (first | apply Kd.R_alloc | apply Kd.R_drewN | apply Kd.R_drew)); exact HO189.out)); (case aS => exact (below_size (by repeat (first | (with_reducible first | exact HB.out | apply below_alloc | apply pw_below_drewN | apply below_drew1) | exact HB.out)))); (case aL => have := LMc11.out; omega); intro v191 w19 ho hb hg hat; rw [← Ny190.out] at ho; have n0_ := Aside0.mk (Kd.R_over' (by (with_reducible repeat (first | apply Kd.R_alloc | apply Kd.R_drewN | apply Kd.R_drew)); exact HO182.out) (Kd.R_typed (by (with_reducible repeat (first | apply Kd.R_alloc | apply Kd.R_drewN | apply Kd.R_drew)); exact HO189.out)) (by decide) hg); have n1_ := Aside0.mk (Kd.R_over' (by (with_reducible repeat (first | apply Kd.R_alloc | apply Kd.R_drewN | apply Kd.R_drew)); exact HO186.out) (Kd.R_typed (by (with_reducible repeat (first | apply Kd.R_alloc | apply Kd.R_drewN | apply Kd.R_drew)); exact HO189.out)) (by decide) hg); have n2_ := Aside0.mk (hb); have n3_ := Aside0.mk (ho); clear HO182; clear HO186; clear HB; clear HO189; have HO182 := n0_; have HO186 := n1_; have HB := n2_; have HO192 := n3_; clear n0_ n1_ n2_ n3_; clear ho hb hg hat; obtain ⟨Ao20, co20, eo20⟩ := Kd.R_slice HO192.out; subst eo20) | (go_at_call 10; (with_reducible refine (schema_Put.calls kj3 _ _ y190 t193 t194 _ ?side1 ?side2 A12.out).mono ?_); (case side1 => repeat (first | exact (Kd.R_reads' HO192.out).2.2 | (with_reducible refine Kd.C_alloc ?_ _) | (with_reducible refine Kd.C_drewN ?_ _) | (with_reducible refine Kd.C_drew ?_))); (case side2 => exact (Kd.R_reads' HO192.out).2.1); rintro e w21 ⟨v195, rfl, ho0, hb⟩; have n0_ := Aside0.mk (Kd.R_elder' (by (with_reducible repeat (first | apply Kd.R_alloc | apply Kd.R_drewN | apply Kd.R_drew)); exact HO182.out) (Kd.R_base ho0) hb); have n1_ := Aside0.mk (Kd.R_elder' (by (with_reducible repeat (first | apply Kd.R_alloc | apply Kd.R_drewN | apply Kd.R_drew)); exact HO186.out) (Kd.R_base ho0) hb); have n2_ := Aside0.mk (Kd.R_below (by (with_reducible repeat (first | apply Kd.R_alloc | apply Kd.R_drewN | apply Kd.R_drew)); exact HO192.out) hb); have n3_ := Aside0.mk (Kd.R_lower (Kd.R_new' (Kd.R_new' ho0 (Kd.R_lt (by (with_reducible repeat (first | apply Kd.R_alloc | apply Kd.R_drewN | apply Kd.R_drew)); exact HO182.out))) (Kd.R_lt (by (with_reducible repeat (first | apply Kd.R_alloc | apply Kd.R_drewN | apply Kd.R_drew)); exact HO186.out))) (below_size (by repeat (first | (with_reducible first | exact HB.out | apply below_alloc | apply pw_below_drewN | apply below_drew1) | exact HB.out)))); have n4_ := Aside0.mk (below_step (by repeat (first | (with_reducible first | exact HB.out | apply below_alloc | apply pw_below_drewN | apply below_drew1) | exact HB.out)) hb); clear HO182; clear HO186; clear HO192; clear HB; have HO182 := n0_; have HO186 := n1_; have HO192 := n2_; have HO196 := n3_; have HB := n4_; clear n0_ n1_ n2_ n3_ n4_; (try clear hb); (try clear hb2); (try clear hk); (try clear hi); (try clear ho0); obtain ⟨Ao22, co22, eo22⟩ := Kd.R_slice HO196.out; subst eo22))
            repeat (go_quiet (first | (go_at_call 10; (with_reducible refine (schema_Put.calls kj3 _ _ l0 t179 t180 _ ?side1 ?side2 A8.out).mono ?_); (case side1 => repeat (first | exact (Kd.C_below HR0.out HB.out) | (with_reducible refine Kd.C_alloc ?_ _) | (with_reducible refine Kd.C_drewN ?_ _) | (with_reducible refine Kd.C_drew ?_))); (case side2 => exact HC0.out); rintro e w14 ⟨v181, rfl, ho0, hb⟩; have n0_ := Aside0.mk (Kd.R_lower ho0 (below_size (by repeat (first | (with_reducible first | exact HB.out | apply below_alloc | apply pw_below_drewN | apply below_drew1) | exact HB.out)))); have n1_ := Aside0.mk (below_step (by repeat (first | (with_reducible first | exact HB.out | apply below_alloc | apply pw_below_drewN | apply below_drew1) | exact HB.out)) hb); clear HB; have HO182 := n0_; have HB := n1_; clear n0_ n1_; (try clear hb); (try clear hb2); (try clear hk); (try clear hi); (try clear ho0); obtain ⟨Ao15, co15, eo15⟩ := Kd.R_slice HO182.out; subst eo15) | (go_at_call 10; (with_reducible refine (schema_Put.calls kj3 _ _ l1 t183 t184 _ ?side1 ?side2 A9.out).mono ?_); (case side1 => repeat (first | exact (Kd.C_below HR1.out HB.out) | (with_reducible refine Kd.C_alloc ?_ _) | (with_reducible refine Kd.C_drewN ?_ _) | (with_reducible refine Kd.C_drew ?_))); (case side2 => exact HC1.out); rintro e w16 ⟨v185, rfl, ho0, hb⟩; have n0_ := Aside0.mk (Kd.R_elder' (by (with_reducible repeat (first | apply Kd.R_alloc | apply Kd.R_drewN | apply Kd.R_drew)); exact HO182.out) (Kd.R_base ho0) hb); have n1_ := Aside0.mk (Kd.R_lower (Kd.R_new' ho0 (Kd.R_lt (by (with_reducible repeat (first | apply Kd.R_alloc | apply Kd.R_drewN | apply Kd.R_drew)); exact HO182.out))) (below_size (by repeat (first | (with_reducible first | exact HB.out | apply below_alloc | apply pw_below_drewN | apply below_drew1) | exact HB.out)))); have n2_ := Aside0.mk (below_step (by repeat (first | (with_reducible first | exact HB.out | apply below_alloc | apply pw_below_drewN | apply below_drew1) | exact HB.out)) hb); clear HO182; clear HB; have HO182 := n0_; have HO186 := n1_; have HB := n2_; clear n0_ n1_ n2_; (try clear hb); (try clear hb2); (try clear hk); (try clear hi); (try clear ho0); obtain ⟨Ao17, co17, eo17⟩ := Kd.R_slice HO186.out; subst eo17) | ((with_reducible refine gate_builtin (b := .append) (xs := #[.const (.slice none 0 0), .tmp 35]) rfl ?_); (try (refine gate_guard (by rfl) ?_; dsimp only)); at_builtin; refine Kd.R_append_rows k34 (w0 := w) w.heap.size rfl (.const (.slice none 0 0)) (.tmp 35) 22 34 (.agg #[(.int .i64 0), (.int .i64 0), (.int .i64 0), (.int .i64 0)]) 32 rfl Try.underlying22 info34 rfl (by decide) (by omega) (.slice none 0 0) ([] : List (S34)) l0 _ _ _ (fun _ => True) (fun _ => False) rfl rfl ?aO ?aR (fun _ _ h => h) (fun _ h => h.elim) ?aF ?aB ?aS ?aL ?_; (case aR => repeat (first | exact (Kd.C_below HR0.out HB.out) | (with_reducible refine Kd.C_alloc ?_ _) | (with_reducible refine Kd.C_drewN ?_ _) | (with_reducible refine Kd.C_drew ?_))); (case aB => exact (by repeat (first | (with_reducible first | exact HB.out | apply below_alloc | apply pw_below_drewN | apply below_drew1) | exact HB.out))); (case aF => exact (fun _ _ => trivial)); (case aO => exact ((Kd.R_nil _ _ _ _ (fun _ => True)))); (case aS => exact (below_size (by repeat (first | (with_reducible first | exact HB.out | apply below_alloc | apply pw_below_drewN | apply below_drew1) | exact HB.out)))); (case aL => have := LMc10.out; omega); intro v188 w18 ho hb hg hat; rw [← Ny187.out] at ho; have n0_ := Aside0.mk (Kd.R_grown (by (with_reducible repeat (first | apply Kd.R_alloc | apply Kd.R_drewN | apply Kd.R_drew)); exact HO182.out) hg (fun _ _ => by simp [Value.ownBlock])); have n1_ := Aside0.mk (Kd.R_grown (by (with_reducible repeat (first | apply Kd.R_alloc | apply Kd.R_drewN | apply Kd.R_drew)); exact HO186.out) hg (fun _ _ => by simp [Value.ownBlock])); have n2_ := Aside0.mk (hb); have n3_ := Aside0.mk (ho); clear HO182; clear HO186; clear HB; have HO182 := n0_; have HO186 := n1_; have HB := n2_; have HO189 := n3_; clear n0_ n1_ n2_ n3_; clear ho hb hg hat) | ((with_reducible refine gate_builtin (b := .append) (xs := #[.tmp 36, .tmp 37]) rfl ?_); (try (refine gate_guard (by rfl) ?_; dsimp only)); at_builtin; refine Kd.R_append_rows k34 (w0 := w) w.heap.size rfl (.tmp 36) (.tmp 37) 22 34 (.agg #[(.int .i64 0), (.int .i64 0), (.int .i64 0), (.int .i64 0)]) 32 rfl Try.underlying22 info34 rfl (by decide) (by omega) v188 y187 l1 _ _ _ (fun _ => True) (fun _ => False) rfl rfl ?aO ?aR (fun _ _ h => h) (fun _ h => h.elim) ?aF ?aB ?aS ?aL ?_; (case aR => repeat (first | exact (Kd.C_below HR1.out HB.out) | (with_reducible refine Kd.C_alloc ?_ _) | (with_reducible refine Kd.C_drewN ?_ _) | (with_reducible refine Kd.C_drew ?_))); (case aB => exact (by repeat (first | (with_reducible first | exact HB.out | apply below_alloc | apply pw_below_drewN | apply below_drew1) | exact HB.out))); (case aF => exact (fun _ _ => trivial)); (case aO => exact (by (with_reducible repeat (first | apply Kd.R_alloc | apply Kd.R_drewN | apply Kd.R_drew)); exact HO189.out)); (case aS => exact (below_size (by repeat (first | (with_reducible first | exact HB.out | apply below_alloc | apply pw_below_drewN | apply below_drew1) | exact HB.out)))); (case aL => have := LMc11.out; omega); intro v191 w19 ho hb hg hat; rw [← Ny190.out] at ho; have n0_ := Aside0.mk (Kd.R_over' (by (with_reducible repeat (first | apply Kd.R_alloc | apply Kd.R_drewN | apply Kd.R_drew)); exact HO182.out) (Kd.R_typed (by (with_reducible repeat (first | apply Kd.R_alloc | apply Kd.R_drewN | apply Kd.R_drew)); exact HO189.out)) (by decide) hg); have n1_ := Aside0.mk (Kd.R_over' (by (with_reducible repeat (first | apply Kd.R_alloc | apply Kd.R_drewN | apply Kd.R_drew)); exact HO186.out) (Kd.R_typed (by (with_reducible repeat (first | apply Kd.R_alloc | apply Kd.R_drewN | apply Kd.R_drew)); exact HO189.out)) (by decide) hg); have n2_ := Aside0.mk (hb); have n3_ := Aside0.mk (ho); clear HO182; clear HO186; clear HB; clear HO189; have HO182 := n0_; have HO186 := n1_; have HB := n2_; have HO192 := n3_; clear n0_ n1_ n2_ n3_; clear ho hb hg hat; obtain ⟨Ao20, co20, eo20⟩ := Kd.R_slice HO192.out; subst eo20) | (go_at_call 10; (with_reducible refine (schema_Put.calls kj3 _ _ y190 t193 t194 _ ?side1 ?side2 A12.out).mono ?_); (case side1 => repeat (first | exact (Kd.R_reads' HO192.out).2.2 | (with_reducible refine Kd.C_alloc ?_ _) | (with_reducible refine Kd.C_drewN ?_ _) | (with_reducible refine Kd.C_drew ?_))); (case side2 => exact (Kd.R_reads' HO192.out).2.1); rintro e w21 ⟨v195, rfl, ho0, hb⟩; have n0_ := Aside0.mk (Kd.R_elder' (by (with_reducible repeat (first | apply Kd.R_alloc | apply Kd.R_drewN | apply Kd.R_drew)); exact HO182.out) (Kd.R_base ho0) hb); have n1_ := Aside0.mk (Kd.R_elder' (by (with_reducible repeat (first | apply Kd.R_alloc | apply Kd.R_drewN | apply Kd.R_drew)); exact HO186.out) (Kd.R_base ho0) hb); have n2_ := Aside0.mk (Kd.R_below (by (with_reducible repeat (first | apply Kd.R_alloc | apply Kd.R_drewN | apply Kd.R_drew)); exact HO192.out) hb); have n3_ := Aside0.mk (Kd.R_lower (Kd.R_new' (Kd.R_new' ho0 (Kd.R_lt (by (with_reducible repeat (first | apply Kd.R_alloc | apply Kd.R_drewN | apply Kd.R_drew)); exact HO182.out))) (Kd.R_lt (by (with_reducible repeat (first | apply Kd.R_alloc | apply Kd.R_drewN | apply Kd.R_drew)); exact HO186.out))) (below_size (by repeat (first | (with_reducible first | exact HB.out | apply below_alloc | apply pw_below_drewN | apply below_drew1) | exact HB.out)))); have n4_ := Aside0.mk (below_step (by repeat (first | (with_reducible first | exact HB.out | apply below_alloc | apply pw_below_drewN | apply below_drew1) | exact HB.out)) hb); clear HO182; clear HO186; clear HO192; clear HB; have HO182 := n0_; have HO186 := n1_; have HO192 := n2_; have HO196 := n3_; have HB := n4_; clear n0_ n1_ n2_ n3_ n4_; (try clear hb); (try clear hb2); (try clear hk); (try clear hi); (try clear ho0); obtain ⟨Ao22, co22, eo22⟩ := Kd.R_slice HO196.out; subst eo22)); go_upto_region 7 with (first | (go_at_call 10; (with_reducible refine (schema_Put.calls kj3 _ _ l0 t179 t180 _ ?side1 ?side2 A8.out).mono ?_); (case side1 => repeat (first | exact (Kd.C_below HR0.out HB.out) | (with_reducible refine Kd.C_alloc ?_ _) | (with_reducible refine Kd.C_drewN ?_ _) | (with_reducible refine Kd.C_drew ?_))); (case side2 => exact HC0.out); rintro e w14 ⟨v181, rfl, ho0, hb⟩; have n0_ := Aside0.mk (Kd.R_lower ho0 (below_size (by repeat (first | (with_reducible first | exact HB.out | apply below_alloc | apply pw_below_drewN | apply below_drew1) | exact HB.out)))); have n1_ := Aside0.mk (below_step (by repeat (first | (with_reducible first | exact HB.out | apply below_alloc | apply pw_below_drewN | apply below_drew1) | exact HB.out)) hb); clear HB; have HO182 := n0_; have HB := n1_; clear n0_ n1_; (try clear hb); (try clear hb2); (try clear hk); (try clear hi); (try clear ho0); obtain ⟨Ao15, co15, eo15⟩ := Kd.R_slice HO182.out; subst eo15) | (go_at_call 10; (with_reducible refine (schema_Put.calls kj3 _ _ l1 t183 t184 _ ?side1 ?side2 A9.out).mono ?_); (case side1 => repeat (first | exact (Kd.C_below HR1.out HB.out) | (with_reducible refine Kd.C_alloc ?_ _) | (with_reducible refine Kd.C_drewN ?_ _) | (with_reducible refine Kd.C_drew ?_))); (case side2 => exact HC1.out); rintro e w16 ⟨v185, rfl, ho0, hb⟩; have n0_ := Aside0.mk (Kd.R_elder' (by (with_reducible repeat (first | apply Kd.R_alloc | apply Kd.R_drewN | apply Kd.R_drew)); exact HO182.out) (Kd.R_base ho0) hb); have n1_ := Aside0.mk (Kd.R_lower (Kd.R_new' ho0 (Kd.R_lt (by (with_reducible repeat (first | apply Kd.R_alloc | apply Kd.R_drewN | apply Kd.R_drew)); exact HO182.out))) (below_size (by repeat (first | (with_reducible first | exact HB.out | apply below_alloc | apply pw_below_drewN | apply below_drew1) | exact HB.out)))); have n2_ := Aside0.mk (below_step (by repeat (first | (with_reducible first | exact HB.out | apply below_alloc | apply pw_below_drewN | apply below_drew1) | exact HB.out)) hb); clear HO182; clear HB; have HO182 := n0_; have HO186 := n1_; have HB := n2_; clear n0_ n1_ n2_; (try clear hb); (try clear hb2); (try clear hk); (try clear hi); (try clear ho0); obtain ⟨Ao17, co17, eo17⟩ := Kd.R_slice HO186.out; subst eo17) | ((with_reducible refine gate_builtin (b := .append) (xs := #[.const (.slice none 0 0), .tmp 35]) rfl ?_); (try (refine gate_guard (by rfl) ?_; dsimp only)); at_builtin; refine Kd.R_append_rows k34 (w0 := w) w.heap.size rfl (.const (.slice none 0 0)) (.tmp 35) 22 34 (.agg #[(.int .i64 0), (.int .i64 0), (.int .i64 0), (.int .i64 0)]) 32 rfl Try.underlying22 info34 rfl (by decide) (by omega) (.slice none 0 0) ([] : List (S34)) l0 _ _ _ (fun _ => True) (fun _ => False) rfl rfl ?aO ?aR (fun _ _ h => h) (fun _ h => h.elim) ?aF ?aB ?aS ?aL ?_; (case aR => repeat (first | exact (Kd.C_below HR0.out HB.out) | (with_reducible refine Kd.C_alloc ?_ _) | (with_reducible refine Kd.C_drewN ?_ _) | (with_reducible refine Kd.C_drew ?_))); (case aB => exact (by repeat (first | (with_reducible first | exact HB.out | apply below_alloc | apply pw_below_drewN | apply below_drew1) | exact HB.out))); (case aF => exact (fun _ _ => trivial)); (case aO => exact ((Kd.R_nil _ _ _ _ (fun _ => True)))); (case aS => exact (below_size (by repeat (first | (with_reducible first | exact HB.out | apply below_alloc | apply pw_below_drewN | apply below_drew1) | exact HB.out)))); (case aL => have := LMc10.out; omega); intro v188 w18 ho hb hg hat; rw [← Ny187.out] at ho; have n0_ := Aside0.mk (Kd.R_grown (by (with_reducible repeat (first | apply Kd.R_alloc | apply Kd.R_drewN | apply Kd.R_drew)); exact HO182.out) hg (fun _ _ => by simp [Value.ownBlock])); have n1_ := Aside0.mk (Kd.R_grown (by (with_reducible repeat (first | apply Kd.R_alloc | apply Kd.R_drewN | apply Kd.R_drew)); exact HO186.out) hg (fun _ _ => by simp [Value.ownBlock])); have n2_ := Aside0.mk (hb); have n3_ := Aside0.mk (ho); clear HO182; clear HO186; clear HB; have HO182 := n0_; have HO186 := n1_; have HB := n2_; have HO189 := n3_; clear n0_ n1_ n2_ n3_; clear ho hb hg hat) | ((with_reducible refine gate_builtin (b := .append) (xs := #[.tmp 36, .tmp 37]) rfl ?_); (try (refine gate_guard (by rfl) ?_; dsimp only)); at_builtin; refine Kd.R_append_rows k34 (w0 := w) w.heap.size rfl (.tmp 36) (.tmp 37) 22 34 (.agg #[(.int .i64 0), (.int .i64 0), (.int .i64 0), (.int .i64 0)]) 32 rfl Try.underlying22 info34 rfl (by decide) (by omega) v188 y187 l1 _ _ _ (fun _ => True) (fun _ => False) rfl rfl ?aO ?aR (fun _ _ h => h) (fun _ h => h.elim) ?aF ?aB ?aS ?aL ?_; (case aR => repeat (first | exact (Kd.C_below HR1.out HB.out) | (with_reducible refine Kd.C_alloc ?_ _) | (with_reducible refine Kd.C_drewN ?_ _) | (with_reducible refine Kd.C_drew ?_))); (case aB => exact (by repeat (first | (with_reducible first | exact HB.out | apply below_alloc | apply pw_below_drewN | apply below_drew1) | exact HB.out))); (case aF => exact (fun _ _ => trivial)); (case aO => exact (by (with_reducible repeat (first | apply Kd.R_alloc | apply Kd.R_drewN | apply Kd.R_drew)); exact HO189.out)); (case aS => exact (below_size (by repeat (first | (with_reducible first | exact HB.out | apply below_alloc | apply pw_below_drewN | apply below_drew1) | exact HB.out)))); (case aL => have := LMc11.out; omega); intro v191 w19 ho hb hg hat; rw [← Ny190.out] at ho; have n0_ := Aside0.mk (Kd.R_over' (by (with_reducible repeat (first | apply Kd.R_alloc | apply Kd.R_drewN | apply Kd.R_drew)); exact HO182.out) (Kd.R_typed (by (with_reducible repeat (first | apply Kd.R_alloc | apply Kd.R_drewN | apply Kd.R_drew)); exact HO189.out)) (by decide) hg); have n1_ := Aside0.mk (Kd.R_over' (by (with_reducible repeat (first | apply Kd.R_alloc | apply Kd.R_drewN | apply Kd.R_drew)); exact HO186.out) (Kd.R_typed (by (with_reducible repeat (first | apply Kd.R_alloc | apply Kd.R_drewN | apply Kd.R_drew)); exact HO189.out)) (by decide) hg); have n2_ := Aside0.mk (hb); have n3_ := Aside0.mk (ho); clear HO182; clear HO186; clear HB; clear HO189; have HO182 := n0_; have HO186 := n1_; have HB := n2_; have HO192 := n3_; clear n0_ n1_ n2_ n3_; clear ho hb hg hat; obtain ⟨Ao20, co20, eo20⟩ := Kd.R_slice HO192.out; subst eo20) | (go_at_call 10; (with_reducible refine (schema_Put.calls kj3 _ _ y190 t193 t194 _ ?side1 ?side2 A12.out).mono ?_); (case side1 => repeat (first | exact (Kd.R_reads' HO192.out).2.2 | (with_reducible refine Kd.C_alloc ?_ _) | (with_reducible refine Kd.C_drewN ?_ _) | (with_reducible refine Kd.C_drew ?_))); (case side2 => exact (Kd.R_reads' HO192.out).2.1); rintro e w21 ⟨v195, rfl, ho0, hb⟩; have n0_ := Aside0.mk (Kd.R_elder' (by (with_reducible repeat (first | apply Kd.R_alloc | apply Kd.R_drewN | apply Kd.R_drew)); exact HO182.out) (Kd.R_base ho0) hb); have n1_ := Aside0.mk (Kd.R_elder' (by (with_reducible repeat (first | apply Kd.R_alloc | apply Kd.R_drewN | apply Kd.R_drew)); exact HO186.out) (Kd.R_base ho0) hb); have n2_ := Aside0.mk (Kd.R_below (by (with_reducible repeat (first | apply Kd.R_alloc | apply Kd.R_drewN | apply Kd.R_drew)); exact HO192.out) hb); have n3_ := Aside0.mk (Kd.R_lower (Kd.R_new' (Kd.R_new' ho0 (Kd.R_lt (by (with_reducible repeat (first | apply Kd.R_alloc | apply Kd.R_drewN | apply Kd.R_drew)); exact HO182.out))) (Kd.R_lt (by (with_reducible repeat (first | apply Kd.R_alloc | apply Kd.R_drewN | apply Kd.R_drew)); exact HO186.out))) (below_size (by repeat (first | (with_reducible first | exact HB.out | apply below_alloc | apply pw_below_drewN | apply below_drew1) | exact HB.out)))); have n4_ := Aside0.mk (below_step (by repeat (first | (with_reducible first | exact HB.out | apply below_alloc | apply pw_below_drewN | apply below_drew1) | exact HB.out)) hb); clear HO182; clear HO186; clear HO192; clear HB; have HO182 := n0_; have HO186 := n1_; have HO192 := n2_; have HO196 := n3_; have HB := n4_; clear n0_ n1_ n2_ n3_ n4_; (try clear hb); (try clear hb2); (try clear hk); (try clear hi); (try clear ho0); obtain ⟨Ao22, co22, eo22⟩ := Kd.R_slice HO196.out; subst eo22)))
            (try simp only [Act.put, List.setIfInBounds_toArray, List.set_cons_zero, List.set_cons_succ])
            go_cut [47] (fun v47 wc => ∃ (kq : Nat) (x47_12 : Bool), v47 = .bool x47_12 ∧ Aside0 (drydocklaw04_SchemaLists.j1 kq l0 l1 t179 t183 t193 t194 x47_12 = some r) ∧ Aside0 (kq ≤ kj3) ∧ Aside0 (Kd.R (Kd.int .u8) 5 wc w.heap.size (fun k_ => some k_ ≠ ((.slice Ao17 t183.length co17) : Value).ownBlock ∧ some k_ ≠ ((.slice Ao22 t193.length co22) : Value).ownBlock) (.slice Ao15 t179.length co15) t179) ∧ Aside0 (Kd.R (Kd.int .u8) 5 wc w.heap.size (fun k_ => some k_ ≠ ((.slice Ao15 t179.length co15) : Value).ownBlock ∧ some k_ ≠ ((.slice Ao22 t193.length co22) : Value).ownBlock) (.slice Ao17 t183.length co17) t183) ∧ Aside0 (Kd.R (Kd.int .u8) 5 wc w.heap.size (fun k_ => some k_ ≠ ((.slice Ao15 t179.length co15) : Value).ownBlock ∧ some k_ ≠ ((.slice Ao17 t183.length co17) : Value).ownBlock) (.slice Ao22 t193.length co22) t193) ∧ Aside0 (Below w.heap.size w wc))
            case first =>
              have H := HC13.out
              clear HC13
              by_cases c23 : t180 = 0
              · rw [if_pos c23] at H
                have c23b0 : (t180 == 0) = true := beq_iff_eq.mpr c23
                have c23b1 : (t180 != 0) = false := bne_eq_false_iff_eq.mpr c23
                clear c23
                (first | rw [c23b0] | (simp only [i64_w, i32_w]; rw [c23b0]) | skip)
                have H' := Aside0.mk H
                clear H
                go_wp2
                repeat (go_quiet (fail); try go_wp2)
                go_meet
                case rel => exact ⟨_, ((t184 != 0)), (by first | rfl | (simp; done) | (simp [*]; done)), H', ⟨by have := HJ3.out; first | omega | exact Nat.le_refl _⟩, ⟨by (with_reducible repeat (first | apply Kd.R_alloc | apply Kd.R_drewN | apply Kd.R_drew)); exact Kd.R_mono HO182.out (fun _ hk => ⟨hk.1.2, hk.2⟩)⟩, ⟨by (with_reducible repeat (first | apply Kd.R_alloc | apply Kd.R_drewN | apply Kd.R_drew)); exact Kd.R_mono HO186.out (fun _ hk => ⟨hk.1.2, hk.2⟩)⟩, ⟨by (with_reducible repeat (first | apply Kd.R_alloc | apply Kd.R_drewN | apply Kd.R_drew)); exact Kd.R_mono HO196.out (fun _ hk => ⟨hk.1.2, hk.2⟩)⟩, ⟨by repeat (first | (with_reducible first | exact HB.out | apply below_alloc | apply pw_below_drewN | apply below_drew1) | exact HB.out)⟩⟩
              · rw [if_neg c23] at H
                have c23b0 : (t180 == 0) = false := beq_eq_false_iff_ne.mpr c23
                have c23b1 : (t180 != 0) = true := bne_iff_ne.mpr c23
                (first | rw [c23b0] | (simp only [i64_w, i32_w]; rw [c23b0]) | skip)
                have H' := Aside0.mk H
                clear H
                go_wp2
                repeat (go_quiet (fail); try go_wp2)
                go_meet
                case rel => exact ⟨_, (true), (by first | rfl | (simp; done) | (simp [*]; done)), H', ⟨by have := HJ3.out; first | omega | exact Nat.le_refl _⟩, ⟨by (with_reducible repeat (first | apply Kd.R_alloc | apply Kd.R_drewN | apply Kd.R_drew)); exact Kd.R_mono HO182.out (fun _ hk => ⟨hk.1.2, hk.2⟩)⟩, ⟨by (with_reducible repeat (first | apply Kd.R_alloc | apply Kd.R_drewN | apply Kd.R_drew)); exact Kd.R_mono HO186.out (fun _ hk => ⟨hk.1.2, hk.2⟩)⟩, ⟨by (with_reducible repeat (first | apply Kd.R_alloc | apply Kd.R_drewN | apply Kd.R_drew)); exact Kd.R_mono HO196.out (fun _ hk => ⟨hk.1.2, hk.2⟩)⟩, ⟨by repeat (first | (with_reducible first | exact HB.out | apply below_alloc | apply pw_below_drewN | apply below_drew1) | exact HB.out)⟩⟩
            case rest =>
              clear HC13
              try clear c1
              try clear c2
              try clear p2
              try clear c5
              try clear c6
              try clear p6
              try clear c7
              try clear c10
              try clear c11
              try clear c23
              try clear c23b0
              try clear c23b1
              try clear p2
              try clear p6
              obtain ⟨kq, x47_12, rfl, HA, HJ12, HO_6, HO_8, HO_10, HB⟩ := hcut
              cases kq with
              | zero => exact absurd HA.out (by simp [drydocklaw04_SchemaLists.j1])
              | succ kj12 =>
                have H := HA.out
                clear HA
                simp only [drydocklaw04_SchemaLists.j1] at H
                by_cases c24 : x47_12 = true
                · subst c24
                  have H1 : (if t194 = 1 then (some ((t193.length : Int) == 0)) else (none)) = some r := by rw [if_pos rfl] at H; exact H
                  clear H
                  have H := H1
                  clear H1
                  by_cases c25 : t194 = 1
                  · rw [if_pos c25] at H
                    have c25b0 : (t194 == 1) = true := beq_iff_eq.mpr c25
                    have c25b1 : (t194 != 1) = false := bne_eq_false_iff_eq.mpr c25
                    clear c25
                    obtain rfl := Option.some.inj H
                    go_wp2
                    repeat (go_quiet (fail); try go_wp2)
                    go_ret
                    exact ⟨by first | rfl | (simp [errW_none, errW_some] <;> rfl) | (simp [*, errW_none, errW_some] <;> rfl), by repeat (first | (with_reducible first | exact HB.out | apply below_alloc | apply pw_below_drewN | apply below_drew1) | exact HB.out)⟩
                  · rw [if_neg c25] at H
                    exact absurd H (by simp)
                · replace c24 := Bool.eq_false_iff.mpr c24
                  subst c24
                  have H1 : (if t194 = 0 then (if (t179.length : Int) = (wrap64 (1 + (wrap64 (5 * (l0.length : Int))))) then (if (t183.length : Int) = (wrap64 (1 + (wrap64 (5 * (l1.length : Int))))) then (if (t193.length : Int) = (wrap64 ((wrap64 ((t179.length : Int) + (t183.length : Int))) - 1)) then (if 0 < (t193.length : Int) then (drydocklaw04_SchemaLists.j2 kj12 t179 t183 t193 ((wrap64 (rd t193 0)) != (wrap64 ((l0.length : Int) + (l1.length : Int))))) else (none)) else (drydocklaw04_SchemaLists.j2 kj12 t179 t183 t193 true)) else (drydocklaw04_SchemaLists.j2 kj12 t179 t183 t193 true)) else (drydocklaw04_SchemaLists.j2 kj12 t179 t183 t193 true)) else (drydocklaw04_SchemaLists.j2 kj12 t179 t183 t193 true)) = some r := by rw [if_neg (show ¬ (false = true) by decide)] at H; exact H
                  clear H
                  have H := H1
                  clear H1
                  have HC26 := Aside0.mk H
                  clear H
                  go_upto_region 9 with (fail)
                  repeat (go_quiet (fail); go_upto_region 9 with (fail))
                  go_cut [97] (fun v97 wc => ∃ (kq : Nat) (x97_25 : Bool), v97 = .bool x97_25 ∧ Aside0 (drydocklaw04_SchemaLists.j2 kq t179 t183 t193 x97_25 = some r) ∧ Aside0 (kq ≤ kj12) ∧ Aside0 (Kd.R (Kd.int .u8) 5 wc w.heap.size (fun k_ => some k_ ≠ ((.slice Ao17 t183.length co17) : Value).ownBlock ∧ some k_ ≠ ((.slice Ao22 t193.length co22) : Value).ownBlock) (.slice Ao15 t179.length co15) t179) ∧ Aside0 (Kd.R (Kd.int .u8) 5 wc w.heap.size (fun k_ => some k_ ≠ ((.slice Ao15 t179.length co15) : Value).ownBlock ∧ some k_ ≠ ((.slice Ao22 t193.length co22) : Value).ownBlock) (.slice Ao17 t183.length co17) t183) ∧ Aside0 (Kd.R (Kd.int .u8) 5 wc w.heap.size (fun k_ => some k_ ≠ ((.slice Ao15 t179.length co15) : Value).ownBlock ∧ some k_ ≠ ((.slice Ao17 t183.length co17) : Value).ownBlock) (.slice Ao22 t193.length co22) t193) ∧ Aside0 (Below w.heap.size w wc))
                  case first =>
                    have H := HC26.out
                    clear HC26
                    by_cases c27 : t194 = 0
                    · rw [if_pos c27] at H
                      have c27b0 : (t194 == 0) = true := beq_iff_eq.mpr c27
                      have c27b1 : (t194 != 0) = false := bne_eq_false_iff_eq.mpr c27
                      clear c27
                      (first | rw [c27b0] | (simp only [i64_w, i32_w]; rw [c27b0]) | skip)
                      by_cases c28 : (t179.length : Int) = (wrap64 (1 + (wrap64 (5 * (l0.length : Int)))))
                      · rw [if_pos c28] at H
                        have c28b0 : ((t179.length : Int) == (wrap64 (1 + (wrap64 (5 * (l0.length : Int)))))) = true := beq_iff_eq.mpr c28
                        have c28b1 : ((t179.length : Int) != (wrap64 (1 + (wrap64 (5 * (l0.length : Int)))))) = false := bne_eq_false_iff_eq.mpr c28
                        clear c28
                        by_cases c29 : (t183.length : Int) = (wrap64 (1 + (wrap64 (5 * (l1.length : Int)))))
                        · rw [if_pos c29] at H
                          have c29b0 : ((t183.length : Int) == (wrap64 (1 + (wrap64 (5 * (l1.length : Int)))))) = true := beq_iff_eq.mpr c29
                          have c29b1 : ((t183.length : Int) != (wrap64 (1 + (wrap64 (5 * (l1.length : Int)))))) = false := bne_eq_false_iff_eq.mpr c29
                          clear c29
                          by_cases c30 : (t193.length : Int) = (wrap64 ((wrap64 ((t179.length : Int) + (t183.length : Int))) - 1))
                          · rw [if_pos c30] at H
                            have c30b0 : ((t193.length : Int) == (wrap64 ((wrap64 ((t179.length : Int) + (t183.length : Int))) - 1))) = true := beq_iff_eq.mpr c30
                            have c30b1 : ((t193.length : Int) != (wrap64 ((wrap64 ((t179.length : Int) + (t183.length : Int))) - 1))) = false := bne_eq_false_iff_eq.mpr c30
                            clear c30
                            by_cases c31 : 0 < (t193.length : Int)
                            · rw [if_pos c31] at H
                              have c31b0 : decide (0 < (t193.length : Int)) = true := decide_eq_true c31
                              have c31b1 : decide (0 < t193.length) = true := decide_eq_true (by omega)
                              clear c31
                              have H' := Aside0.mk H
                              clear H
                              have p197 : 0 ≤ (0 : Int) := (by omega)
                              have q197 : 0 < (t193.length : Int) := of_decide_eq_true (by first | (with_reducible assumption) | assumption)
                              obtain ⟨ad197, e197, hx197_0⟩ := Kd.at_int (Kd.R_reads' HO_10.out).2.2 0 p197 q197
                              cases e197
                              have qi197 : (0 < t193.length) = True := eq_true (by omega)
                              (try rw [show ((0 : Int)).toNat = 0 from rfl] at hx197_0)
                              (try rw [Addr.add_zero'] at hx197_0)
                              replace p197 := eq_true p197
                              replace q197 := eq_true q197
                              go_wp2
                              repeat (go_quiet (fail); try go_wp2)
                              go_meet
                              case rel => exact ⟨_, (((wrap64 (rd t193 0)) != (wrap64 ((l0.length : Int) + (l1.length : Int))))), (by first | rfl | (simp; done) | (simp [*]; done)), H', ⟨by have := HJ3.out; have := HJ12.out; first | omega | exact Nat.le_refl _⟩, ⟨by (with_reducible repeat (first | apply Kd.R_alloc | apply Kd.R_drewN | apply Kd.R_drew)); exact HO_6.out⟩, ⟨by (with_reducible repeat (first | apply Kd.R_alloc | apply Kd.R_drewN | apply Kd.R_drew)); exact HO_8.out⟩, ⟨by (with_reducible repeat (first | apply Kd.R_alloc | apply Kd.R_drewN | apply Kd.R_drew)); exact HO_10.out⟩, ⟨by repeat (first | (with_reducible first | exact HB.out | apply below_alloc | apply pw_below_drewN | apply below_drew1) | exact HB.out)⟩⟩
                            · rw [if_neg c31] at H
                              exact absurd H (by simp)
                          · rw [if_neg c30] at H
                            have c30b0 : ((t193.length : Int) == (wrap64 ((wrap64 ((t179.length : Int) + (t183.length : Int))) - 1))) = false := beq_eq_false_iff_ne.mpr c30
                            have c30b1 : ((t193.length : Int) != (wrap64 ((wrap64 ((t179.length : Int) + (t183.length : Int))) - 1))) = true := bne_iff_ne.mpr c30
                            have H' := Aside0.mk H
                            clear H
                            go_wp2
                            repeat (go_quiet (fail); try go_wp2)
                            go_meet
                            case rel => exact ⟨_, (true), (by first | rfl | (simp; done) | (simp [*]; done)), H', ⟨by have := HJ3.out; have := HJ12.out; first | omega | exact Nat.le_refl _⟩, ⟨by (with_reducible repeat (first | apply Kd.R_alloc | apply Kd.R_drewN | apply Kd.R_drew)); exact HO_6.out⟩, ⟨by (with_reducible repeat (first | apply Kd.R_alloc | apply Kd.R_drewN | apply Kd.R_drew)); exact HO_8.out⟩, ⟨by (with_reducible repeat (first | apply Kd.R_alloc | apply Kd.R_drewN | apply Kd.R_drew)); exact HO_10.out⟩, ⟨by repeat (first | (with_reducible first | exact HB.out | apply below_alloc | apply pw_below_drewN | apply below_drew1) | exact HB.out)⟩⟩
                        · rw [if_neg c29] at H
                          have c29b0 : ((t183.length : Int) == (wrap64 (1 + (wrap64 (5 * (l1.length : Int)))))) = false := beq_eq_false_iff_ne.mpr c29
                          have c29b1 : ((t183.length : Int) != (wrap64 (1 + (wrap64 (5 * (l1.length : Int)))))) = true := bne_iff_ne.mpr c29
                          have H' := Aside0.mk H
                          clear H
                          go_wp2
                          repeat (go_quiet (fail); try go_wp2)
                          go_meet
                          case rel => exact ⟨_, (true), (by first | rfl | (simp; done) | (simp [*]; done)), H', ⟨by have := HJ3.out; have := HJ12.out; first | omega | exact Nat.le_refl _⟩, ⟨by (with_reducible repeat (first | apply Kd.R_alloc | apply Kd.R_drewN | apply Kd.R_drew)); exact HO_6.out⟩, ⟨by (with_reducible repeat (first | apply Kd.R_alloc | apply Kd.R_drewN | apply Kd.R_drew)); exact HO_8.out⟩, ⟨by (with_reducible repeat (first | apply Kd.R_alloc | apply Kd.R_drewN | apply Kd.R_drew)); exact HO_10.out⟩, ⟨by repeat (first | (with_reducible first | exact HB.out | apply below_alloc | apply pw_below_drewN | apply below_drew1) | exact HB.out)⟩⟩
                      · rw [if_neg c28] at H
                        have c28b0 : ((t179.length : Int) == (wrap64 (1 + (wrap64 (5 * (l0.length : Int)))))) = false := beq_eq_false_iff_ne.mpr c28
                        have c28b1 : ((t179.length : Int) != (wrap64 (1 + (wrap64 (5 * (l0.length : Int)))))) = true := bne_iff_ne.mpr c28
                        have H' := Aside0.mk H
                        clear H
                        go_wp2
                        repeat (go_quiet (fail); try go_wp2)
                        go_meet
                        case rel => exact ⟨_, (true), (by first | rfl | (simp; done) | (simp [*]; done)), H', ⟨by have := HJ3.out; have := HJ12.out; first | omega | exact Nat.le_refl _⟩, ⟨by (with_reducible repeat (first | apply Kd.R_alloc | apply Kd.R_drewN | apply Kd.R_drew)); exact HO_6.out⟩, ⟨by (with_reducible repeat (first | apply Kd.R_alloc | apply Kd.R_drewN | apply Kd.R_drew)); exact HO_8.out⟩, ⟨by (with_reducible repeat (first | apply Kd.R_alloc | apply Kd.R_drewN | apply Kd.R_drew)); exact HO_10.out⟩, ⟨by repeat (first | (with_reducible first | exact HB.out | apply below_alloc | apply pw_below_drewN | apply below_drew1) | exact HB.out)⟩⟩
                    · rw [if_neg c27] at H
                      have c27b0 : (t194 == 0) = false := beq_eq_false_iff_ne.mpr c27
                      have c27b1 : (t194 != 0) = true := bne_iff_ne.mpr c27
                      (first | rw [c27b0] | (simp only [i64_w, i32_w]; rw [c27b0]) | skip)
                      have H' := Aside0.mk H
                      clear H
                      go_wp2
                      repeat (go_quiet (fail); try go_wp2)
                      go_meet
                      case rel => exact ⟨_, (true), (by first | rfl | (simp; done) | (simp [*]; done)), H', ⟨by have := HJ3.out; have := HJ12.out; first | omega | exact Nat.le_refl _⟩, ⟨by (with_reducible repeat (first | apply Kd.R_alloc | apply Kd.R_drewN | apply Kd.R_drew)); exact HO_6.out⟩, ⟨by (with_reducible repeat (first | apply Kd.R_alloc | apply Kd.R_drewN | apply Kd.R_drew)); exact HO_8.out⟩, ⟨by (with_reducible repeat (first | apply Kd.R_alloc | apply Kd.R_drewN | apply Kd.R_drew)); exact HO_10.out⟩, ⟨by repeat (first | (with_reducible first | exact HB.out | apply below_alloc | apply pw_below_drewN | apply below_drew1) | exact HB.out)⟩⟩
                  case rest =>
                    clear HC26
                    try clear c1
                    try clear p1
                    try clear q1
                    try clear hx1
                    try clear qi1
                    try clear c2
                    try clear p2
                    try clear c3
                    try clear c5
                    try clear c6
                    try clear p6
                    try clear c7
                    try clear c10
                    try clear c11
                    try clear p19
                    try clear q19
                    try clear hx19
                    try clear qi19
                    try clear c23
                    try clear c23b0
                    try clear c23b1
                    try clear c24
                    try clear c25
                    try clear c25b0
                    try clear c25b1
                    try clear c27
                    try clear c27b0
                    try clear c27b1
                    try clear c28
                    try clear c28b0
                    try clear c28b1
                    try clear c29
                    try clear c29b0
                    try clear c29b1
                    try clear c30
                    try clear c30b0
                    try clear c30b1
                    try clear c31
                    try clear c31b0
                    try clear c31b1
                    try clear hx197_0
                    try clear p197
                    try clear p2
                    try clear p6
                    try clear q197
                    obtain ⟨kq, x97_25, rfl, HA, HJ25, HO_6, HO_8, HO_10, HB⟩ := hcut
                    cases kq with
                    | zero => exact absurd HA.out (by simp [drydocklaw04_SchemaLists.j2])
                    | succ kj25 =>
                      have H := HA.out
                      clear HA
                      simp only [drydocklaw04_SchemaLists.j2] at H
                      by_cases c32 : x97_25 = true
                      · subst c32
                        have H1 : (none) = some r := by rw [if_pos rfl] at H; exact H
                        clear H
                        have H := H1
                        clear H1
                        exact absurd H (by simp)
                      · replace c32 := Bool.eq_false_iff.mpr c32
                        subst c32
                        have H1 : (if 1 ≤ (t179.length : Int) then (if (t179.length : Int) ≤ (t193.length : Int) then ((drydockref01_Bytes.f kj25 ((t193.take ((t179.length : Int) : Int).toNat).drop 1) (t179.drop 1)).bind fun t206 => (if t206 = true then (if 0 ≤ (t179.length : Int) then (if 1 ≤ (t183.length : Int) then ((drydockref01_Bytes.f kj25 (t193.drop ((t179.length : Int) : Int).toNat) (t183.drop 1)).bind fun t215 => (some t215)) else (none)) else (none)) else (none))) else (none)) else (none)) = some r := by rw [if_neg (show ¬ (false = true) by decide)] at H; exact H
                        clear H
                        have H := H1
                        clear H1
                        by_cases c33 : 1 ≤ (t179.length : Int)
                        · rw [if_pos c33] at H
                          have c33b0 := eq_true c33
                          have c33b1 : decide (1 ≤ (t179.length : Int)) = true := decide_eq_true c33
                          clear c33
                          by_cases c34 : (t179.length : Int) ≤ (t193.length : Int)
                          · rw [if_pos c34] at H
                            have c34b0 := eq_true c34
                            have c34b1 : decide ((t179.length : Int) ≤ (t193.length : Int)) = true := decide_eq_true c34
                            clear c34
                            obtain ⟨y198, hy198⟩ : ∃ y_ : List Int, y_ = ((t193.take ((t179.length : Int) : Int).toNat).drop 1) := ⟨_, rfl⟩
                            replace H : ((drydockref01_Bytes.f kj25 y198 (t179.drop 1)).bind fun t206 => (if t206 = true then (if 0 ≤ (t179.length : Int) then (if 1 ≤ (t183.length : Int) then ((drydockref01_Bytes.f kj25 (t193.drop ((t179.length : Int) : Int).toNat) (t183.drop 1)).bind fun t215 => (some t215)) else (none)) else (none)) else (none))) = some r := by first | (rw [hy198]; with_reducible exact H) | (have H2_ := (Option.bind_some _ _).symm.trans H; rw [hy198]; with_reducible exact H2_) | (have H2_ := (Option.bind_some _ _).symm.trans H; with_reducible exact H2_) | with_reducible exact H | (rw [hy198]; exact H) | exact H
                            have Ny198 := Aside0.mk hy198
                            clear hy198
                            have c35b0 := eq_true (of_decide_eq_true (by first | (with_reducible assumption) | assumption) : 1 ≤ (t179.length : Int))
                            obtain ⟨y202, hy202⟩ : ∃ y_ : List Int, y_ = (t179.drop 1) := ⟨_, rfl⟩
                            replace H : ((drydockref01_Bytes.f kj25 y198 y202).bind fun t206 => (if t206 = true then (if 0 ≤ (t179.length : Int) then (if 1 ≤ (t183.length : Int) then ((drydockref01_Bytes.f kj25 (t193.drop ((t179.length : Int) : Int).toNat) (t183.drop 1)).bind fun t215 => (some t215)) else (none)) else (none)) else (none))) = some r := by first | (rw [hy202]; with_reducible exact H) | (have H2_ := (Option.bind_some _ _).symm.trans H; rw [hy202]; with_reducible exact H2_) | (have H2_ := (Option.bind_some _ _).symm.trans H; with_reducible exact H2_) | with_reducible exact H | (rw [hy202]; exact H) | exact H
                            have Ny202 := Aside0.mk hy202
                            clear hy202
                            replace H := Option.bind_eq_some_iff.mp H
                            obtain ⟨t206, A360, H⟩ := H
                            replace H : (if t206 = true then (if 0 ≤ (t179.length : Int) then (if 1 ≤ (t183.length : Int) then ((drydockref01_Bytes.f kj25 (t193.drop ((t179.length : Int) : Int).toNat) (t183.drop 1)).bind fun t215 => (some t215)) else (none)) else (none)) else (none)) = some r := H
                            have A36 := Aside0.mk A360
                            clear A360
                            by_cases c37 : t206 = true
                            · subst c37
                              have H1 : (if 0 ≤ (t179.length : Int) then (if 1 ≤ (t183.length : Int) then ((drydockref01_Bytes.f kj25 (t193.drop ((t179.length : Int) : Int).toNat) (t183.drop 1)).bind fun t215 => (some t215)) else (none)) else (none)) = some r := by rw [if_pos rfl] at H; exact H
                              clear H
                              have H := H1
                              clear H1
                              by_cases c38 : 0 ≤ (t179.length : Int)
                              · rw [if_pos c38] at H
                                have c38b0 := eq_true c38
                                have c38b1 : decide (0 ≤ (t179.length : Int)) = true := decide_eq_true c38
                                clear c38
                                have c39b0 := eq_true (of_decide_eq_true (by first | (with_reducible assumption) | assumption) : (t179.length : Int) ≤ (t193.length : Int))
                                obtain ⟨y207, hy207⟩ : ∃ y_ : List Int, y_ = (t193.drop ((t179.length : Int) : Int).toNat) := ⟨_, rfl⟩
                                replace H : (if 1 ≤ (t183.length : Int) then ((drydockref01_Bytes.f kj25 y207 (t183.drop 1)).bind fun t215 => (some t215)) else (none)) = some r := by first | (rw [hy207]; with_reducible exact H) | (have H2_ := (Option.bind_some _ _).symm.trans H; rw [hy207]; with_reducible exact H2_) | (have H2_ := (Option.bind_some _ _).symm.trans H; with_reducible exact H2_) | with_reducible exact H | (rw [hy207]; exact H) | exact H
                                have Ny207 := Aside0.mk hy207
                                clear hy207
                                by_cases c40 : 1 ≤ (t183.length : Int)
                                · rw [if_pos c40] at H
                                  have c40b0 := eq_true c40
                                  have c40b1 : decide (1 ≤ (t183.length : Int)) = true := decide_eq_true c40
                                  clear c40
                                  obtain ⟨y211, hy211⟩ : ∃ y_ : List Int, y_ = (t183.drop 1) := ⟨_, rfl⟩
                                  replace H : ((drydockref01_Bytes.f kj25 y207 y211).bind fun t215 => (some t215)) = some r := by first | (rw [hy211]; with_reducible exact H) | (have H2_ := (Option.bind_some _ _).symm.trans H; rw [hy211]; with_reducible exact H2_) | (have H2_ := (Option.bind_some _ _).symm.trans H; with_reducible exact H2_) | with_reducible exact H | (rw [hy211]; exact H) | exact H
                                  have Ny211 := Aside0.mk hy211
                                  clear hy211
                                  replace H := Option.bind_eq_some_iff.mp H
                                  obtain ⟨t215, A410, H⟩ := H
                                  replace H : (some t215) = some r := H
                                  have A41 := Aside0.mk A410
                                  clear A410
                                  obtain rfl := Option.some.inj H
                                  have q42 : ((t179.length : Int) : Int) ≤ ((t193.length : Int) : Int) := of_decide_eq_true (by first | (with_reducible assumption) | assumption)
                                  obtain ⟨i042, hi042, _, hsz42, _⟩ := info_parts info5
                                  have hroom42 : t193.length ≤ co22 := (Kd.R_reads' HO_10.out).2.1
                                  have hC42 : Kd.C (Kd.int .u8) _ Ao22 t193.length t193 := (Kd.R_reads' HO_10.out).2.2
                                  have ql42 : (1 : Int) ≤ ((t179.length : Int) : Int) := of_decide_eq_true (by first | (with_reducible assumption) | assumption)
                                  have hcut42 := cut_mid (P := Try.prog) 23 5 .i64 .i64 Try.underlying23 hi042 1 hsz42 Ao22 t193.length co22 1 (t179.length : Int) (by omega) ql42 q42 hroom42
                                  have hr42 := Kd.C_mid (lo := (1 : Int).toNat) (hi := ((t179.length : Int) : Int).toNat) (c := co22) hC42 (by omega) (by omega) hroom42
                                  obtain ⟨A42, hA42⟩ : ∃ A1, A1 = (if co22 = (1 : Int).toNat then Ao22 else (Ao22 : Option Addr).map (·.add ((1 : Int).toNat * 1))) := ⟨_, rfl⟩
                                  obtain ⟨c42, hc42⟩ : ∃ c1, c1 = co22 - (1 : Int).toNat := ⟨_, rfl⟩
                                  have hy42 : y198.length = ((t179.length : Int) : Int).toNat - (1 : Int).toNat := (by rw [Ny198.out, List.length_drop, List.length_take] <;> omega)
                                  rw [show ((t193).take ((t179.length : Int) : Int).toNat).drop (1 : Int).toNat = y198 from Ny198.out.symm] at hr42
                                  replace hr42 : Kd.C (Kd.int .u8) _ A42 y198.length y198 := (by rw [hA42]; exact hr42)
                                  rw [← hy42, ← hA42, ← hc42] at hcut42
                                  have HR201 := Aside0.mk hr42
                                  have HC201 := Aside0.mk (show y198.length ≤ c42 from by rw [hy42, hc42]; exact Nat.sub_le_sub_right (Nat.le_trans (by omega) hroom42) _)
                                  clear hr42 hC42 hroom42 hi042 hsz42 hc42
                                  have KY42 := Aside0.mk hy42
                                  have KA42 := Aside0.mk hA42
                                  clear hy42 hA42
                                  have KL42 := Aside0.mk (show ((t179.length : Int) : Int).toNat ≤ t193.length from by omega)
                                  have KM42 := Aside0.mk (show 1 ≤ ((t179.length : Int) : Int).toNat from by omega)
                                  replace q42 := eq_true q42
                                  have q43 : (1 : Int) ≤ ((t179.length : Int) : Int) := of_decide_eq_true (by first | (with_reducible assumption) | assumption)
                                  obtain ⟨i043, hi043, _, hsz43, _⟩ := info_parts info5
                                  have hroom43 : t179.length ≤ co15 := (Kd.R_reads' HO_6.out).2.1
                                  have hC43 : Kd.C (Kd.int .u8) _ Ao15 t179.length t179 := (Kd.R_reads' HO_6.out).2.2
                                  have hcut43 := cut_from (P := Try.prog) 23 5 .i64 Try.underlying23 hi043 1 hsz43 Ao15 t179.length co15 1 (by omega) q43
                                  have hr43 := Kd.C_drop (m := (1 : Int).toNat) (c := co15) hC43 (by omega) hroom43
                                  obtain ⟨A43, hA43⟩ : ∃ A1, A1 = (if co15 = (1 : Int).toNat then Ao15 else (Ao15 : Option Addr).map (·.add ((1 : Int).toNat * 1))) := ⟨_, rfl⟩
                                  obtain ⟨c43, hc43⟩ : ∃ c1, c1 = co15 - (1 : Int).toNat := ⟨_, rfl⟩
                                  have hy43 : y202.length = t179.length - (1 : Int).toNat := (by rw [Ny202.out, List.length_drop] <;> omega)
                                  rw [show (t179).drop (1 : Int).toNat = y202 from Ny202.out.symm] at hr43
                                  replace hr43 : Kd.C (Kd.int .u8) _ A43 y202.length y202 := (by rw [hA43]; exact hr43)
                                  rw [← hy43, ← hA43, ← hc43] at hcut43
                                  have HR205 := Aside0.mk hr43
                                  have HC205 := Aside0.mk (show y202.length ≤ c43 from by rw [hy43, hc43]; exact Nat.sub_le_sub_right hroom43 _)
                                  clear hr43 hC43 hroom43 hi043 hsz43 hc43
                                  have KY43 := Aside0.mk hy43
                                  have KA43 := Aside0.mk hA43
                                  clear hy43 hA43
                                  have KL43 := Aside0.mk (show 1 ≤ t179.length from by omega)
                                  replace q43 := eq_true q43
                                  go_wp2_with (first | (go_at_call 13; (with_reducible refine (drydockref01_Bytes.calls kj25 _ _ y198 _ _ y202 true _ ?side1 ?side2 ?side3 ?side4 A36.out).mono ?_); (case side1 => repeat (first | exact (by repeat (first | (with_reducible exact HR201.out) | (with_reducible refine Kd.C_alloc ?_ _) | (with_reducible refine Kd.C_drewN ?_ _) | (with_reducible refine Kd.C_drew ?_) | exact HR201.out)) | (with_reducible refine Kd.C_alloc ?_ _) | (with_reducible refine Kd.C_drewN ?_ _) | (with_reducible refine Kd.C_drew ?_))); (case side2 => exact HC201.out); (case side3 => repeat (first | exact (by repeat (first | (with_reducible exact HR205.out) | (with_reducible refine Kd.C_alloc ?_ _) | (with_reducible refine Kd.C_drewN ?_ _) | (with_reducible refine Kd.C_drew ?_) | exact HR205.out)) | (with_reducible refine Kd.C_alloc ?_ _) | (with_reducible refine Kd.C_drewN ?_ _) | (with_reducible refine Kd.C_drew ?_))); (case side4 => exact HC205.out); rintro e w' ⟨rfl, ⟨nd, rfl⟩⟩; (try first | exact ⟨rfl, _, World.drewN_drewN _ _ _⟩ | exact ⟨rfl, _, Eq.trans (World.drewN_drewN _ _ _) (congrArg (World.drewN _) (Nat.add_assoc _ _ _))⟩); have q44 : ((t179.length : Int) : Int) ≤ ((t193.length : Int) : Int) := of_decide_eq_true (by first | (with_reducible assumption) | assumption); obtain ⟨i044, hi044, _, hsz44, _⟩ := info_parts info5; have hroom44 : t193.length ≤ co22 := (Kd.R_reads' HO_10.out).2.1; have hC44 : Kd.C (Kd.int .u8) _ Ao22 t193.length t193 := (Kd.R_reads' HO_10.out).2.2; have q044 : (0 : Int) ≤ ((t179.length : Int) : Int) := of_decide_eq_true (by first | (with_reducible assumption) | assumption); have hcut44 := cut_from (P := Try.prog) 23 5 .i64 Try.underlying23 hi044 1 hsz44 Ao22 t193.length co22 (t179.length : Int) q044 q44; have hr44 := Kd.C_drop (m := ((t179.length : Int) : Int).toNat) (c := co22) hC44 (by omega) hroom44; obtain ⟨A44, hA44⟩ : ∃ A1, A1 = (if co22 = ((t179.length : Int) : Int).toNat then Ao22 else (Ao22 : Option Addr).map (·.add (((t179.length : Int) : Int).toNat * 1))) := ⟨_, rfl⟩; obtain ⟨c44, hc44⟩ : ∃ c1, c1 = co22 - ((t179.length : Int) : Int).toNat := ⟨_, rfl⟩; have hy44 : y207.length = t193.length - ((t179.length : Int) : Int).toNat := (by rw [Ny207.out, List.length_drop] <;> omega); rw [show (t193).drop ((t179.length : Int) : Int).toNat = y207 from Ny207.out.symm] at hr44; replace hr44 : Kd.C (Kd.int .u8) _ A44 y207.length y207 := (by rw [hA44]; exact hr44); rw [← hy44, ← hA44, ← hc44] at hcut44; have HR210 := Aside0.mk hr44; have HC210 := Aside0.mk (show y207.length ≤ c44 from by rw [hy44, hc44]; exact Nat.sub_le_sub_right hroom44 _); clear hr44 hC44 hroom44 hi044 hsz44 hc44; have KY44 := Aside0.mk hy44; have KA44 := Aside0.mk hA44; clear hy44 hA44; have KL44 := Aside0.mk (show ((t179.length : Int) : Int).toNat ≤ t193.length from by omega); replace q44 := eq_true q44; have q45 : (1 : Int) ≤ ((t183.length : Int) : Int) := of_decide_eq_true (by first | (with_reducible assumption) | assumption); obtain ⟨i045, hi045, _, hsz45, _⟩ := info_parts info5; have hroom45 : t183.length ≤ co17 := (Kd.R_reads' HO_8.out).2.1; have hC45 : Kd.C (Kd.int .u8) _ Ao17 t183.length t183 := (Kd.R_reads' HO_8.out).2.2; have hcut45 := cut_from (P := Try.prog) 23 5 .i64 Try.underlying23 hi045 1 hsz45 Ao17 t183.length co17 1 (by omega) q45; have hr45 := Kd.C_drop (m := (1 : Int).toNat) (c := co17) hC45 (by omega) hroom45; obtain ⟨A45, hA45⟩ : ∃ A1, A1 = (if co17 = (1 : Int).toNat then Ao17 else (Ao17 : Option Addr).map (·.add ((1 : Int).toNat * 1))) := ⟨_, rfl⟩; obtain ⟨c45, hc45⟩ : ∃ c1, c1 = co17 - (1 : Int).toNat := ⟨_, rfl⟩; have hy45 : y211.length = t183.length - (1 : Int).toNat := (by rw [Ny211.out, List.length_drop] <;> omega); rw [show (t183).drop (1 : Int).toNat = y211 from Ny211.out.symm] at hr45; replace hr45 : Kd.C (Kd.int .u8) _ A45 y211.length y211 := (by rw [hA45]; exact hr45); rw [← hy45, ← hA45, ← hc45] at hcut45; have HR214 := Aside0.mk hr45; have HC214 := Aside0.mk (show y211.length ≤ c45 from by rw [hy45, hc45]; exact Nat.sub_le_sub_right hroom45 _); clear hr45 hC45 hroom45 hi045 hsz45 hc45; have KY45 := Aside0.mk hy45; have KA45 := Aside0.mk hA45; clear hy45 hA45; have KL45 := Aside0.mk (show 1 ≤ t183.length from by omega); replace q45 := eq_true q45) | (go_at_call 13; (with_reducible refine (drydockref01_Bytes.calls kj25 _ _ y207 _ _ y211 t215 _ ?side1 ?side2 ?side3 ?side4 A41.out).mono ?_); (case side1 => repeat (first | exact (by repeat (first | (with_reducible exact HR210.out) | (with_reducible refine Kd.C_alloc ?_ _) | (with_reducible refine Kd.C_drewN ?_ _) | (with_reducible refine Kd.C_drew ?_) | exact HR210.out)) | (with_reducible refine Kd.C_alloc ?_ _) | (with_reducible refine Kd.C_drewN ?_ _) | (with_reducible refine Kd.C_drew ?_))); (case side2 => exact HC210.out); (case side3 => repeat (first | exact (by repeat (first | (with_reducible exact HR214.out) | (with_reducible refine Kd.C_alloc ?_ _) | (with_reducible refine Kd.C_drewN ?_ _) | (with_reducible refine Kd.C_drew ?_) | exact HR214.out)) | (with_reducible refine Kd.C_alloc ?_ _) | (with_reducible refine Kd.C_drewN ?_ _) | (with_reducible refine Kd.C_drew ?_))); (case side4 => exact HC214.out); rintro e w' ⟨rfl, ⟨nd, rfl⟩⟩; (try first | exact ⟨rfl, _, World.drewN_drewN _ _ _⟩ | exact ⟨rfl, _, Eq.trans (World.drewN_drewN _ _ _) (congrArg (World.drewN _) (Nat.add_assoc _ _ _))⟩)))
                                  repeat (go_quiet (first | (go_at_call 13; (with_reducible refine (drydockref01_Bytes.calls kj25 _ _ y198 _ _ y202 true _ ?side1 ?side2 ?side3 ?side4 A36.out).mono ?_); (case side1 => repeat (first | exact (by repeat (first | (with_reducible exact HR201.out) | (with_reducible refine Kd.C_alloc ?_ _) | (with_reducible refine Kd.C_drewN ?_ _) | (with_reducible refine Kd.C_drew ?_) | exact HR201.out)) | (with_reducible refine Kd.C_alloc ?_ _) | (with_reducible refine Kd.C_drewN ?_ _) | (with_reducible refine Kd.C_drew ?_))); (case side2 => exact HC201.out); (case side3 => repeat (first | exact (by repeat (first | (with_reducible exact HR205.out) | (with_reducible refine Kd.C_alloc ?_ _) | (with_reducible refine Kd.C_drewN ?_ _) | (with_reducible refine Kd.C_drew ?_) | exact HR205.out)) | (with_reducible refine Kd.C_alloc ?_ _) | (with_reducible refine Kd.C_drewN ?_ _) | (with_reducible refine Kd.C_drew ?_))); (case side4 => exact HC205.out); rintro e w' ⟨rfl, ⟨nd, rfl⟩⟩; (try first | exact ⟨rfl, _, World.drewN_drewN _ _ _⟩ | exact ⟨rfl, _, Eq.trans (World.drewN_drewN _ _ _) (congrArg (World.drewN _) (Nat.add_assoc _ _ _))⟩); have q44 : ((t179.length : Int) : Int) ≤ ((t193.length : Int) : Int) := of_decide_eq_true (by first | (with_reducible assumption) | assumption); obtain ⟨i044, hi044, _, hsz44, _⟩ := info_parts info5; have hroom44 : t193.length ≤ co22 := (Kd.R_reads' HO_10.out).2.1; have hC44 : Kd.C (Kd.int .u8) _ Ao22 t193.length t193 := (Kd.R_reads' HO_10.out).2.2; have q044 : (0 : Int) ≤ ((t179.length : Int) : Int) := of_decide_eq_true (by first | (with_reducible assumption) | assumption); have hcut44 := cut_from (P := Try.prog) 23 5 .i64 Try.underlying23 hi044 1 hsz44 Ao22 t193.length co22 (t179.length : Int) q044 q44; have hr44 := Kd.C_drop (m := ((t179.length : Int) : Int).toNat) (c := co22) hC44 (by omega) hroom44; obtain ⟨A44, hA44⟩ : ∃ A1, A1 = (if co22 = ((t179.length : Int) : Int).toNat then Ao22 else (Ao22 : Option Addr).map (·.add (((t179.length : Int) : Int).toNat * 1))) := ⟨_, rfl⟩; obtain ⟨c44, hc44⟩ : ∃ c1, c1 = co22 - ((t179.length : Int) : Int).toNat := ⟨_, rfl⟩; have hy44 : y207.length = t193.length - ((t179.length : Int) : Int).toNat := (by rw [Ny207.out, List.length_drop] <;> omega); rw [show (t193).drop ((t179.length : Int) : Int).toNat = y207 from Ny207.out.symm] at hr44; replace hr44 : Kd.C (Kd.int .u8) _ A44 y207.length y207 := (by rw [hA44]; exact hr44); rw [← hy44, ← hA44, ← hc44] at hcut44; have HR210 := Aside0.mk hr44; have HC210 := Aside0.mk (show y207.length ≤ c44 from by rw [hy44, hc44]; exact Nat.sub_le_sub_right hroom44 _); clear hr44 hC44 hroom44 hi044 hsz44 hc44; have KY44 := Aside0.mk hy44; have KA44 := Aside0.mk hA44; clear hy44 hA44; have KL44 := Aside0.mk (show ((t179.length : Int) : Int).toNat ≤ t193.length from by omega); replace q44 := eq_true q44; have q45 : (1 : Int) ≤ ((t183.length : Int) : Int) := of_decide_eq_true (by first | (with_reducible assumption) | assumption); obtain ⟨i045, hi045, _, hsz45, _⟩ := info_parts info5; have hroom45 : t183.length ≤ co17 := (Kd.R_reads' HO_8.out).2.1; have hC45 : Kd.C (Kd.int .u8) _ Ao17 t183.length t183 := (Kd.R_reads' HO_8.out).2.2; have hcut45 := cut_from (P := Try.prog) 23 5 .i64 Try.underlying23 hi045 1 hsz45 Ao17 t183.length co17 1 (by omega) q45; have hr45 := Kd.C_drop (m := (1 : Int).toNat) (c := co17) hC45 (by omega) hroom45; obtain ⟨A45, hA45⟩ : ∃ A1, A1 = (if co17 = (1 : Int).toNat then Ao17 else (Ao17 : Option Addr).map (·.add ((1 : Int).toNat * 1))) := ⟨_, rfl⟩; obtain ⟨c45, hc45⟩ : ∃ c1, c1 = co17 - (1 : Int).toNat := ⟨_, rfl⟩; have hy45 : y211.length = t183.length - (1 : Int).toNat := (by rw [Ny211.out, List.length_drop] <;> omega); rw [show (t183).drop (1 : Int).toNat = y211 from Ny211.out.symm] at hr45; replace hr45 : Kd.C (Kd.int .u8) _ A45 y211.length y211 := (by rw [hA45]; exact hr45); rw [← hy45, ← hA45, ← hc45] at hcut45; have HR214 := Aside0.mk hr45; have HC214 := Aside0.mk (show y211.length ≤ c45 from by rw [hy45, hc45]; exact Nat.sub_le_sub_right hroom45 _); clear hr45 hC45 hroom45 hi045 hsz45 hc45; have KY45 := Aside0.mk hy45; have KA45 := Aside0.mk hA45; clear hy45 hA45; have KL45 := Aside0.mk (show 1 ≤ t183.length from by omega); replace q45 := eq_true q45) | (go_at_call 13; (with_reducible refine (drydockref01_Bytes.calls kj25 _ _ y207 _ _ y211 t215 _ ?side1 ?side2 ?side3 ?side4 A41.out).mono ?_); (case side1 => repeat (first | exact (by repeat (first | (with_reducible exact HR210.out) | (with_reducible refine Kd.C_alloc ?_ _) | (with_reducible refine Kd.C_drewN ?_ _) | (with_reducible refine Kd.C_drew ?_) | exact HR210.out)) | (with_reducible refine Kd.C_alloc ?_ _) | (with_reducible refine Kd.C_drewN ?_ _) | (with_reducible refine Kd.C_drew ?_))); (case side2 => exact HC210.out); (case side3 => repeat (first | exact (by repeat (first | (with_reducible exact HR214.out) | (with_reducible refine Kd.C_alloc ?_ _) | (with_reducible refine Kd.C_drewN ?_ _) | (with_reducible refine Kd.C_drew ?_) | exact HR214.out)) | (with_reducible refine Kd.C_alloc ?_ _) | (with_reducible refine Kd.C_drewN ?_ _) | (with_reducible refine Kd.C_drew ?_))); (case side4 => exact HC214.out); rintro e w' ⟨rfl, ⟨nd, rfl⟩⟩; (try first | exact ⟨rfl, _, World.drewN_drewN _ _ _⟩ | exact ⟨rfl, _, Eq.trans (World.drewN_drewN _ _ _) (congrArg (World.drewN _) (Nat.add_assoc _ _ _))⟩))); try go_wp2_with (first | (go_at_call 13; (with_reducible refine (drydockref01_Bytes.calls kj25 _ _ y198 _ _ y202 true _ ?side1 ?side2 ?side3 ?side4 A36.out).mono ?_); (case side1 => repeat (first | exact (by repeat (first | (with_reducible exact HR201.out) | (with_reducible refine Kd.C_alloc ?_ _) | (with_reducible refine Kd.C_drewN ?_ _) | (with_reducible refine Kd.C_drew ?_) | exact HR201.out)) | (with_reducible refine Kd.C_alloc ?_ _) | (with_reducible refine Kd.C_drewN ?_ _) | (with_reducible refine Kd.C_drew ?_))); (case side2 => exact HC201.out); (case side3 => repeat (first | exact (by repeat (first | (with_reducible exact HR205.out) | (with_reducible refine Kd.C_alloc ?_ _) | (with_reducible refine Kd.C_drewN ?_ _) | (with_reducible refine Kd.C_drew ?_) | exact HR205.out)) | (with_reducible refine Kd.C_alloc ?_ _) | (with_reducible refine Kd.C_drewN ?_ _) | (with_reducible refine Kd.C_drew ?_))); (case side4 => exact HC205.out); rintro e w' ⟨rfl, ⟨nd, rfl⟩⟩; (try first | exact ⟨rfl, _, World.drewN_drewN _ _ _⟩ | exact ⟨rfl, _, Eq.trans (World.drewN_drewN _ _ _) (congrArg (World.drewN _) (Nat.add_assoc _ _ _))⟩); have q44 : ((t179.length : Int) : Int) ≤ ((t193.length : Int) : Int) := of_decide_eq_true (by first | (with_reducible assumption) | assumption); obtain ⟨i044, hi044, _, hsz44, _⟩ := info_parts info5; have hroom44 : t193.length ≤ co22 := (Kd.R_reads' HO_10.out).2.1; have hC44 : Kd.C (Kd.int .u8) _ Ao22 t193.length t193 := (Kd.R_reads' HO_10.out).2.2; have q044 : (0 : Int) ≤ ((t179.length : Int) : Int) := of_decide_eq_true (by first | (with_reducible assumption) | assumption); have hcut44 := cut_from (P := Try.prog) 23 5 .i64 Try.underlying23 hi044 1 hsz44 Ao22 t193.length co22 (t179.length : Int) q044 q44; have hr44 := Kd.C_drop (m := ((t179.length : Int) : Int).toNat) (c := co22) hC44 (by omega) hroom44; obtain ⟨A44, hA44⟩ : ∃ A1, A1 = (if co22 = ((t179.length : Int) : Int).toNat then Ao22 else (Ao22 : Option Addr).map (·.add (((t179.length : Int) : Int).toNat * 1))) := ⟨_, rfl⟩; obtain ⟨c44, hc44⟩ : ∃ c1, c1 = co22 - ((t179.length : Int) : Int).toNat := ⟨_, rfl⟩; have hy44 : y207.length = t193.length - ((t179.length : Int) : Int).toNat := (by rw [Ny207.out, List.length_drop] <;> omega); rw [show (t193).drop ((t179.length : Int) : Int).toNat = y207 from Ny207.out.symm] at hr44; replace hr44 : Kd.C (Kd.int .u8) _ A44 y207.length y207 := (by rw [hA44]; exact hr44); rw [← hy44, ← hA44, ← hc44] at hcut44; have HR210 := Aside0.mk hr44; have HC210 := Aside0.mk (show y207.length ≤ c44 from by rw [hy44, hc44]; exact Nat.sub_le_sub_right hroom44 _); clear hr44 hC44 hroom44 hi044 hsz44 hc44; have KY44 := Aside0.mk hy44; have KA44 := Aside0.mk hA44; clear hy44 hA44; have KL44 := Aside0.mk (show ((t179.length : Int) : Int).toNat ≤ t193.length from by omega); replace q44 := eq_true q44; have q45 : (1 : Int) ≤ ((t183.length : Int) : Int) := of_decide_eq_true (by first | (with_reducible assumption) | assumption); obtain ⟨i045, hi045, _, hsz45, _⟩ := info_parts info5; have hroom45 : t183.length ≤ co17 := (Kd.R_reads' HO_8.out).2.1; have hC45 : Kd.C (Kd.int .u8) _ Ao17 t183.length t183 := (Kd.R_reads' HO_8.out).2.2; have hcut45 := cut_from (P := Try.prog) 23 5 .i64 Try.underlying23 hi045 1 hsz45 Ao17 t183.length co17 1 (by omega) q45; have hr45 := Kd.C_drop (m := (1 : Int).toNat) (c := co17) hC45 (by omega) hroom45; obtain ⟨A45, hA45⟩ : ∃ A1, A1 = (if co17 = (1 : Int).toNat then Ao17 else (Ao17 : Option Addr).map (·.add ((1 : Int).toNat * 1))) := ⟨_, rfl⟩; obtain ⟨c45, hc45⟩ : ∃ c1, c1 = co17 - (1 : Int).toNat := ⟨_, rfl⟩; have hy45 : y211.length = t183.length - (1 : Int).toNat := (by rw [Ny211.out, List.length_drop] <;> omega); rw [show (t183).drop (1 : Int).toNat = y211 from Ny211.out.symm] at hr45; replace hr45 : Kd.C (Kd.int .u8) _ A45 y211.length y211 := (by rw [hA45]; exact hr45); rw [← hy45, ← hA45, ← hc45] at hcut45; have HR214 := Aside0.mk hr45; have HC214 := Aside0.mk (show y211.length ≤ c45 from by rw [hy45, hc45]; exact Nat.sub_le_sub_right hroom45 _); clear hr45 hC45 hroom45 hi045 hsz45 hc45; have KY45 := Aside0.mk hy45; have KA45 := Aside0.mk hA45; clear hy45 hA45; have KL45 := Aside0.mk (show 1 ≤ t183.length from by omega); replace q45 := eq_true q45) | (go_at_call 13; (with_reducible refine (drydockref01_Bytes.calls kj25 _ _ y207 _ _ y211 t215 _ ?side1 ?side2 ?side3 ?side4 A41.out).mono ?_); (case side1 => repeat (first | exact (by repeat (first | (with_reducible exact HR210.out) | (with_reducible refine Kd.C_alloc ?_ _) | (with_reducible refine Kd.C_drewN ?_ _) | (with_reducible refine Kd.C_drew ?_) | exact HR210.out)) | (with_reducible refine Kd.C_alloc ?_ _) | (with_reducible refine Kd.C_drewN ?_ _) | (with_reducible refine Kd.C_drew ?_))); (case side2 => exact HC210.out); (case side3 => repeat (first | exact (by repeat (first | (with_reducible exact HR214.out) | (with_reducible refine Kd.C_alloc ?_ _) | (with_reducible refine Kd.C_drewN ?_ _) | (with_reducible refine Kd.C_drew ?_) | exact HR214.out)) | (with_reducible refine Kd.C_alloc ?_ _) | (with_reducible refine Kd.C_drewN ?_ _) | (with_reducible refine Kd.C_drew ?_))); (case side4 => exact HC214.out); rintro e w' ⟨rfl, ⟨nd, rfl⟩⟩; (try first | exact ⟨rfl, _, World.drewN_drewN _ _ _⟩ | exact ⟨rfl, _, Eq.trans (World.drewN_drewN _ _ _) (congrArg (World.drewN _) (Nat.add_assoc _ _ _))⟩))))
                                  go_ret
                                  exact ⟨by first | rfl | (simp [errW_none, errW_some] <;> rfl) | (simp [*, errW_none, errW_some] <;> rfl), by repeat (first | (with_reducible first | exact HB.out | apply below_alloc | apply pw_below_drewN | apply below_drew1) | exact HB.out)⟩
                                · rw [if_neg c40] at H
                                  exact absurd H (by simp)
                              · rw [if_neg c38] at H
                                exact absurd H (by simp)
                            · replace c37 := Bool.eq_false_iff.mpr c37
                              subst c37
                              have H1 : (none) = some r := by rw [if_neg (show ¬ (false = true) by decide)] at H; exact H
                              clear H
                              have H := H1
                              clear H1
                              exact absurd H (by simp)
                          · rw [if_neg c34] at H
                            exact absurd H (by simp)
                        · rw [if_neg c33] at H
                          exact absurd H (by simp)
          · rw [if_neg c11] at H
            exact absurd H (by simp)
        · rw [if_neg c10] at H
          exact absurd H (by simp)

end Go.Proofs.Ytiafnckmlklodaa.P
