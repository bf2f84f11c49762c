-- Written by a program of this session over the kit's print of the translation. Lean checks it.
import Derived.Test.YtiafnckmlklodaaPx0
import Derived.Test.YtiafnckmlklodaaPx4
import Derived.Test.YtiafnckmlklodaaPx5
import Derived.Test.YtiafnckmlklodaaPx6
import Derived.Test.YtiafnckmlklodaaPx7
import Derived.Test.YtiafnckmlklodaaHGet
namespace Go.Proofs.Ytiafnckmlklodaa.P
open Go.RowKit Go.Proofs.YtiafnckmlklodaaW.PrintWords Go.Proofs.YtiafnckmlklodaaW.PrintLast Go.Proofs.YtiafnckmlklodaaW.PrintMore
attribute [local go_sem] max2_int min2_int max_two min_two max_three min_three max_four min_four   -- for this text's walks alone
set_option linter.unusedVariables false
set_option linter.unusedSimpArgs false

/-! ### drydocklaw04_SchemaBack: function 3 -/
mutual
def drydocklaw04_SchemaBack.j0 : Nat → List (S34) → List Int → Bool → Bool → Option (Bool)
  | 0, _, _, _, _ => none
  | k + 1, x0, x1, x5, x27 => if x27 = true then (some x5) else ((schema_Put.f k x0).bind fun bt143 => ((schema_Get.f bt143.1).bind fun bt147 => ((drydockref04_Same.f k bt147.1 x0).bind fun t151 => (if bt143.2 = 0 then (if bt147.2 = 0 then (if t151 = true then (drydocklaw04_SchemaBack.j1 k x1 false) else (drydocklaw04_SchemaBack.j1 k x1 true)) else (drydocklaw04_SchemaBack.j1 k x1 true)) else (drydocklaw04_SchemaBack.j1 k x1 (decide ((bt143.1.length : Int) > 0)))))))
def drydocklaw04_SchemaBack.j1 : Nat → List Int → Bool → Option (Bool)
  | 0, _, _ => none
  | k + 1, x1, x60 => if x60 = true then (none) else ((schema_Get.f x1).bind fun bt152 => (if bt152.2 = 0 then ((schema_Put.f k bt152.1).bind fun bt156 => (if bt156.2 = 0 then ((drydockref01_Bytes.f k bt156.1 x1).bind fun t160 => (some t160)) else (none))) else (if bt152.2 = 7 then (some ((bt152.1.length : Int) == 0)) else (none))))
end
def drydocklaw04_SchemaBack.f (k : Nat) (l0 : List (S34)) (l1 : List Int) : Option (Bool) := (drydocklaw04_awake.f k).bind fun t142 => (if t142 = true then (if (l0.length : Int) > 20 then (drydocklaw04_SchemaBack.j0 k l0 l1 t142 true) else (drydocklaw04_SchemaBack.j0 k l0 l1 t142 (decide ((l1.length : Int) > 100)))) else (drydocklaw04_SchemaBack.j0 k l0 l1 t142 true))
theorem drydocklaw04_SchemaBack.mono_l : ∀ k, (∀ y0 y1 y2 y3, LeO (drydocklaw04_SchemaBack.j0 k y0 y1 y2 y3) (drydocklaw04_SchemaBack.j0 (k + 1) y0 y1 y2 y3)) ∧ (∀ y0 y1, LeO (drydocklaw04_SchemaBack.j1 k y0 y1) (drydocklaw04_SchemaBack.j1 (k + 1) y0 y1))
  | 0 => ⟨fun _ _ _ _ r h => by simp [drydocklaw04_SchemaBack.j0] at h, fun _ _ r h => by simp [drydocklaw04_SchemaBack.j1] at h⟩
  | k + 1 => by
    obtain ⟨ih0, ih1⟩ := drydocklaw04_SchemaBack.mono_l k
    refine ⟨?_, ?_⟩
    · intro y0 y1 y2 y3
      unfold drydocklaw04_SchemaBack.j0
      repeat' first
      | (with_reducible exact ih0 _ _ _ _)
      | (with_reducible exact ih1 _ _)
      | (with_reducible exact drydocklaw04_awake.mono _)
      | (with_reducible exact drydockref01_Bytes.mono _ _ _)
      | (with_reducible exact drydockref04_Same.mono _ _ _)
      | (with_reducible exact schema_Put.mono _ _)
      | (with_reducible exact LeO.refl _)
      | (with_reducible exact LeO.none _)
      | (with_reducible refine LeO.ite ?_ ?_)
      | (with_reducible refine LeO.bind ?_ (fun _ => ?_))
      | exact ih0 _ _ _ _
      | exact ih1 _ _
      | exact drydocklaw04_awake.mono _
      | exact drydockref01_Bytes.mono _ _ _
      | exact drydockref04_Same.mono _ _ _
      | exact schema_Put.mono _ _
      | exact LeO.none _
      | refine LeO.ite ?_ ?_
      | refine LeO.bind ?_ (fun _ => ?_)
    · intro y0 y1
      unfold drydocklaw04_SchemaBack.j1
      repeat' first
      | (with_reducible exact ih0 _ _ _ _)
      | (with_reducible exact ih1 _ _)
      | (with_reducible exact drydocklaw04_awake.mono _)
      | (with_reducible exact drydockref01_Bytes.mono _ _ _)
      | (with_reducible exact drydockref04_Same.mono _ _ _)
      | (with_reducible exact schema_Put.mono _ _)
      | (with_reducible exact LeO.refl _)
      | (with_reducible exact LeO.none _)
      | (with_reducible refine LeO.ite ?_ ?_)
      | (with_reducible refine LeO.bind ?_ (fun _ => ?_))
      | exact ih0 _ _ _ _
      | exact ih1 _ _
      | exact drydocklaw04_awake.mono _
      | exact drydockref01_Bytes.mono _ _ _
      | exact drydockref04_Same.mono _ _ _
      | exact schema_Put.mono _ _
      | exact LeO.none _
      | refine LeO.ite ?_ ?_
      | refine LeO.bind ?_ (fun _ => ?_)
theorem drydocklaw04_SchemaBack.mono : ∀ a0 a1 k, LeO (drydocklaw04_SchemaBack.f k a0 a1) (drydocklaw04_SchemaBack.f (k + 1) a0 a1) := by
  intro a0 a1 k
  obtain ⟨ih0, ih1⟩ := drydocklaw04_SchemaBack.mono_l k
  unfold drydocklaw04_SchemaBack.f
  repeat' first
      | (with_reducible exact ih0 _ _ _ _)
      | (with_reducible exact ih1 _ _)
      | (with_reducible exact drydocklaw04_awake.mono _)
      | (with_reducible exact drydockref01_Bytes.mono _ _ _)
      | (with_reducible exact drydockref04_Same.mono _ _ _)
      | (with_reducible exact schema_Put.mono _ _)
      | (with_reducible exact LeO.refl _)
      | (with_reducible exact LeO.none _)
      | (with_reducible refine LeO.ite ?_ ?_)
      | (with_reducible refine LeO.bind ?_ (fun _ => ?_))
      | exact ih0 _ _ _ _
      | exact ih1 _ _
      | exact drydocklaw04_awake.mono _
      | exact drydockref01_Bytes.mono _ _ _
      | exact drydockref04_Same.mono _ _ _
      | exact schema_Put.mono _ _
      | exact LeO.none _
      | refine LeO.ite ?_ ?_
      | refine LeO.bind ?_ (fun _ => ?_)
set_option maxHeartbeats 8000000 in
set_option maxRecDepth 100000 in
theorem drydocklaw04_SchemaBack.calls (k : Nat) (A0 : Option Addr) (c0 : Nat) (l0 : List (S34)) (A1 : Option Addr) (c1 : Nat) (l1 : List Int) (r : Bool) (w : World) (hr0 : Kd.C k34 w A0 l0.length l0) (hc0 : l0.length ≤ c0) (hr1 : Kd.C (Kd.int .u8) w A1 l1.length l1) (hc1 : l1.length ≤ c1) (h : drydocklaw04_SchemaBack.f k l0 l1 = some r) :
    Calls Try.prog 3 #[.slice A0 l0.length c0, .slice A1 l1.length c1] w fun e w' => e = .returned (.bool r) ∧ Below w.heap.size w w' := by
  have HR0 := Aside0.mk hr0
  have HC0 := Aside0.mk hc0
  clear hr0 hc0
  have HR1 := Aside0.mk hr1
  have HC1 := Aside0.mk hc1
  clear hr1 hc1
  have HB := Aside0.mk (Below.refl w.heap.size w)
  have H : ((drydocklaw04_awake.f k).bind fun t142 => (if t142 = true then (if (l0.length : Int) > 20 then (drydocklaw04_SchemaBack.j0 k l0 l1 t142 true) else (drydocklaw04_SchemaBack.j0 k l0 l1 t142 (decide ((l1.length : Int) > 100)))) else (drydocklaw04_SchemaBack.j0 k l0 l1 t142 true))) = some r := h
  clear h
  replace H := Option.bind_eq_some_iff.mp H
  obtain ⟨t142, A30, H⟩ := H
  replace H : (if t142 = true then (if (l0.length : Int) > 20 then (drydocklaw04_SchemaBack.j0 k l0 l1 t142 true) else (drydocklaw04_SchemaBack.j0 k l0 l1 t142 (decide ((l1.length : Int) > 100)))) else (drydocklaw04_SchemaBack.j0 k l0 l1 t142 true)) = some r := H
  have A3 := Aside0.mk A30
  clear A30
  have HC4 := Aside0.mk H
  clear H
  go_enter Try.func3, Try.ntmps3
  go_upto_region 2 with (first | ((with_reducible refine gate_callee (f := 9) rfl ?_); refine goesL_ (some 15) rfl rfl Try.func9 (by kernel_rfl) rfl #[] rfl (by (try simp only [List.map_toArray, List.map_cons, List.map_nil]); first | done | rfl | (simp only [List.length_drop, List.length_take]; rfl)) ?_; (with_reducible refine (drydocklaw04_awake.calls k  t142 _ A3.out).mono ?_); rintro e w5 ⟨rfl, hb⟩; refine ⟨_, rfl, ?_⟩; have n0_ := Aside0.mk (below_step (by repeat (first | (with_reducible first | exact HB.out | apply below_alloc | apply pw_below_drewN | apply below_drew1) | exact HB.out)) hb); clear HB; have HB := n0_; clear n0_; (try clear hb); (try clear hb2); (try clear hk); (try clear hi)))
  (try simp only [Act.put, List.setIfInBounds_toArray, List.set_cons_zero, List.set_cons_succ])
  go_cut [27] (fun v27 wc => ∃ (kq : Nat) (x27_3 : Bool), v27 = .bool x27_3 ∧ Aside0 (drydocklaw04_SchemaBack.j0 kq l0 l1 t142 x27_3 = some r) ∧ Aside0 (kq ≤ k) ∧ Aside0 (Below w.heap.size w wc))
  case first =>
    have H := HC4.out
    clear HC4
    by_cases c6 : t142 = true
    · subst c6
      have H1 : (if (l0.length : Int) > 20 then (drydocklaw04_SchemaBack.j0 k l0 l1 true true) else (drydocklaw04_SchemaBack.j0 k l0 l1 true (decide ((l1.length : Int) > 100)))) = some r := by rw [if_pos rfl] at H; exact H
      clear H
      have H := H1
      clear H1
      by_cases c7 : (l0.length : Int) > 20
      · rw [if_pos c7] at H
        have c7b0 : decide (20 < (l0.length : Int)) = true := decide_eq_true c7
        have c7b1 : decide (20 < l0.length) = true := decide_eq_true (by omega)
        clear c7
        (first | rw [c7b0] | (simp only [i64_w, i32_w]; rw [c7b0]) | skip)
        have H' := Aside0.mk H
        clear H
        go_wp2
        go_meet
        case rel => exact ⟨_, (true), (by first | rfl | (simp; done) | (simp [*]; done)), H', ⟨by first | omega | exact Nat.le_refl _⟩, ⟨by repeat (first | (with_reducible first | exact HB.out | apply below_alloc | apply pw_below_drewN | apply below_drew1) | exact HB.out)⟩⟩
      · rw [if_neg c7] at H
        have c7b0 : decide (20 < (l0.length : Int)) = false := decide_eq_false c7
        have c7b1 : decide (20 < l0.length) = false := decide_eq_false (by omega)
        clear c7
        (first | rw [c7b0] | (simp only [i64_w, i32_w]; rw [c7b0]) | skip)
        have H' := Aside0.mk H
        clear H
        go_wp2
        go_meet
        case rel => exact ⟨_, (decide ((l1.length : Int) > 100)), (by first | rfl | (simp; done) | (simp [*]; done)), H', ⟨by first | omega | exact Nat.le_refl _⟩, ⟨by repeat (first | (with_reducible first | exact HB.out | apply below_alloc | apply pw_below_drewN | apply below_drew1) | exact HB.out)⟩⟩
    · replace c6 := Bool.eq_false_iff.mpr c6
      subst c6
      have H1 : (drydocklaw04_SchemaBack.j0 k l0 l1 false true) = some r := by rw [if_neg (show ¬ (false = true) by decide)] at H; exact H
      clear H
      have H := H1
      clear H1
      have H' := Aside0.mk H
      clear H
      go_wp2
      go_meet
      case rel => exact ⟨_, (true), (by first | rfl | (simp; done) | (simp [*]; done)), H', ⟨by first | omega | exact Nat.le_refl _⟩, ⟨by repeat (first | (with_reducible first | exact HB.out | apply below_alloc | apply pw_below_drewN | apply below_drew1) | exact HB.out)⟩⟩
  case rest =>
    clear HC4
    try clear c1
    try clear p2
    try clear c3
    try clear c6
    try clear c7
    try clear c7b0
    try clear c7b1
    obtain ⟨kq, x27_3, rfl, HA, HJ3, HB⟩ := hcut
    cases kq with
    | zero => exact absurd HA.out (by simp [drydocklaw04_SchemaBack.j0])
    | succ kj3 =>
      have H := HA.out
      clear HA
      simp only [drydocklaw04_SchemaBack.j0] at H
      by_cases c8 : x27_3 = true
      · subst c8
        have H1 : (some t142) = some r := by rw [if_pos rfl] at H; exact H
        clear H
        have H := H1
        clear H1
        obtain rfl := Option.some.inj H
        go_wp2
        go_ret
        exact ⟨by first | rfl | (simp [errW_none, errW_some] <;> rfl) | (simp [*, errW_none, errW_some] <;> rfl), by repeat (first | (with_reducible first | exact HB.out | apply below_alloc | apply pw_below_drewN | apply below_drew1) | exact HB.out)⟩
      · replace c8 := Bool.eq_false_iff.mpr c8
        subst c8
        have H1 : ((schema_Put.f kj3 l0).bind fun bt143 => ((schema_Get.f bt143.1).bind fun bt147 => ((drydockref04_Same.f kj3 bt147.1 l0).bind fun t151 => (if bt143.2 = 0 then (if bt147.2 = 0 then (if t151 = true then (drydocklaw04_SchemaBack.j1 kj3 l1 false) else (drydocklaw04_SchemaBack.j1 kj3 l1 true)) else (drydocklaw04_SchemaBack.j1 kj3 l1 true)) else (drydocklaw04_SchemaBack.j1 kj3 l1 (decide ((bt143.1.length : Int) > 0))))))) = some r := by rw [if_neg (show ¬ (false = true) by decide)] at H; exact H
        clear H
        have H := H1
        clear H1
        replace H := Option.bind_eq_some_iff.mp H
        obtain ⟨⟨t143, t144⟩, A90, H⟩ := H
        replace H : ((schema_Get.f t143).bind fun bt147 => ((drydockref04_Same.f kj3 bt147.1 l0).bind fun t151 => (if t144 = 0 then (if bt147.2 = 0 then (if t151 = true then (drydocklaw04_SchemaBack.j1 kj3 l1 false) else (drydocklaw04_SchemaBack.j1 kj3 l1 true)) else (drydocklaw04_SchemaBack.j1 kj3 l1 true)) else (drydocklaw04_SchemaBack.j1 kj3 l1 (decide ((t143.length : Int) > 0)))))) = some r := H
        have A9 := Aside0.mk A90
        clear A90
        replace H := Option.bind_eq_some_iff.mp H
        obtain ⟨⟨t147, t148⟩, A100, H⟩ := H
        replace H : ((drydockref04_Same.f kj3 t147 l0).bind fun t151 => (if t144 = 0 then (if t148 = 0 then (if t151 = true then (drydocklaw04_SchemaBack.j1 kj3 l1 false) else (drydocklaw04_SchemaBack.j1 kj3 l1 true)) else (drydocklaw04_SchemaBack.j1 kj3 l1 true)) else (drydocklaw04_SchemaBack.j1 kj3 l1 (decide ((t143.length : Int) > 0))))) = some r := H
        have A10 := Aside0.mk A100
        clear A100
        replace H := Option.bind_eq_some_iff.mp H
        obtain ⟨t151, A110, H⟩ := H
        replace H : (if t144 = 0 then (if t148 = 0 then (if t151 = true then (drydocklaw04_SchemaBack.j1 kj3 l1 false) else (drydocklaw04_SchemaBack.j1 kj3 l1 true)) else (drydocklaw04_SchemaBack.j1 kj3 l1 true)) else (drydocklaw04_SchemaBack.j1 kj3 l1 (decide ((t143.length : Int) > 0)))) = some r := H
        have A11 := Aside0.mk A110
        clear A110
        have HC12 := Aside0.mk H
        clear H
        go_upto_region 7 with (first | ((with_reducible refine gate_callee (f := 10) rfl ?_); refine goesL_ (some 31) rfl rfl Try.func10 (by kernel_rfl) rfl #[.slice A0 l0.length c0] rfl (by (try simp only [List.map_toArray, List.map_cons, List.map_nil]); first | done | rfl | (simp only [List.length_drop, List.length_take]; rfl)) ?_; (with_reducible refine (schema_Put.calls kj3 _ _ l0 t143 t144 _ ?side1 ?side2 A9.out).mono ?_); (case side1 => repeat (first | exact (Kd.C_below HR0.out HB.out) | (with_reducible refine Kd.C_alloc ?_ _) | (with_reducible refine Kd.C_drewN ?_ _) | (with_reducible refine Kd.C_drew ?_))); (case side2 => exact HC0.out); rintro e w13 ⟨v145, rfl, ho0, hb⟩; refine ⟨_, rfl, ?_⟩; have n0_ := Aside0.mk (Kd.R_lower ho0 (below_size (by repeat (first | (with_reducible first | exact HB.out | apply below_alloc | apply pw_below_drewN | apply below_drew1) | exact HB.out)))); have n1_ := Aside0.mk (below_step (by repeat (first | (with_reducible first | exact HB.out | apply below_alloc | apply pw_below_drewN | apply below_drew1) | exact HB.out)) hb); clear HB; have HO146 := n0_; have HB := n1_; clear n0_ n1_; (try clear hb); (try clear hb2); (try clear hk); (try clear hi); (try clear ho0); obtain ⟨Ao14, co14, eo14⟩ := Kd.R_slice HO146.out; subst eo14) | ((with_reducible refine gate_callee (f := 11) rfl ?_); refine goesL_ (some 36) rfl rfl Try.func11 (by kernel_rfl) rfl #[.slice Ao14 t143.length co14] rfl (by (try simp only [List.map_toArray, List.map_cons, List.map_nil]); first | done | rfl | (simp only [List.length_drop, List.length_take]; rfl)) ?_; (with_reducible refine (schema_Get.calls _ _ t143 t147 t148 _ ?side1 ?side2 A10.out).mono ?_); (case side1 => repeat (first | exact (Kd.R_reads' HO146.out).2.2 | (with_reducible refine Kd.C_alloc ?_ _) | (with_reducible refine Kd.C_drewN ?_ _) | (with_reducible refine Kd.C_drew ?_))); (case side2 => exact (Kd.R_reads' HO146.out).2.1); rintro e w15 ⟨v149, rfl, ho0, hb⟩; refine ⟨_, rfl, ?_⟩; have n0_ := Aside0.mk (Kd.R_below (by (with_reducible repeat (first | apply Kd.R_alloc | apply Kd.R_drewN | apply Kd.R_drew)); exact HO146.out) hb); have n1_ := Aside0.mk (Kd.R_lower ho0 (below_size (by repeat (first | (with_reducible first | exact HB.out | apply below_alloc | apply pw_below_drewN | apply below_drew1) | exact HB.out)))); have n2_ := Aside0.mk (below_step (by repeat (first | (with_reducible first | exact HB.out | apply below_alloc | apply pw_below_drewN | apply below_drew1) | exact HB.out)) hb); clear HO146; clear HB; have HO146 := n0_; have HO150 := n1_; have HB := n2_; clear n0_ n1_ n2_; (try clear hb); (try clear hb2); (try clear hk); (try clear hi); (try clear ho0); obtain ⟨Ao16, co16, eo16⟩ := Kd.R_slice HO150.out; subst eo16) | ((with_reducible refine gate_callee (f := 12) rfl ?_); refine goesL_ (some 41) rfl rfl Try.func12 (by kernel_rfl) rfl #[.slice Ao16 t147.length co16, .slice A0 l0.length c0] rfl (by (try simp only [List.map_toArray, List.map_cons, List.map_nil]); first | done | rfl | (simp only [List.length_drop, List.length_take]; rfl)) ?_; (with_reducible refine (drydockref04_Same.calls kj3 _ _ t147 _ _ l0 t151 _ ?side1 ?side2 ?side3 ?side4 A11.out).mono ?_); (case side1 => repeat (first | exact (Kd.R_reads' HO150.out).2.2 | (with_reducible refine Kd.C_alloc ?_ _) | (with_reducible refine Kd.C_drewN ?_ _) | (with_reducible refine Kd.C_drew ?_))); (case side2 => exact (Kd.R_reads' HO150.out).2.1); (case side3 => repeat (first | exact (Kd.C_below HR0.out HB.out) | (with_reducible refine Kd.C_alloc ?_ _) | (with_reducible refine Kd.C_drewN ?_ _) | (with_reducible refine Kd.C_drew ?_))); (case side4 => exact HC0.out); rintro e w' ⟨rfl, ⟨nd, rfl⟩⟩; refine ⟨_, rfl, ?_⟩))
        (try simp only [Act.put, List.setIfInBounds_toArray, List.set_cons_zero, List.set_cons_succ])
        go_cut [60] (fun v60 wc => ∃ (kq : Nat) (x60_11 : Bool), v60 = .bool x60_11 ∧ Aside0 (drydocklaw04_SchemaBack.j1 kq l1 x60_11 = some r) ∧ Aside0 (kq ≤ kj3) ∧ Aside0 (Below w.heap.size w wc))
        case first =>
          have H := HC12.out
          clear HC12
          by_cases c17 : t144 = 0
          · rw [if_pos c17] at H
            have c17b0 : (t144 == 0) = true := beq_iff_eq.mpr c17
            have c17b1 : (t144 != 0) = false := bne_eq_false_iff_eq.mpr c17
            clear c17
            (first | rw [c17b0] | (simp only [i64_w, i32_w]; rw [c17b0]) | skip)
            by_cases c18 : t148 = 0
            · rw [if_pos c18] at H
              have c18b0 : (t148 == 0) = true := beq_iff_eq.mpr c18
              have c18b1 : (t148 != 0) = false := bne_eq_false_iff_eq.mpr c18
              clear c18
              by_cases c19 : t151 = true
              · subst c19
                have H1 : (drydocklaw04_SchemaBack.j1 kj3 l1 false) = some r := by rw [if_pos rfl] at H; exact H
                clear H
                have H := H1
                clear H1
                have H' := Aside0.mk H
                clear H
                go_wp2
                go_meet
                case rel => exact ⟨_, (false), (by first | rfl | (simp; done) | (simp [*]; done)), H', ⟨by have := HJ3.out; first | omega | exact Nat.le_refl _⟩, ⟨by repeat (first | (with_reducible first | exact HB.out | apply below_alloc | apply pw_below_drewN | apply below_drew1) | exact HB.out)⟩⟩
              · replace c19 := Bool.eq_false_iff.mpr c19
                subst c19
                have H1 : (drydocklaw04_SchemaBack.j1 kj3 l1 true) = some r := by rw [if_neg (show ¬ (false = true) by decide)] at H; exact H
                clear H
                have H := H1
                clear H1
                have H' := Aside0.mk H
                clear H
                go_wp2
                go_meet
                case rel => exact ⟨_, (true), (by first | rfl | (simp; done) | (simp [*]; done)), H', ⟨by have := HJ3.out; first | omega | exact Nat.le_refl _⟩, ⟨by repeat (first | (with_reducible first | exact HB.out | apply below_alloc | apply pw_below_drewN | apply below_drew1) | exact HB.out)⟩⟩
            · rw [if_neg c18] at H
              have c18b0 : (t148 == 0) = false := beq_eq_false_iff_ne.mpr c18
              have c18b1 : (t148 != 0) = true := bne_iff_ne.mpr c18
              have H' := Aside0.mk H
              clear H
              go_wp2
              go_meet
              case rel => exact ⟨_, (true), (by first | rfl | (simp; done) | (simp [*]; done)), H', ⟨by have := HJ3.out; first | omega | exact Nat.le_refl _⟩, ⟨by repeat (first | (with_reducible first | exact HB.out | apply below_alloc | apply pw_below_drewN | apply below_drew1) | exact HB.out)⟩⟩
          · rw [if_neg c17] at H
            have c17b0 : (t144 == 0) = false := beq_eq_false_iff_ne.mpr c17
            have c17b1 : (t144 != 0) = true := bne_iff_ne.mpr c17
            (first | rw [c17b0] | (simp only [i64_w, i32_w]; rw [c17b0]) | skip)
            have H' := Aside0.mk H
            clear H
            go_wp2
            go_meet
            case rel => exact ⟨_, (decide ((t143.length : Int) > 0)), (by first | rfl | (simp; done) | (simp [*]; done)), H', ⟨by have := HJ3.out; first | omega | exact Nat.le_refl _⟩, ⟨by repeat (first | (with_reducible first | exact HB.out | apply below_alloc | apply pw_below_drewN | apply below_drew1) | exact HB.out)⟩⟩
        case rest =>
          clear HC12
          try clear c1
          try clear p2
          try clear c3
          try clear c6
          try clear c7
          try clear c7b0
          try clear c7b1
          try clear c8
          try clear c9
          try clear c10
          try clear c11
          try clear c12
          try clear c17
          try clear c17b0
          try clear c17b1
          try clear c18
          try clear c18b0
          try clear c18b1
          try clear c19
          try clear p2
          obtain ⟨kq, x60_11, rfl, HA, HJ11, HB⟩ := hcut
          cases kq with
          | zero => exact absurd HA.out (by simp [drydocklaw04_SchemaBack.j1])
          | succ kj11 =>
            have H := HA.out
            clear HA
            simp only [drydocklaw04_SchemaBack.j1] at H
            by_cases c20 : x60_11 = true
            · subst c20
              have H1 : (none) = some r := by rw [if_pos rfl] at H; exact H
              clear H
              have H := H1
              clear H1
              exact absurd H (by simp)
            · replace c20 := Bool.eq_false_iff.mpr c20
              subst c20
              have H1 : ((schema_Get.f l1).bind fun bt152 => (if bt152.2 = 0 then ((schema_Put.f kj11 bt152.1).bind fun bt156 => (if bt156.2 = 0 then ((drydockref01_Bytes.f kj11 bt156.1 l1).bind fun t160 => (some t160)) else (none))) else (if bt152.2 = 7 then (some ((bt152.1.length : Int) == 0)) else (none)))) = some r := by rw [if_neg (show ¬ (false = true) by decide)] at H; exact H
              clear H
              have H := H1
              clear H1
              replace H := Option.bind_eq_some_iff.mp H
              obtain ⟨⟨t152, t153⟩, A210, H⟩ := H
              replace H : (if t153 = 0 then ((schema_Put.f kj11 t152).bind fun bt156 => (if bt156.2 = 0 then ((drydockref01_Bytes.f kj11 bt156.1 l1).bind fun t160 => (some t160)) else (none))) else (if t153 = 7 then (some ((t152.length : Int) == 0)) else (none))) = some r := H
              have A21 := Aside0.mk A210
              clear A210
              by_cases c22 : t153 = 0
              · rw [if_pos c22] at H
                have c22b0 : (t153 == 0) = true := beq_iff_eq.mpr c22
                have c22b1 : (t153 != 0) = false := bne_eq_false_iff_eq.mpr c22
                clear c22
                replace H := Option.bind_eq_some_iff.mp H
                obtain ⟨⟨t156, t157⟩, A230, H⟩ := H
                replace H : (if t157 = 0 then ((drydockref01_Bytes.f kj11 t156 l1).bind fun t160 => (some t160)) else (none)) = some r := H
                have A23 := Aside0.mk A230
                clear A230
                by_cases c24 : t157 = 0
                · rw [if_pos c24] at H
                  have c24b0 : (t157 == 0) = true := beq_iff_eq.mpr c24
                  have c24b1 : (t157 != 0) = false := bne_eq_false_iff_eq.mpr c24
                  clear c24
                  replace H := Option.bind_eq_some_iff.mp H
                  obtain ⟨t160, A250, H⟩ := H
                  replace H : (some t160) = some r := H
                  have A25 := Aside0.mk A250
                  clear A250
                  obtain rfl := Option.some.inj H
                  go_wp2_with (first | ((with_reducible refine gate_callee (f := 11) rfl ?_); refine goesL_ (some 63) rfl rfl Try.func11 (by kernel_rfl) rfl #[.slice A1 l1.length c1] rfl (by (try simp only [List.map_toArray, List.map_cons, List.map_nil]); first | done | rfl | (simp only [List.length_drop, List.length_take]; rfl)) ?_; (with_reducible refine (schema_Get.calls _ _ l1 t152 t153 _ ?side1 ?side2 A21.out).mono ?_); (case side1 => repeat (first | exact (Kd.C_below HR1.out HB.out) | (with_reducible refine Kd.C_alloc ?_ _) | (with_reducible refine Kd.C_drewN ?_ _) | (with_reducible refine Kd.C_drew ?_))); (case side2 => exact HC1.out); rintro e w26 ⟨v154, rfl, ho0, hb⟩; refine ⟨_, rfl, ?_⟩; have n0_ := Aside0.mk (Kd.R_lower ho0 (below_size (by repeat (first | (with_reducible first | exact HB.out | apply below_alloc | apply pw_below_drewN | apply below_drew1) | exact HB.out)))); have n1_ := Aside0.mk (below_step (by repeat (first | (with_reducible first | exact HB.out | apply below_alloc | apply pw_below_drewN | apply below_drew1) | exact HB.out)) hb); clear HB; have HO155 := n0_; have HB := n1_; clear n0_ n1_; (try clear hb); (try clear hb2); (try clear hk); (try clear hi); (try clear ho0); obtain ⟨Ao27, co27, eo27⟩ := Kd.R_slice HO155.out; subst eo27) | ((with_reducible refine gate_callee (f := 10) rfl ?_); refine goesL_ (some 77) rfl rfl Try.func10 (by kernel_rfl) rfl #[.slice Ao27 t152.length co27] rfl (by (try simp only [List.map_toArray, List.map_cons, List.map_nil]); first | done | rfl | (simp only [List.length_drop, List.length_take]; rfl)) ?_; (with_reducible refine (schema_Put.calls kj11 _ _ t152 t156 t157 _ ?side1 ?side2 A23.out).mono ?_); (case side1 => repeat (first | exact (Kd.R_reads' HO155.out).2.2 | (with_reducible refine Kd.C_alloc ?_ _) | (with_reducible refine Kd.C_drewN ?_ _) | (with_reducible refine Kd.C_drew ?_))); (case side2 => exact (Kd.R_reads' HO155.out).2.1); rintro e w28 ⟨v158, rfl, ho0, hb⟩; refine ⟨_, rfl, ?_⟩; have n0_ := Aside0.mk (Kd.R_below (by (with_reducible repeat (first | apply Kd.R_alloc | apply Kd.R_drewN | apply Kd.R_drew)); exact HO155.out) hb); have n1_ := Aside0.mk (Kd.R_lower ho0 (below_size (by repeat (first | (with_reducible first | exact HB.out | apply below_alloc | apply pw_below_drewN | apply below_drew1) | exact HB.out)))); have n2_ := Aside0.mk (below_step (by repeat (first | (with_reducible first | exact HB.out | apply below_alloc | apply pw_below_drewN | apply below_drew1) | exact HB.out)) hb); clear HO155; clear HB; have HO155 := n0_; have HO159 := n1_; have HB := n2_; clear n0_ n1_ n2_; (try clear hb); (try clear hb2); (try clear hk); (try clear hi); (try clear ho0); obtain ⟨Ao29, co29, eo29⟩ := Kd.R_slice HO159.out; subst eo29) | (go_at_call 13; (with_reducible refine (drydockref01_Bytes.calls kj11 _ _ t156 _ _ l1 t160 _ ?side1 ?side2 ?side3 ?side4 A25.out).mono ?_); (case side1 => repeat (first | exact (Kd.R_reads' HO159.out).2.2 | (with_reducible refine Kd.C_alloc ?_ _) | (with_reducible refine Kd.C_drewN ?_ _) | (with_reducible refine Kd.C_drew ?_))); (case side2 => exact (Kd.R_reads' HO159.out).2.1); (case side3 => repeat (first | exact (Kd.C_below HR1.out HB.out) | (with_reducible refine Kd.C_alloc ?_ _) | (with_reducible refine Kd.C_drewN ?_ _) | (with_reducible refine Kd.C_drew ?_))); (case side4 => exact HC1.out); rintro e w' ⟨rfl, ⟨nd, rfl⟩⟩))
                  go_ret
                  exact ⟨by first | rfl | (simp [errW_none, errW_some] <;> rfl) | (simp [*, errW_none, errW_some] <;> rfl), by repeat (first | (with_reducible first | exact HB.out | apply below_alloc | apply pw_below_drewN | apply below_drew1) | exact HB.out)⟩
                · rw [if_neg c24] at H
                  exact absurd H (by simp)
              · rw [if_neg c22] at H
                have c22b0 : (t153 == 0) = false := beq_eq_false_iff_ne.mpr c22
                have c22b1 : (t153 != 0) = true := bne_iff_ne.mpr c22
                by_cases c30 : t153 = 7
                · rw [if_pos c30] at H
                  have c30b0 : (t153 == 7) = true := beq_iff_eq.mpr c30
                  have c30b1 : (t153 != 7) = false := bne_eq_false_iff_eq.mpr c30
                  clear c30
                  obtain rfl := Option.some.inj H
                  go_wp2_with (first | ((with_reducible refine gate_callee (f := 11) rfl ?_); refine goesL_ (some 63) rfl rfl Try.func11 (by kernel_rfl) rfl #[.slice A1 l1.length c1] rfl (by (try simp only [List.map_toArray, List.map_cons, List.map_nil]); first | done | rfl | (simp only [List.length_drop, List.length_take]; rfl)) ?_; (with_reducible refine (schema_Get.calls _ _ l1 t152 t153 _ ?side1 ?side2 A21.out).mono ?_); (case side1 => repeat (first | exact (Kd.C_below HR1.out HB.out) | (with_reducible refine Kd.C_alloc ?_ _) | (with_reducible refine Kd.C_drewN ?_ _) | (with_reducible refine Kd.C_drew ?_))); (case side2 => exact HC1.out); rintro e w31 ⟨v154, rfl, ho0, hb⟩; refine ⟨_, rfl, ?_⟩; have n0_ := Aside0.mk (Kd.R_lower ho0 (below_size (by repeat (first | (with_reducible first | exact HB.out | apply below_alloc | apply pw_below_drewN | apply below_drew1) | exact HB.out)))); have n1_ := Aside0.mk (below_step (by repeat (first | (with_reducible first | exact HB.out | apply below_alloc | apply pw_below_drewN | apply below_drew1) | exact HB.out)) hb); clear HB; have HO155 := n0_; have HB := n1_; clear n0_ n1_; (try clear hb); (try clear hb2); (try clear hk); (try clear hi); (try clear ho0); obtain ⟨Ao32, co32, eo32⟩ := Kd.R_slice HO155.out; subst eo32))
                  go_ret
                  exact ⟨by first | rfl | (simp [errW_none, errW_some] <;> rfl) | (simp [*, errW_none, errW_some] <;> rfl), by repeat (first | (with_reducible first | exact HB.out | apply below_alloc | apply pw_below_drewN | apply below_drew1) | exact HB.out)⟩
                · rw [if_neg c30] at H
                  exact absurd H (by simp)

end Go.Proofs.Ytiafnckmlklodaa.P
