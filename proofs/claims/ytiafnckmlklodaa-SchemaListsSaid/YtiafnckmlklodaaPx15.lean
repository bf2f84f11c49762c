-- Written by a program of this session over the kit's print of the translation. Lean checks it.
import Derived.Test.YtiafnckmlklodaaPx0
import Derived.Test.YtiafnckmlklodaaPx2
namespace Go.Proofs.Ytiafnckmlklodaa.P
open Go.RowKit Go.Proofs.YtiafnckmlklodaaW.PrintWords Go.Proofs.YtiafnckmlklodaaW.PrintLast Go.Proofs.YtiafnckmlklodaaW.PrintMore
attribute [local go_sem] max2_int min2_int max_two min_two max_three min_three max_four min_four   -- for this text's walks alone
set_option linter.unusedVariables false
set_option linter.unusedSimpArgs false

/-! ### schema_Step: function 20 -/
def schema_Step.j0 : Nat → Bool → Int → Int → Int → Int → Int → Int → Int → Int → Option (Int)
  | 0, _, _, _, _, _, _, _, _, _ => none
  | k + 1, x5, x248000, x248001, x248002, x248003, x249000, x249001, x249002, x249003 => if x5 = true then (some 2) else (if x248000 = x249000 then (if x248001 = x249001 then (if x248002 = x249002 then (if x248003 = x249003 then (some 0) else (if x249003 = (wrap64 (x248003 + 1)) then (some 1) else (some 2))) else (if x249003 = (wrap64 (x248003 + 1)) then (some 1) else (some 2))) else (if x249003 = (wrap64 (x248003 + 1)) then (some 1) else (some 2))) else (some 2))
def schema_Step.f (k : Nat) (a0_0 : Int) (a0_1 : Int) (a0_2 : Int) (a0_3 : Int) (a1_0 : Int) (a1_1 : Int) (a1_2 : Int) (a1_3 : Int) : Option (Int) := (schema_May.f k a0_0 a0_1 a0_2 a0_3).bind fun t249 => (if t249 = true then ((schema_May.f k a1_0 a1_1 a1_2 a1_3).bind fun t250 => (schema_Step.j0 k (!t250) a0_0 a0_1 a0_2 a0_3 a1_0 a1_1 a1_2 a1_3)) else (schema_Step.j0 k (!t249) a0_0 a0_1 a0_2 a0_3 a1_0 a1_1 a1_2 a1_3))
theorem schema_Step.mono_l : ∀ k, (∀ y0 y1 y2 y3 y4 y5 y6 y7 y8, LeO (schema_Step.j0 k y0 y1 y2 y3 y4 y5 y6 y7 y8) (schema_Step.j0 (k + 1) y0 y1 y2 y3 y4 y5 y6 y7 y8))
  | 0 => fun _ _ _ _ _ _ _ _ _ r h => by simp [schema_Step.j0] at h
  | k + 1 => by
    have ih0 := schema_Step.mono_l k
    · intro y0 y1 y2 y3 y4 y5 y6 y7 y8
      unfold schema_Step.j0
      repeat' first
      | (with_reducible exact ih0 _ _ _ _ _ _ _ _ _)
      | (with_reducible exact schema_May.mono _ _ _ _ _)
      | (with_reducible exact LeO.refl _)
      | (with_reducible exact LeO.none _)
      | (with_reducible refine LeO.ite ?_ ?_)
      | (with_reducible refine LeO.bind ?_ (fun _ => ?_))
      | exact ih0 _ _ _ _ _ _ _ _ _
      | exact schema_May.mono _ _ _ _ _
      | exact LeO.none _
      | refine LeO.ite ?_ ?_
      | refine LeO.bind ?_ (fun _ => ?_)
theorem schema_Step.mono : ∀ a0 a1 a2 a3 a4 a5 a6 a7 k, LeO (schema_Step.f k a0 a1 a2 a3 a4 a5 a6 a7) (schema_Step.f (k + 1) a0 a1 a2 a3 a4 a5 a6 a7) := by
  intro a0 a1 a2 a3 a4 a5 a6 a7 k
  have ih0 := schema_Step.mono_l k
  unfold schema_Step.f
  repeat' first
      | (with_reducible exact ih0 _ _ _ _ _ _ _ _ _)
      | (with_reducible exact schema_May.mono _ _ _ _ _)
      | (with_reducible exact LeO.refl _)
      | (with_reducible exact LeO.none _)
      | (with_reducible refine LeO.ite ?_ ?_)
      | (with_reducible refine LeO.bind ?_ (fun _ => ?_))
      | exact ih0 _ _ _ _ _ _ _ _ _
      | exact schema_May.mono _ _ _ _ _
      | exact LeO.none _
      | refine LeO.ite ?_ ?_
      | refine LeO.bind ?_ (fun _ => ?_)
set_option maxHeartbeats 8000000 in
set_option maxRecDepth 100000 in
theorem schema_Step.calls (k : Nat) (a0_0 : Int) (a0_1 : Int) (a0_2 : Int) (a0_3 : Int) (a1_0 : Int) (a1_1 : Int) (a1_2 : Int) (a1_3 : Int) (r : Int) (w : World) (h : schema_Step.f k a0_0 a0_1 a0_2 a0_3 a1_0 a1_1 a1_2 a1_3 = some r) :
    Calls Try.prog 20 #[.agg #[.int .i64 a0_0, .int .i64 a0_1, .int .i64 a0_2, .int .i64 a0_3], .agg #[.int .i64 a1_0, .int .i64 a1_1, .int .i64 a1_2, .int .i64 a1_3]] w fun e w' => e = .returned (.int .i64 r) ∧ Below w.heap.size w w' := by
  have hu34 := Try.underlying34
  have HB := Aside0.mk (Below.refl w.heap.size w)
  have H : ((schema_May.f k a0_0 a0_1 a0_2 a0_3).bind fun t249 => (if t249 = true then ((schema_May.f k a1_0 a1_1 a1_2 a1_3).bind fun t250 => (schema_Step.j0 k (!t250) a0_0 a0_1 a0_2 a0_3 a1_0 a1_1 a1_2 a1_3)) else (schema_Step.j0 k (!t249) a0_0 a0_1 a0_2 a0_3 a1_0 a1_1 a1_2 a1_3))) = some r := h
  clear h
  replace H := Option.bind_eq_some_iff.mp H
  obtain ⟨t249, A30, H⟩ := H
  replace H : (if t249 = true then ((schema_May.f k a1_0 a1_1 a1_2 a1_3).bind fun t250 => (schema_Step.j0 k (!t250) a0_0 a0_1 a0_2 a0_3 a1_0 a1_1 a1_2 a1_3)) else (schema_Step.j0 k (!t249) a0_0 a0_1 a0_2 a0_3 a1_0 a1_1 a1_2 a1_3)) = some r := H
  have A3 := Aside0.mk A30
  clear A30
  have HC4 := Aside0.mk H
  clear H
  go_enter Try.func20, Try.ntmps20
  go_upto_if 5 with (first | ((with_reducible refine gate_dst (N := 2) rfl ?_); refine box_event ?hg (N := 2) ?hd (cs := #[.int .i64 a0_0, .int .i64 a0_1, .int .i64 a0_2, .int .i64 a0_3]) (t := 34) ?hr ?_; (case hd => rfl); (case hg => rfl); (case hr => first | (go_simp; done) | (go_simp; rfl)); intro gb247 hg w5 hbox hb; have n0_ := Aside0.mk (below_step (by repeat (first | (with_reducible first | exact HB.out | apply below_alloc | apply pw_below_drewN | apply below_drew1) | exact HB.out)) hb); have n1_ := Aside0.mk (hbox); have n2_ := Aside0.mk ((by rw [hg]; exact (below_size (by repeat (first | (with_reducible first | exact HB.out | apply below_alloc | apply pw_below_drewN | apply below_drew1) | exact HB.out))) : w.heap.size ≤ gb247)); have n3_ := Aside0.mk ((by rw [hg]; exact (below_size (by repeat (first | (with_reducible first | exact HB.out | apply below_alloc | apply pw_below_drewN | apply below_drew1) | exact HB.out))) : w.heap.size ≤ gb247)); clear HB; have HB := n0_; have BK247 := n1_; have GW247 := n2_; have GE247 := n3_; clear n0_ n1_ n2_ n3_; clear hb hbox hg) | ((with_reducible refine gate_dst (N := 3) rfl ?_); refine box_event ?hg (N := 3) ?hd (cs := #[.int .i64 a1_0, .int .i64 a1_1, .int .i64 a1_2, .int .i64 a1_3]) (t := 34) ?hr ?_; (case hd => rfl); (case hg => rfl); (case hr => first | (go_simp; done) | (go_simp; rfl)); intro gb248 hg w6 hbox hb; have n0_ := Aside0.mk (blk_below (g := gb247) (o := .cells #[.int .i64 a0_0, .int .i64 a0_1, .int .i64 a0_2, .int .i64 a0_3] 34 (0, 0)) (by (with_reducible repeat (first | refine blk_drewN ?_ _ | refine blk_drew ?_ | refine blk_alloc ?_ _)); exact BK247.out) hb); have n1_ := Aside0.mk (below_step (by repeat (first | (with_reducible first | exact HB.out | apply below_alloc | apply pw_below_drewN | apply below_drew1 | refine below_set ?_ GE247.out) | exact HB.out)) hb); have n2_ := Aside0.mk (hbox); have n3_ := Aside0.mk ((by rw [hg]; exact (below_size (by repeat (first | (with_reducible first | exact HB.out | apply below_alloc | apply pw_below_drewN | apply below_drew1 | refine below_set ?_ GE247.out) | exact HB.out))) : w.heap.size ≤ gb248)); have n4_ := Aside0.mk ((by rw [hg]; exact (below_size (by repeat (first | (with_reducible first | exact HB.out | apply below_alloc | apply pw_below_drewN | apply below_drew1 | refine below_set ?_ GE247.out) | exact HB.out))) : w.heap.size ≤ gb248)); have n5_ := Aside0.mk ((by rw [hg]; exact Nat.ne_of_lt (blk_lt (g := gb247) (o := .cells #[.int .i64 a0_0, .int .i64 a0_1, .int .i64 a0_2, .int .i64 a0_3] 34 (0, 0)) (by (with_reducible repeat (first | refine blk_drewN ?_ _ | refine blk_drew ?_ | refine blk_alloc ?_ _)); exact BK247.out)) : gb247 ≠ gb248)); have n6_ := Aside0.mk ((by rw [hg]; exact Nat.ne_of_gt (blk_lt (g := gb247) (o := .cells #[.int .i64 a0_0, .int .i64 a0_1, .int .i64 a0_2, .int .i64 a0_3] 34 (0, 0)) (by (with_reducible repeat (first | refine blk_drewN ?_ _ | refine blk_drew ?_ | refine blk_alloc ?_ _)); exact BK247.out)) : gb248 ≠ gb247)); clear BK247; clear HB; have BK247 := n0_; have HB := n1_; have BK248 := n2_; have GW248 := n3_; have GE248 := n4_; have NB247_248 := n5_; have NB248_247 := n6_; clear n0_ n1_ n2_ n3_ n4_ n5_ n6_; clear hb hbox hg; have hnb7 := NB247_248.out; have hnc7 := NB248_247.out; have hcz8_0 : w6.cell? ⟨gb247, 0, none⟩ = some (.int .i64 a0_0) := (blk_cell BK247.out 0).trans rfl; have hcz8_1 : w6.cell? ⟨gb247, 1, none⟩ = some (.int .i64 a0_1) := (blk_cell BK247.out 1).trans rfl; have hcz8_2 : w6.cell? ⟨gb247, 2, none⟩ = some (.int .i64 a0_2) := (blk_cell BK247.out 2).trans rfl; have hcz8_3 : w6.cell? ⟨gb247, 3, none⟩ = some (.int .i64 a0_3) := (blk_cell BK247.out 3).trans rfl; have hfz8_0 := blk_frozen BK247.out 0; have hfz8_1 := blk_frozen BK247.out 1; have hfz8_2 := blk_frozen BK247.out 2; have hfz8_3 := blk_frozen BK247.out 3) | ((with_reducible refine gate_callee (f := 15) rfl ?_); refine goesL_ (some 7) rfl rfl Try.func15 (by kernel_rfl) rfl #[.agg #[.int .i64 a0_0, .int .i64 a0_1, .int .i64 a0_2, .int .i64 a0_3]] rfl (by (try simp only [List.map_toArray, List.map_cons, List.map_nil]); first | done | rfl | (simp only [List.length_drop, List.length_take]; rfl)) ?_; (with_reducible refine (schema_May.calls k a0_0 a0_1 a0_2 a0_3 t249 _ A3.out).mono ?_); rintro e w9 ⟨rfl, hb⟩; refine ⟨_, rfl, ?_⟩; have n0_ := Aside0.mk (blk_below (g := gb247) (o := .cells #[.int .i64 a0_0, .int .i64 a0_1, .int .i64 a0_2, .int .i64 a0_3] 34 (0, 0)) (by (with_reducible repeat (first | refine blk_drewN ?_ _ | refine blk_drew ?_ | refine blk_alloc ?_ _)); exact BK247.out) hb); have n1_ := Aside0.mk (blk_below (g := gb248) (o := .cells #[.int .i64 a1_0, .int .i64 a1_1, .int .i64 a1_2, .int .i64 a1_3] 34 (0, 0)) (by (with_reducible repeat (first | refine blk_drewN ?_ _ | refine blk_drew ?_ | refine blk_alloc ?_ _)); exact BK248.out) hb); have n2_ := Aside0.mk (below_step (by repeat (first | (with_reducible first | exact HB.out | apply below_alloc | apply pw_below_drewN | apply below_drew1 | refine below_set ?_ GE247.out | refine below_set ?_ GE248.out) | exact HB.out)) hb); clear BK247; clear BK248; clear HB; have BK247 := n0_; have BK248 := n1_; have HB := n2_; clear n0_ n1_ n2_; (try clear hb); (try clear hb2); (try clear hk); (try clear hi)))
  (try simp only [Act.put, List.setIfInBounds_toArray, List.set_cons_zero, List.set_cons_succ])
  go_cut [5] (fun v5 wc => ∃ (kq : Nat) (x5_3 : Bool), v5 = .bool x5_3 ∧ Aside0 (schema_Step.j0 kq x5_3 a0_0 a0_1 a0_2 a0_3 a1_0 a1_1 a1_2 a1_3 = some r) ∧ Aside0 (kq ≤ k) ∧ Aside0 (wc.heap[gb247]? = some (.cells #[.int .i64 a0_0, .int .i64 a0_1, .int .i64 a0_2, .int .i64 a0_3] 34 (0, 0))) ∧ Aside0 (wc.heap[gb248]? = some (.cells #[.int .i64 a1_0, .int .i64 a1_1, .int .i64 a1_2, .int .i64 a1_3] 34 (0, 0))) ∧ Aside0 (Below w.heap.size w wc))
  case first =>
    have H := HC4.out
    clear HC4
    by_cases c10 : t249 = true
    · subst c10
      have H1 : ((schema_May.f k a1_0 a1_1 a1_2 a1_3).bind fun t250 => (schema_Step.j0 k (!t250) a0_0 a0_1 a0_2 a0_3 a1_0 a1_1 a1_2 a1_3)) = some r := by rw [if_pos rfl] at H; exact H
      clear H
      have H := H1
      clear H1
      replace H := Option.bind_eq_some_iff.mp H
      obtain ⟨t250, A110, H⟩ := H
      replace H : (schema_Step.j0 k (!t250) a0_0 a0_1 a0_2 a0_3 a1_0 a1_1 a1_2 a1_3) = some r := H
      have A11 := Aside0.mk A110
      clear A110
      have H' := Aside0.mk H
      clear H
      have hnb12 := NB248_247.out
      have hnc12 := NB247_248.out
      have hcz13_0 : w9.cell? ⟨gb248, 0, none⟩ = some (.int .i64 a1_0) := (blk_cell BK248.out 0).trans rfl
      have hcz13_1 : w9.cell? ⟨gb248, 1, none⟩ = some (.int .i64 a1_1) := (blk_cell BK248.out 1).trans rfl
      have hcz13_2 : w9.cell? ⟨gb248, 2, none⟩ = some (.int .i64 a1_2) := (blk_cell BK248.out 2).trans rfl
      have hcz13_3 : w9.cell? ⟨gb248, 3, none⟩ = some (.int .i64 a1_3) := (blk_cell BK248.out 3).trans rfl
      have hfz13_0 := blk_frozen BK248.out 0
      have hfz13_1 := blk_frozen BK248.out 1
      have hfz13_2 := blk_frozen BK248.out 2
      have hfz13_3 := blk_frozen BK248.out 3
      go_wp2_with (first | ((with_reducible refine gate_callee (f := 15) rfl ?_); refine goesL_ (some 10) rfl rfl Try.func15 (by kernel_rfl) rfl #[.agg #[.int .i64 a1_0, .int .i64 a1_1, .int .i64 a1_2, .int .i64 a1_3]] rfl (by (try simp only [List.map_toArray, List.map_cons, List.map_nil]); first | done | rfl | (simp only [List.length_drop, List.length_take]; rfl)) ?_; (with_reducible refine (schema_May.calls k a1_0 a1_1 a1_2 a1_3 t250 _ A11.out).mono ?_); rintro e w14 ⟨rfl, hb⟩; refine ⟨_, rfl, ?_⟩; have n0_ := Aside0.mk (blk_below (g := gb247) (o := .cells #[.int .i64 a0_0, .int .i64 a0_1, .int .i64 a0_2, .int .i64 a0_3] 34 (0, 0)) (by (with_reducible repeat (first | refine blk_drewN ?_ _ | refine blk_drew ?_ | refine blk_alloc ?_ _)); exact BK247.out) hb); have n1_ := Aside0.mk (blk_below (g := gb248) (o := .cells #[.int .i64 a1_0, .int .i64 a1_1, .int .i64 a1_2, .int .i64 a1_3] 34 (0, 0)) (by (with_reducible repeat (first | refine blk_drewN ?_ _ | refine blk_drew ?_ | refine blk_alloc ?_ _)); exact BK248.out) hb); have n2_ := Aside0.mk (below_step (by repeat (first | (with_reducible first | exact HB.out | apply below_alloc | apply pw_below_drewN | apply below_drew1 | refine below_set ?_ GE247.out | refine below_set ?_ GE248.out) | exact HB.out)) hb); clear BK247; clear BK248; clear HB; have BK247 := n0_; have BK248 := n1_; have HB := n2_; clear n0_ n1_ n2_; (try clear hb); (try clear hb2); (try clear hk); (try clear hi)))
      go_meet
      case rel => exact ⟨_, (!t250), (by first | rfl | (simp; done) | (simp [*]; done)), H', ⟨by first | omega | exact Nat.le_refl _⟩, ⟨by (with_reducible repeat (first | refine blk_drewN ?_ _ | refine blk_drew ?_ | refine blk_alloc ?_ _)); exact BK247.out⟩, ⟨by (with_reducible repeat (first | refine blk_drewN ?_ _ | refine blk_drew ?_ | refine blk_alloc ?_ _)); exact BK248.out⟩, ⟨by repeat (first | (with_reducible first | exact HB.out | apply below_alloc | apply pw_below_drewN | apply below_drew1 | refine below_set ?_ GE247.out | refine below_set ?_ GE248.out) | exact HB.out)⟩⟩
    · replace c10 := Bool.eq_false_iff.mpr c10
      subst c10
      have H1 : (schema_Step.j0 k (!false) a0_0 a0_1 a0_2 a0_3 a1_0 a1_1 a1_2 a1_3) = some r := by rw [if_neg (show ¬ (false = true) by decide)] at H; exact H
      clear H
      have H := H1
      clear H1
      have H' := Aside0.mk H
      clear H
      go_wp2
      go_meet
      case rel => exact ⟨_, (!false), (by first | rfl | (simp; done) | (simp [*]; done)), H', ⟨by first | omega | exact Nat.le_refl _⟩, ⟨by (with_reducible repeat (first | refine blk_drewN ?_ _ | refine blk_drew ?_ | refine blk_alloc ?_ _)); exact BK247.out⟩, ⟨by (with_reducible repeat (first | refine blk_drewN ?_ _ | refine blk_drew ?_ | refine blk_alloc ?_ _)); exact BK248.out⟩, ⟨by repeat (first | (with_reducible first | exact HB.out | apply below_alloc | apply pw_below_drewN | apply below_drew1 | refine below_set ?_ GE247.out | refine below_set ?_ GE248.out) | exact HB.out)⟩⟩
  case rest =>
    clear HC4
    try clear c1
    try clear c2
    try clear p2
    try clear c7
    try clear c10
    try clear c12
    try clear hcz13_0
    try clear hcz13_1
    try clear hcz13_2
    try clear hcz13_3
    try clear hcz8_0
    try clear hcz8_1
    try clear hcz8_2
    try clear hcz8_3
    try clear hfz13_0
    try clear hfz13_1
    try clear hfz13_2
    try clear hfz13_3
    try clear hfz8_0
    try clear hfz8_1
    try clear hfz8_2
    try clear hfz8_3
    obtain ⟨kq, x5_3, rfl, HA, HJ3, BK247, BK248, HB⟩ := hcut
    cases kq with
    | zero => exact absurd HA.out (by simp [schema_Step.j0])
    | succ kj3 =>
      have H := HA.out
      clear HA
      simp only [schema_Step.j0] at H
      by_cases c15 : x5_3 = true
      · subst c15
        have H1 : (some 2) = some r := by rw [if_pos rfl] at H; exact H
        clear H
        have H := H1
        clear H1
        obtain rfl := Option.some.inj H
        go_wp2
        go_ret
        exact ⟨by first | rfl | (simp [errW_none, errW_some] <;> rfl) | (simp [*, errW_none, errW_some] <;> rfl), by repeat (first | (with_reducible first | exact HB.out | apply below_alloc | apply pw_below_drewN | apply below_drew1 | refine below_set ?_ GE247.out | refine below_set ?_ GE248.out) | exact HB.out)⟩
      · replace c15 := Bool.eq_false_iff.mpr c15
        subst c15
        have H1 : (if a0_0 = a1_0 then (if a0_1 = a1_1 then (if a0_2 = a1_2 then (if a0_3 = a1_3 then (some 0) else (if a1_3 = (wrap64 (a0_3 + 1)) then (some 1) else (some 2))) else (if a1_3 = (wrap64 (a0_3 + 1)) then (some 1) else (some 2))) else (if a1_3 = (wrap64 (a0_3 + 1)) then (some 1) else (some 2))) else (some 2)) = some r := by rw [if_neg (show ¬ (false = true) by decide)] at H; exact H
        clear H
        have H := H1
        clear H1
        by_cases c16 : a0_0 = a1_0
        · rw [if_pos c16] at H
          have c16b0 : (a0_0 == a1_0) = true := beq_iff_eq.mpr c16
          have c16b1 : (a0_0 != a1_0) = false := bne_eq_false_iff_eq.mpr c16
          clear c16
          by_cases c17 : a0_1 = a1_1
          · rw [if_pos c17] at H
            have c17b0 : (a0_1 == a1_1) = true := beq_iff_eq.mpr c17
            have c17b1 : (a0_1 != a1_1) = false := bne_eq_false_iff_eq.mpr c17
            clear c17
            by_cases c18 : a0_2 = a1_2
            · rw [if_pos c18] at H
              have c18b0 : (a0_2 == a1_2) = true := beq_iff_eq.mpr c18
              have c18b1 : (a0_2 != a1_2) = false := bne_eq_false_iff_eq.mpr c18
              clear c18
              by_cases c19 : a0_3 = a1_3
              · rw [if_pos c19] at H
                have c19b0 : (a0_3 == a1_3) = true := beq_iff_eq.mpr c19
                have c19b1 : (a0_3 != a1_3) = false := bne_eq_false_iff_eq.mpr c19
                clear c19
                obtain rfl := Option.some.inj H
                have hnb20 := NB247_248.out
                have hnc20 := NB248_247.out
                have hcz21_0 : wc.cell? ⟨gb247, 0, none⟩ = some (.int .i64 a0_0) := (blk_cell BK247.out 0).trans rfl
                have hcz21_1 : wc.cell? ⟨gb247, 1, none⟩ = some (.int .i64 a0_1) := (blk_cell BK247.out 1).trans rfl
                have hcz21_2 : wc.cell? ⟨gb247, 2, none⟩ = some (.int .i64 a0_2) := (blk_cell BK247.out 2).trans rfl
                have hcz21_3 : wc.cell? ⟨gb247, 3, none⟩ = some (.int .i64 a0_3) := (blk_cell BK247.out 3).trans rfl
                have hfz21_0 := blk_frozen BK247.out 0
                have hfz21_1 := blk_frozen BK247.out 1
                have hfz21_2 := blk_frozen BK247.out 2
                have hfz21_3 := blk_frozen BK247.out 3
                have hcz22_0 : wc.cell? ⟨gb248, 0, none⟩ = some (.int .i64 a1_0) := (blk_cell BK248.out 0).trans rfl
                have hcz22_1 : wc.cell? ⟨gb248, 1, none⟩ = some (.int .i64 a1_1) := (blk_cell BK248.out 1).trans rfl
                have hcz22_2 : wc.cell? ⟨gb248, 2, none⟩ = some (.int .i64 a1_2) := (blk_cell BK248.out 2).trans rfl
                have hcz22_3 : wc.cell? ⟨gb248, 3, none⟩ = some (.int .i64 a1_3) := (blk_cell BK248.out 3).trans rfl
                have hfz22_0 := blk_frozen BK248.out 0
                have hfz22_1 := blk_frozen BK248.out 1
                have hfz22_2 := blk_frozen BK248.out 2
                have hfz22_3 := blk_frozen BK248.out 3
                go_wp2
                go_ret
                exact ⟨by first | rfl | (simp [errW_none, errW_some] <;> rfl) | (simp [*, errW_none, errW_some] <;> rfl), by repeat (first | (with_reducible first | exact HB.out | apply below_alloc | apply pw_below_drewN | apply below_drew1 | refine below_set ?_ GE247.out | refine below_set ?_ GE248.out) | exact HB.out)⟩
              · rw [if_neg c19] at H
                have c19b0 : (a0_3 == a1_3) = false := beq_eq_false_iff_ne.mpr c19
                have c19b1 : (a0_3 != a1_3) = true := bne_iff_ne.mpr c19
                by_cases c23 : a1_3 = (wrap64 (a0_3 + 1))
                · rw [if_pos c23] at H
                  have c23b0 : (a1_3 == (wrap64 (a0_3 + 1))) = true := beq_iff_eq.mpr c23
                  have c23b1 : (a1_3 != (wrap64 (a0_3 + 1))) = false := bne_eq_false_iff_eq.mpr c23
                  clear c23
                  obtain rfl := Option.some.inj H
                  have hnb24 := NB247_248.out
                  have hnc24 := NB248_247.out
                  have hcz25_0 : wc.cell? ⟨gb247, 0, none⟩ = some (.int .i64 a0_0) := (blk_cell BK247.out 0).trans rfl
                  have hcz25_1 : wc.cell? ⟨gb247, 1, none⟩ = some (.int .i64 a0_1) := (blk_cell BK247.out 1).trans rfl
                  have hcz25_2 : wc.cell? ⟨gb247, 2, none⟩ = some (.int .i64 a0_2) := (blk_cell BK247.out 2).trans rfl
                  have hcz25_3 : wc.cell? ⟨gb247, 3, none⟩ = some (.int .i64 a0_3) := (blk_cell BK247.out 3).trans rfl
                  have hfz25_0 := blk_frozen BK247.out 0
                  have hfz25_1 := blk_frozen BK247.out 1
                  have hfz25_2 := blk_frozen BK247.out 2
                  have hfz25_3 := blk_frozen BK247.out 3
                  have hcz26_0 : wc.cell? ⟨gb248, 0, none⟩ = some (.int .i64 a1_0) := (blk_cell BK248.out 0).trans rfl
                  have hcz26_1 : wc.cell? ⟨gb248, 1, none⟩ = some (.int .i64 a1_1) := (blk_cell BK248.out 1).trans rfl
                  have hcz26_2 : wc.cell? ⟨gb248, 2, none⟩ = some (.int .i64 a1_2) := (blk_cell BK248.out 2).trans rfl
                  have hcz26_3 : wc.cell? ⟨gb248, 3, none⟩ = some (.int .i64 a1_3) := (blk_cell BK248.out 3).trans rfl
                  have hfz26_0 := blk_frozen BK248.out 0
                  have hfz26_1 := blk_frozen BK248.out 1
                  have hfz26_2 := blk_frozen BK248.out 2
                  have hfz26_3 := blk_frozen BK248.out 3
                  go_wp2
                  go_ret
                  exact ⟨by first | rfl | (simp [errW_none, errW_some] <;> rfl) | (simp [*, errW_none, errW_some] <;> rfl), by repeat (first | (with_reducible first | exact HB.out | apply below_alloc | apply pw_below_drewN | apply below_drew1 | refine below_set ?_ GE247.out | refine below_set ?_ GE248.out) | exact HB.out)⟩
                · rw [if_neg c23] at H
                  have c23b0 : (a1_3 == (wrap64 (a0_3 + 1))) = false := beq_eq_false_iff_ne.mpr c23
                  have c23b1 : (a1_3 != (wrap64 (a0_3 + 1))) = true := bne_iff_ne.mpr c23
                  obtain rfl := Option.some.inj H
                  have hnb27 := NB247_248.out
                  have hnc27 := NB248_247.out
                  have hcz28_0 : wc.cell? ⟨gb247, 0, none⟩ = some (.int .i64 a0_0) := (blk_cell BK247.out 0).trans rfl
                  have hcz28_1 : wc.cell? ⟨gb247, 1, none⟩ = some (.int .i64 a0_1) := (blk_cell BK247.out 1).trans rfl
                  have hcz28_2 : wc.cell? ⟨gb247, 2, none⟩ = some (.int .i64 a0_2) := (blk_cell BK247.out 2).trans rfl
                  have hcz28_3 : wc.cell? ⟨gb247, 3, none⟩ = some (.int .i64 a0_3) := (blk_cell BK247.out 3).trans rfl
                  have hfz28_0 := blk_frozen BK247.out 0
                  have hfz28_1 := blk_frozen BK247.out 1
                  have hfz28_2 := blk_frozen BK247.out 2
                  have hfz28_3 := blk_frozen BK247.out 3
                  have hcz29_0 : wc.cell? ⟨gb248, 0, none⟩ = some (.int .i64 a1_0) := (blk_cell BK248.out 0).trans rfl
                  have hcz29_1 : wc.cell? ⟨gb248, 1, none⟩ = some (.int .i64 a1_1) := (blk_cell BK248.out 1).trans rfl
                  have hcz29_2 : wc.cell? ⟨gb248, 2, none⟩ = some (.int .i64 a1_2) := (blk_cell BK248.out 2).trans rfl
                  have hcz29_3 : wc.cell? ⟨gb248, 3, none⟩ = some (.int .i64 a1_3) := (blk_cell BK248.out 3).trans rfl
                  have hfz29_0 := blk_frozen BK248.out 0
                  have hfz29_1 := blk_frozen BK248.out 1
                  have hfz29_2 := blk_frozen BK248.out 2
                  have hfz29_3 := blk_frozen BK248.out 3
                  go_wp2
                  go_ret
                  exact ⟨by first | rfl | (simp [errW_none, errW_some] <;> rfl) | (simp [*, errW_none, errW_some] <;> rfl), by repeat (first | (with_reducible first | exact HB.out | apply below_alloc | apply pw_below_drewN | apply below_drew1 | refine below_set ?_ GE247.out | refine below_set ?_ GE248.out) | exact HB.out)⟩
            · rw [if_neg c18] at H
              have c18b0 : (a0_2 == a1_2) = false := beq_eq_false_iff_ne.mpr c18
              have c18b1 : (a0_2 != a1_2) = true := bne_iff_ne.mpr c18
              by_cases c30 : a1_3 = (wrap64 (a0_3 + 1))
              · rw [if_pos c30] at H
                have c30b0 : (a1_3 == (wrap64 (a0_3 + 1))) = true := beq_iff_eq.mpr c30
                have c30b1 : (a1_3 != (wrap64 (a0_3 + 1))) = false := bne_eq_false_iff_eq.mpr c30
                clear c30
                obtain rfl := Option.some.inj H
                have hnb31 := NB247_248.out
                have hnc31 := NB248_247.out
                have hcz32_0 : wc.cell? ⟨gb247, 0, none⟩ = some (.int .i64 a0_0) := (blk_cell BK247.out 0).trans rfl
                have hcz32_1 : wc.cell? ⟨gb247, 1, none⟩ = some (.int .i64 a0_1) := (blk_cell BK247.out 1).trans rfl
                have hcz32_2 : wc.cell? ⟨gb247, 2, none⟩ = some (.int .i64 a0_2) := (blk_cell BK247.out 2).trans rfl
                have hcz32_3 : wc.cell? ⟨gb247, 3, none⟩ = some (.int .i64 a0_3) := (blk_cell BK247.out 3).trans rfl
                have hfz32_0 := blk_frozen BK247.out 0
                have hfz32_1 := blk_frozen BK247.out 1
                have hfz32_2 := blk_frozen BK247.out 2
                have hfz32_3 := blk_frozen BK247.out 3
                have hcz33_0 : wc.cell? ⟨gb248, 0, none⟩ = some (.int .i64 a1_0) := (blk_cell BK248.out 0).trans rfl
                have hcz33_1 : wc.cell? ⟨gb248, 1, none⟩ = some (.int .i64 a1_1) := (blk_cell BK248.out 1).trans rfl
                have hcz33_2 : wc.cell? ⟨gb248, 2, none⟩ = some (.int .i64 a1_2) := (blk_cell BK248.out 2).trans rfl
                have hcz33_3 : wc.cell? ⟨gb248, 3, none⟩ = some (.int .i64 a1_3) := (blk_cell BK248.out 3).trans rfl
                have hfz33_0 := blk_frozen BK248.out 0
                have hfz33_1 := blk_frozen BK248.out 1
                have hfz33_2 := blk_frozen BK248.out 2
                have hfz33_3 := blk_frozen BK248.out 3
                go_wp2
                go_ret
                exact ⟨by first | rfl | (simp [errW_none, errW_some] <;> rfl) | (simp [*, errW_none, errW_some] <;> rfl), by repeat (first | (with_reducible first | exact HB.out | apply below_alloc | apply pw_below_drewN | apply below_drew1 | refine below_set ?_ GE247.out | refine below_set ?_ GE248.out) | exact HB.out)⟩
              · rw [if_neg c30] at H
                have c30b0 : (a1_3 == (wrap64 (a0_3 + 1))) = false := beq_eq_false_iff_ne.mpr c30
                have c30b1 : (a1_3 != (wrap64 (a0_3 + 1))) = true := bne_iff_ne.mpr c30
                obtain rfl := Option.some.inj H
                have hnb34 := NB247_248.out
                have hnc34 := NB248_247.out
                have hcz35_0 : wc.cell? ⟨gb247, 0, none⟩ = some (.int .i64 a0_0) := (blk_cell BK247.out 0).trans rfl
                have hcz35_1 : wc.cell? ⟨gb247, 1, none⟩ = some (.int .i64 a0_1) := (blk_cell BK247.out 1).trans rfl
                have hcz35_2 : wc.cell? ⟨gb247, 2, none⟩ = some (.int .i64 a0_2) := (blk_cell BK247.out 2).trans rfl
                have hcz35_3 : wc.cell? ⟨gb247, 3, none⟩ = some (.int .i64 a0_3) := (blk_cell BK247.out 3).trans rfl
                have hfz35_0 := blk_frozen BK247.out 0
                have hfz35_1 := blk_frozen BK247.out 1
                have hfz35_2 := blk_frozen BK247.out 2
                have hfz35_3 := blk_frozen BK247.out 3
                have hcz36_0 : wc.cell? ⟨gb248, 0, none⟩ = some (.int .i64 a1_0) := (blk_cell BK248.out 0).trans rfl
                have hcz36_1 : wc.cell? ⟨gb248, 1, none⟩ = some (.int .i64 a1_1) := (blk_cell BK248.out 1).trans rfl
                have hcz36_2 : wc.cell? ⟨gb248, 2, none⟩ = some (.int .i64 a1_2) := (blk_cell BK248.out 2).trans rfl
                have hcz36_3 : wc.cell? ⟨gb248, 3, none⟩ = some (.int .i64 a1_3) := (blk_cell BK248.out 3).trans rfl
                have hfz36_0 := blk_frozen BK248.out 0
                have hfz36_1 := blk_frozen BK248.out 1
                have hfz36_2 := blk_frozen BK248.out 2
                have hfz36_3 := blk_frozen BK248.out 3
                go_wp2
                go_ret
                exact ⟨by first | rfl | (simp [errW_none, errW_some] <;> rfl) | (simp [*, errW_none, errW_some] <;> rfl), by repeat (first | (with_reducible first | exact HB.out | apply below_alloc | apply pw_below_drewN | apply below_drew1 | refine below_set ?_ GE247.out | refine below_set ?_ GE248.out) | exact HB.out)⟩
          · rw [if_neg c17] at H
            have c17b0 : (a0_1 == a1_1) = false := beq_eq_false_iff_ne.mpr c17
            have c17b1 : (a0_1 != a1_1) = true := bne_iff_ne.mpr c17
            by_cases c37 : a1_3 = (wrap64 (a0_3 + 1))
            · rw [if_pos c37] at H
              have c37b0 : (a1_3 == (wrap64 (a0_3 + 1))) = true := beq_iff_eq.mpr c37
              have c37b1 : (a1_3 != (wrap64 (a0_3 + 1))) = false := bne_eq_false_iff_eq.mpr c37
              clear c37
              obtain rfl := Option.some.inj H
              have hnb38 := NB247_248.out
              have hnc38 := NB248_247.out
              have hcz39_0 : wc.cell? ⟨gb247, 0, none⟩ = some (.int .i64 a0_0) := (blk_cell BK247.out 0).trans rfl
              have hcz39_1 : wc.cell? ⟨gb247, 1, none⟩ = some (.int .i64 a0_1) := (blk_cell BK247.out 1).trans rfl
              have hcz39_2 : wc.cell? ⟨gb247, 2, none⟩ = some (.int .i64 a0_2) := (blk_cell BK247.out 2).trans rfl
              have hcz39_3 : wc.cell? ⟨gb247, 3, none⟩ = some (.int .i64 a0_3) := (blk_cell BK247.out 3).trans rfl
              have hfz39_0 := blk_frozen BK247.out 0
              have hfz39_1 := blk_frozen BK247.out 1
              have hfz39_2 := blk_frozen BK247.out 2
              have hfz39_3 := blk_frozen BK247.out 3
              have hcz40_0 : wc.cell? ⟨gb248, 0, none⟩ = some (.int .i64 a1_0) := (blk_cell BK248.out 0).trans rfl
              have hcz40_1 : wc.cell? ⟨gb248, 1, none⟩ = some (.int .i64 a1_1) := (blk_cell BK248.out 1).trans rfl
              have hcz40_2 : wc.cell? ⟨gb248, 2, none⟩ = some (.int .i64 a1_2) := (blk_cell BK248.out 2).trans rfl
              have hcz40_3 : wc.cell? ⟨gb248, 3, none⟩ = some (.int .i64 a1_3) := (blk_cell BK248.out 3).trans rfl
              have hfz40_0 := blk_frozen BK248.out 0
              have hfz40_1 := blk_frozen BK248.out 1
              have hfz40_2 := blk_frozen BK248.out 2
              have hfz40_3 := blk_frozen BK248.out 3
              go_wp2
              go_ret
              exact ⟨by first | rfl | (simp [errW_none, errW_some] <;> rfl) | (simp [*, errW_none, errW_some] <;> rfl), by repeat (first | (with_reducible first | exact HB.out | apply below_alloc | apply pw_below_drewN | apply below_drew1 | refine below_set ?_ GE247.out | refine below_set ?_ GE248.out) | exact HB.out)⟩
            · rw [if_neg c37] at H
              have c37b0 : (a1_3 == (wrap64 (a0_3 + 1))) = false := beq_eq_false_iff_ne.mpr c37
              have c37b1 : (a1_3 != (wrap64 (a0_3 + 1))) = true := bne_iff_ne.mpr c37
              obtain rfl := Option.some.inj H
              have hnb41 := NB247_248.out
              have hnc41 := NB248_247.out
              have hcz42_0 : wc.cell? ⟨gb247, 0, none⟩ = some (.int .i64 a0_0) := (blk_cell BK247.out 0).trans rfl
              have hcz42_1 : wc.cell? ⟨gb247, 1, none⟩ = some (.int .i64 a0_1) := (blk_cell BK247.out 1).trans rfl
              have hcz42_2 : wc.cell? ⟨gb247, 2, none⟩ = some (.int .i64 a0_2) := (blk_cell BK247.out 2).trans rfl
              have hcz42_3 : wc.cell? ⟨gb247, 3, none⟩ = some (.int .i64 a0_3) := (blk_cell BK247.out 3).trans rfl
              have hfz42_0 := blk_frozen BK247.out 0
              have hfz42_1 := blk_frozen BK247.out 1
              have hfz42_2 := blk_frozen BK247.out 2
              have hfz42_3 := blk_frozen BK247.out 3
              have hcz43_0 : wc.cell? ⟨gb248, 0, none⟩ = some (.int .i64 a1_0) := (blk_cell BK248.out 0).trans rfl
              have hcz43_1 : wc.cell? ⟨gb248, 1, none⟩ = some (.int .i64 a1_1) := (blk_cell BK248.out 1).trans rfl
              have hcz43_2 : wc.cell? ⟨gb248, 2, none⟩ = some (.int .i64 a1_2) := (blk_cell BK248.out 2).trans rfl
              have hcz43_3 : wc.cell? ⟨gb248, 3, none⟩ = some (.int .i64 a1_3) := (blk_cell BK248.out 3).trans rfl
              have hfz43_0 := blk_frozen BK248.out 0
              have hfz43_1 := blk_frozen BK248.out 1
              have hfz43_2 := blk_frozen BK248.out 2
              have hfz43_3 := blk_frozen BK248.out 3
              go_wp2
              go_ret
              exact ⟨by first | rfl | (simp [errW_none, errW_some] <;> rfl) | (simp [*, errW_none, errW_some] <;> rfl), by repeat (first | (with_reducible first | exact HB.out | apply below_alloc | apply pw_below_drewN | apply below_drew1 | refine below_set ?_ GE247.out | refine below_set ?_ GE248.out) | exact HB.out)⟩
        · rw [if_neg c16] at H
          have c16b0 : (a0_0 == a1_0) = false := beq_eq_false_iff_ne.mpr c16
          have c16b1 : (a0_0 != a1_0) = true := bne_iff_ne.mpr c16
          obtain rfl := Option.some.inj H
          have hnb44 := NB247_248.out
          have hnc44 := NB248_247.out
          have hcz45_0 : wc.cell? ⟨gb247, 0, none⟩ = some (.int .i64 a0_0) := (blk_cell BK247.out 0).trans rfl
          have hcz45_1 : wc.cell? ⟨gb247, 1, none⟩ = some (.int .i64 a0_1) := (blk_cell BK247.out 1).trans rfl
          have hcz45_2 : wc.cell? ⟨gb247, 2, none⟩ = some (.int .i64 a0_2) := (blk_cell BK247.out 2).trans rfl
          have hcz45_3 : wc.cell? ⟨gb247, 3, none⟩ = some (.int .i64 a0_3) := (blk_cell BK247.out 3).trans rfl
          have hfz45_0 := blk_frozen BK247.out 0
          have hfz45_1 := blk_frozen BK247.out 1
          have hfz45_2 := blk_frozen BK247.out 2
          have hfz45_3 := blk_frozen BK247.out 3
          have hcz46_0 : wc.cell? ⟨gb248, 0, none⟩ = some (.int .i64 a1_0) := (blk_cell BK248.out 0).trans rfl
          have hcz46_1 : wc.cell? ⟨gb248, 1, none⟩ = some (.int .i64 a1_1) := (blk_cell BK248.out 1).trans rfl
          have hcz46_2 : wc.cell? ⟨gb248, 2, none⟩ = some (.int .i64 a1_2) := (blk_cell BK248.out 2).trans rfl
          have hcz46_3 : wc.cell? ⟨gb248, 3, none⟩ = some (.int .i64 a1_3) := (blk_cell BK248.out 3).trans rfl
          have hfz46_0 := blk_frozen BK248.out 0
          have hfz46_1 := blk_frozen BK248.out 1
          have hfz46_2 := blk_frozen BK248.out 2
          have hfz46_3 := blk_frozen BK248.out 3
          go_wp2
          go_ret
          exact ⟨by first | rfl | (simp [errW_none, errW_some] <;> rfl) | (simp [*, errW_none, errW_some] <;> rfl), by repeat (first | (with_reducible first | exact HB.out | apply below_alloc | apply pw_below_drewN | apply below_drew1 | refine below_set ?_ GE247.out | refine below_set ?_ GE248.out) | exact HB.out)⟩

end Go.Proofs.Ytiafnckmlklodaa.P
