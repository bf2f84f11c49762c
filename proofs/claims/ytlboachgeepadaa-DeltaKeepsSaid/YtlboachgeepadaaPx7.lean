-- Written by a program of this session over the kit's print of the translation. Lean checks it.
import Derived.Test.YtlboachgeepadaaPx0
import Derived.Test.YtlboachgeepadaaPx3
import Derived.Test.YtlboachgeepadaaPx4
import Derived.Test.YtlboachgeepadaaPx6
namespace Go.Proofs.Ytlboachgeepadaa.P
open Go.RowKit Go.Proofs.YtlboachgeepadaaW.PrintWords Go.Proofs.YtlboachgeepadaaW.PrintLast Go.Proofs.YtlboachgeepadaaW.PrintMore
attribute [local go_sem] max2_int min2_int max_two min_two max_three min_three max_four min_four   -- for this text's walks alone
set_option linter.unusedVariables false
set_option linter.unusedSimpArgs false

/-! ### drydocklaw19_DeltaKeeps: function 3 -/
mutual
def drydocklaw19_DeltaKeeps.j0 : Nat → List Int → Bool → Bool → Option (Bool)
  | 0, _, _, _ => none
  | k + 1, x0, x3, x15 => if x15 = true then (some x3) else (drydocklaw19_DeltaKeeps.l0 k x0 ([] : List Int) 0 ([] : List Int) false)
def drydocklaw19_DeltaKeeps.l0 : Nat → List Int → List Int → Int → List Int → Bool → Option (Bool)
  | 0, _, _, _, _, _ => none
  | k + 1, x0, x5, x6, x147000, x147001 => if x6 < (x0.length : Int) then (if 0 ≤ x6 then ((delta_Note.f k x147000 x147001 (rd x0 x6)).bind fun bt148 => ((drydockref19_Has.f k x5 (rd x0 x6)).bind fun t153 => (if t153 = true then ((delta_May.f k bt148.1 bt148.2).bind fun t154 => (if t154 = true then (if (bt148.2 != (decide ((x5.length : Int) > 8))) = true then (none) else (if (bt148.1.length : Int) > (x5.length : Int) then (none) else (if (x5.length : Int) ≤ 8 then (if (bt148.1.length : Int) = (x5.length : Int) then (drydocklaw19_DeltaKeeps.l0 k x0 x5 (wrap64 (x6 + 1)) bt148.1 bt148.2) else (none)) else (drydocklaw19_DeltaKeeps.l0 k x0 x5 (wrap64 (x6 + 1)) bt148.1 bt148.2)))) else (none))) else (if x5.length < 35184372088832 then ((some (x5 ++ [rd x0 x6] : List Int)).bind fun y156 => ((delta_May.f k bt148.1 bt148.2).bind fun t159 => (if t159 = true then (if (bt148.2 != (decide ((y156.length : Int) > 8))) = true then (none) else (if (bt148.1.length : Int) > (y156.length : Int) then (none) else (if (y156.length : Int) ≤ 8 then (if (bt148.1.length : Int) = (y156.length : Int) then (drydocklaw19_DeltaKeeps.l0 k x0 y156 (wrap64 (x6 + 1)) bt148.1 bt148.2) else (none)) else (drydocklaw19_DeltaKeeps.l0 k x0 y156 (wrap64 (x6 + 1)) bt148.1 bt148.2)))) else (none)))) else (none))))) else (none)) else (drydocklaw19_DeltaKeeps.l1 k x5 0 x147000 x147001)
def drydocklaw19_DeltaKeeps.l1 : Nat → List Int → Int → List Int → Bool → Option (Bool)
  | 0, _, _, _, _ => none
  | k + 1, x5, x7, x147000, x147001 => if x7 < (x147000.length : Int) then (if 0 ≤ x7 then (if x7 < (x5.length : Int) then (if (rd x147000 x7) = (rd x5 x7) then (drydocklaw19_DeltaKeeps.l1 k x5 (wrap64 (x7 + 1)) x147000 x147001) else (none)) else (none)) else (none)) else (some true)
end
def drydocklaw19_DeltaKeeps.f (k : Nat) (l0 : List Int) : Option (Bool) := (drydocklaw19_awake.f k).bind fun t145 => (if t145 = true then (drydocklaw19_DeltaKeeps.j0 k l0 t145 (decide ((l0.length : Int) > 40))) else (drydocklaw19_DeltaKeeps.j0 k l0 t145 true))
theorem drydocklaw19_DeltaKeeps.mono_l : ∀ k, (∀ y0 y1 y2, LeO (drydocklaw19_DeltaKeeps.j0 k y0 y1 y2) (drydocklaw19_DeltaKeeps.j0 (k + 1) y0 y1 y2)) ∧ (∀ y0 y1 y2 y3 y4, LeO (drydocklaw19_DeltaKeeps.l0 k y0 y1 y2 y3 y4) (drydocklaw19_DeltaKeeps.l0 (k + 1) y0 y1 y2 y3 y4)) ∧ (∀ y0 y1 y2 y3, LeO (drydocklaw19_DeltaKeeps.l1 k y0 y1 y2 y3) (drydocklaw19_DeltaKeeps.l1 (k + 1) y0 y1 y2 y3))
  | 0 => ⟨fun _ _ _ r h => by simp [drydocklaw19_DeltaKeeps.j0] at h, fun _ _ _ _ _ r h => by simp [drydocklaw19_DeltaKeeps.l0] at h, fun _ _ _ _ r h => by simp [drydocklaw19_DeltaKeeps.l1] at h⟩
  | k + 1 => by
    obtain ⟨ih0, ih1, ih2⟩ := drydocklaw19_DeltaKeeps.mono_l k
    refine ⟨?_, ?_, ?_⟩
    · intro y0 y1 y2
      unfold drydocklaw19_DeltaKeeps.j0
      repeat' first
      | (with_reducible exact ih0 _ _ _)
      | (with_reducible exact ih1 _ _ _ _ _)
      | (with_reducible exact ih2 _ _ _ _)
      | (with_reducible exact delta_May.mono _ _ _)
      | (with_reducible exact delta_Note.mono _ _ _ _)
      | (with_reducible exact drydocklaw19_awake.mono _)
      | (with_reducible exact drydockref19_Has.mono _ _ _)
      | (with_reducible exact LeO.refl _)
      | (with_reducible exact LeO.none _)
      | (with_reducible refine LeO.ite ?_ ?_)
      | (with_reducible refine LeO.bind ?_ (fun _ => ?_))
      | exact ih0 _ _ _
      | exact ih1 _ _ _ _ _
      | exact ih2 _ _ _ _
      | exact delta_May.mono _ _ _
      | exact delta_Note.mono _ _ _ _
      | exact drydocklaw19_awake.mono _
      | exact drydockref19_Has.mono _ _ _
      | exact LeO.none _
      | refine LeO.ite ?_ ?_
      | refine LeO.bind ?_ (fun _ => ?_)
    · intro y0 y1 y2 y3 y4
      unfold drydocklaw19_DeltaKeeps.l0
      repeat' first
      | (with_reducible exact ih0 _ _ _)
      | (with_reducible exact ih1 _ _ _ _ _)
      | (with_reducible exact ih2 _ _ _ _)
      | (with_reducible exact delta_May.mono _ _ _)
      | (with_reducible exact delta_Note.mono _ _ _ _)
      | (with_reducible exact drydocklaw19_awake.mono _)
      | (with_reducible exact drydockref19_Has.mono _ _ _)
      | (with_reducible exact LeO.refl _)
      | (with_reducible exact LeO.none _)
      | (with_reducible refine LeO.ite ?_ ?_)
      | (with_reducible refine LeO.bind ?_ (fun _ => ?_))
      | exact ih0 _ _ _
      | exact ih1 _ _ _ _ _
      | exact ih2 _ _ _ _
      | exact delta_May.mono _ _ _
      | exact delta_Note.mono _ _ _ _
      | exact drydocklaw19_awake.mono _
      | exact drydockref19_Has.mono _ _ _
      | exact LeO.none _
      | refine LeO.ite ?_ ?_
      | refine LeO.bind ?_ (fun _ => ?_)
    · intro y0 y1 y2 y3
      unfold drydocklaw19_DeltaKeeps.l1
      repeat' first
      | (with_reducible exact ih0 _ _ _)
      | (with_reducible exact ih1 _ _ _ _ _)
      | (with_reducible exact ih2 _ _ _ _)
      | (with_reducible exact delta_May.mono _ _ _)
      | (with_reducible exact delta_Note.mono _ _ _ _)
      | (with_reducible exact drydocklaw19_awake.mono _)
      | (with_reducible exact drydockref19_Has.mono _ _ _)
      | (with_reducible exact LeO.refl _)
      | (with_reducible exact LeO.none _)
      | (with_reducible refine LeO.ite ?_ ?_)
      | (with_reducible refine LeO.bind ?_ (fun _ => ?_))
      | exact ih0 _ _ _
      | exact ih1 _ _ _ _ _
      | exact ih2 _ _ _ _
      | exact delta_May.mono _ _ _
      | exact delta_Note.mono _ _ _ _
      | exact drydocklaw19_awake.mono _
      | exact drydockref19_Has.mono _ _ _
      | exact LeO.none _
      | refine LeO.ite ?_ ?_
      | refine LeO.bind ?_ (fun _ => ?_)
theorem drydocklaw19_DeltaKeeps.mono : ∀ a0 k, LeO (drydocklaw19_DeltaKeeps.f k a0) (drydocklaw19_DeltaKeeps.f (k + 1) a0) := by
  intro a0 k
  obtain ⟨ih0, ih1, ih2⟩ := drydocklaw19_DeltaKeeps.mono_l k
  unfold drydocklaw19_DeltaKeeps.f
  repeat' first
      | (with_reducible exact ih0 _ _ _)
      | (with_reducible exact ih1 _ _ _ _ _)
      | (with_reducible exact ih2 _ _ _ _)
      | (with_reducible exact delta_May.mono _ _ _)
      | (with_reducible exact delta_Note.mono _ _ _ _)
      | (with_reducible exact drydocklaw19_awake.mono _)
      | (with_reducible exact drydockref19_Has.mono _ _ _)
      | (with_reducible exact LeO.refl _)
      | (with_reducible exact LeO.none _)
      | (with_reducible refine LeO.ite ?_ ?_)
      | (with_reducible refine LeO.bind ?_ (fun _ => ?_))
      | exact ih0 _ _ _
      | exact ih1 _ _ _ _ _
      | exact ih2 _ _ _ _
      | exact delta_May.mono _ _ _
      | exact delta_Note.mono _ _ _ _
      | exact drydocklaw19_awake.mono _
      | exact drydockref19_Has.mono _ _ _
      | exact LeO.none _
      | refine LeO.ite ?_ ?_
      | refine LeO.bind ?_ (fun _ => ?_)
def drydocklaw19_DeltaKeeps.T17 : Bool × List (List Nat × List Nat) := (true, [([], []), ([0], [0]), ([], []), ([1, 2], [1, 2]), ([3], [3]), ([], []), ([], []), ([5, 6], [5, 6]), ([7], [7]), ([4, 8], [4, 8])])
def drydocklaw19_DeltaKeeps.B17 : List Nat := [0, 1, 0, 7, 15, 0, 0, 96, 224, 511]
theorem drydocklaw19_DeltaKeeps.tab17 : rtab .any (opsOf Try.f3 17) = drydocklaw19_DeltaKeeps.T17 := by kernel_rfl
theorem drydocklaw19_DeltaKeeps.bits17 : waitsOk drydocklaw19_DeltaKeeps.T17.2 drydocklaw19_DeltaKeeps.B17 = true := by kernel_rfl
set_option maxHeartbeats 8000000 in
set_option maxRecDepth 100000 in
theorem drydocklaw19_DeltaKeeps.calls (k : Nat) (A0 : Option Addr) (c0 : Nat) (l0 : List Int) (r : Bool) (w : World) (hr0 : Kd.C (Kd.int .u32) w A0 l0.length l0) (hc0 : l0.length ≤ c0) (h : drydocklaw19_DeltaKeeps.f k l0 = some r) :
    Calls Try.prog 3 #[.slice A0 l0.length c0] w fun e w' => e = .returned (.bool r) ∧ Below w.heap.size w w' := by
  have hu25 := Try.underlying25
  have HR0 := Aside0.mk hr0
  have HC0 := Aside0.mk hc0
  clear hr0 hc0
  have HB := Aside0.mk (Below.refl w.heap.size w)
  have H : ((drydocklaw19_awake.f k).bind fun t145 => (if t145 = true then (drydocklaw19_DeltaKeeps.j0 k l0 t145 (decide ((l0.length : Int) > 40))) else (drydocklaw19_DeltaKeeps.j0 k l0 t145 true))) = some r := h
  clear h
  replace H := Option.bind_eq_some_iff.mp H
  obtain ⟨t145, A20, H⟩ := H
  replace H : (if t145 = true then (drydocklaw19_DeltaKeeps.j0 k l0 t145 (decide ((l0.length : Int) > 40))) else (drydocklaw19_DeltaKeeps.j0 k l0 t145 true)) = some r := H
  have A2 := Aside0.mk A20
  clear A20
  have HC3 := Aside0.mk H
  clear H
  go_enter Try.func3, Try.ntmps3
  go_upto_region 2 with (first | ((with_reducible refine gate_callee (f := 7) rfl ?_); refine goesL_ (some 8) rfl rfl Try.func7 (by kernel_rfl) rfl #[] rfl (by (try simp only [List.map_toArray, List.map_cons, List.map_nil]); first | done | rfl | (simp only [List.length_drop, List.length_take]; rfl)) ?_; (with_reducible refine (drydocklaw19_awake.calls k  t145 _ A2.out).mono ?_); rintro e w4 ⟨rfl, hb⟩; refine ⟨_, rfl, ?_⟩; have n0_ := Aside0.mk (below_step (by repeat (first | (with_reducible first | exact HB.out | apply below_alloc | apply pw_below_drewN | apply below_drew1) | exact HB.out)) hb); clear HB; have HB := n0_; clear n0_; (try clear hb); (try clear hb2); (try clear hk); (try clear hi)))
  (try simp only [Act.put, List.setIfInBounds_toArray, List.set_cons_zero, List.set_cons_succ])
  go_cut [15] (fun v15 wc => ∃ (kq : Nat) (x15_2 : Bool), v15 = .bool x15_2 ∧ Aside0 (drydocklaw19_DeltaKeeps.j0 kq l0 t145 x15_2 = some r) ∧ Aside0 (kq ≤ k) ∧ Aside0 (Below w.heap.size w wc))
  case first =>
    have H := HC3.out
    clear HC3
    by_cases c5 : t145 = true
    · subst c5
      have H1 : (drydocklaw19_DeltaKeeps.j0 k l0 true (decide ((l0.length : Int) > 40))) = some r := by rw [if_pos rfl] at H; exact H
      clear H
      have H := H1
      clear H1
      have H' := Aside0.mk H
      clear H
      go_wp2
      go_meet
      case rel => exact ⟨_, (decide ((l0.length : Int) > 40)), (by first | rfl | (simp; done) | (simp [*]; done)), H', ⟨by first | omega | exact Nat.le_refl _⟩, ⟨by repeat (first | (with_reducible first | exact HB.out | apply below_alloc | apply pw_below_drewN | apply below_drew1) | exact HB.out)⟩⟩
    · replace c5 := Bool.eq_false_iff.mpr c5
      subst c5
      have H1 : (drydocklaw19_DeltaKeeps.j0 k l0 false true) = some r := by rw [if_neg (show ¬ (false = true) by decide)] at H; exact H
      clear H
      have H := H1
      clear H1
      have H' := Aside0.mk H
      clear H
      go_wp2
      go_meet
      case rel => exact ⟨_, (true), (by first | rfl | (simp; done) | (simp [*]; done)), H', ⟨by first | omega | exact Nat.le_refl _⟩, ⟨by repeat (first | (with_reducible first | exact HB.out | apply below_alloc | apply pw_below_drewN | apply below_drew1) | exact HB.out)⟩⟩
  case rest =>
    clear HC3
    try clear p2
    try clear c3
    try clear c5
    obtain ⟨kq, x15_2, rfl, HA, HJ2, HB⟩ := hcut
    cases kq with
    | zero => exact absurd HA.out (by simp [drydocklaw19_DeltaKeeps.j0])
    | succ kj2 =>
      have H := HA.out
      clear HA
      simp only [drydocklaw19_DeltaKeeps.j0] at H
      by_cases c6 : x15_2 = true
      · subst c6
        have H1 : (some t145) = some r := by rw [if_pos rfl] at H; exact H
        clear H
        have H := H1
        clear H1
        obtain rfl := Option.some.inj H
        go_wp2
        go_ret
        exact ⟨by first | rfl | (simp [errW_none, errW_some] <;> rfl) | (simp [*, errW_none, errW_some] <;> rfl), by repeat (first | (with_reducible first | exact HB.out | apply below_alloc | apply pw_below_drewN | apply below_drew1) | exact HB.out)⟩
      · replace c6 := Bool.eq_false_iff.mpr c6
        subst c6
        have H1 : (drydocklaw19_DeltaKeeps.l0 kj2 l0 ([] : List Int) 0 ([] : List Int) false) = some r := by rw [if_neg (show ¬ (false = true) by decide)] at H; exact H
        clear H
        have H := H1
        clear H1
        have H' := Aside0.mk H
        clear H
        go_wp2_with (first | ((with_reducible refine gate_dst (N := 4) rfl ?_); (try (refine gate_guard (by rfl) ?_; dsimp only)); refine box_event ?hg (N := 4) ?hd (cs := #[.slice none 0 0, .bool false]) (t := 25) ?hr ?_; (case hd => rfl); (case hg => rfl); (case hr => first | (go_simp; done) | (go_simp; rfl)); intro gb146 hg w7 hbox hb; have n0_ := Aside0.mk (below_step (by repeat (first | (with_reducible first | exact HB.out | apply below_alloc | apply pw_below_drewN | apply below_drew1) | exact HB.out)) hb); have n1_ := Aside0.mk (hbox); have n2_ := Aside0.mk ((by rw [hg]; exact (below_size (by repeat (first | (with_reducible first | exact HB.out | apply below_alloc | apply pw_below_drewN | apply below_drew1) | exact HB.out))) : w.heap.size ≤ gb146)); have n3_ := Aside0.mk ((by rw [hg]; exact (below_size (by repeat (first | (with_reducible first | exact HB.out | apply below_alloc | apply pw_below_drewN | apply below_drew1) | exact HB.out))) : w.heap.size ≤ gb146)); clear HB; have HB := n0_; have BK146 := n1_; have GW146 := n2_; have GE146 := n3_; clear n0_ n1_ n2_ n3_; clear hb hbox hg; have hcz8_0 : w7.cell? ⟨gb146, 0, none⟩ = some (.slice none 0 0) := (blk_cell BK146.out 0).trans rfl; have hcz8_1 : w7.cell? ⟨gb146, 1, none⟩ = some (.bool false) := (blk_cell BK146.out 1).trans rfl; have hfz8_0 := blk_frozen BK146.out 0; have hfz8_1 := blk_frozen BK146.out 1))
        go_loopg [5, 6] kj2 (fun kq v5 v6 w' => ∃ (x5_2 : List Int) (x6_2 : Int) (x147000_2 : List Int) (x147001_2 : Bool) (u147000 : Value), v6 = .int .i64 x6_2 ∧ Aside0 (drydocklaw19_DeltaKeeps.l0 kq l0 x5_2 x6_2 x147000_2 x147001_2 = some r) ∧ Aside0 (kq ≤ kj2) ∧ Aside0 (Kd.R (Kd.int .u32) 27 w' w.heap.size (fun k_ => some k_ ≠ (u147000 : Value).ownBlock) v5 x5_2) ∧ Aside0 (Kd.R (Kd.int .u32) 27 w' w.heap.size (fun k_ => some k_ ≠ (v5 : Value).ownBlock) u147000 x147000_2) ∧ Aside0 (w'.heap[gb146]? = some (.cells #[u147000, .bool x147001_2] 25 (0, 0))) ∧ Aside0 (Below w.heap.size w w'))
        case atStart => exact ⟨(([] : List Int)), (0), (([] : List Int)), (false), (.slice none 0 0), (by first | rfl | (simp; done) | (simp [*]; done)), H', ⟨Nat.le_refl _⟩, ⟨by first | exact Kd.R_nil _ _ _ _ _ | exact Kd.N_nil _ _ _ _ _ | exact Kd.V_nil _ _ _ _ _ | exact Kd.Q_nil _ _ _ _ _ | exact Kd.S_nil _ _ _ _ _⟩, ⟨by first | exact Kd.R_nil _ _ _ _ _ | exact Kd.N_nil _ _ _ _ _ | exact Kd.V_nil _ _ _ _ _ | exact Kd.Q_nil _ _ _ _ _ | exact Kd.S_nil _ _ _ _ _⟩, ⟨by (with_reducible repeat (first | refine blk_drewN ?_ _ | refine blk_drew ?_ | refine blk_alloc ?_ _)); refine blk_put (cs := #[.slice none 0 0, .bool false]) ?_ 1 _ rfl; (with_reducible repeat (first | refine blk_drewN ?_ _ | refine blk_drew ?_ | refine blk_alloc ?_ _)); refine blk_put (cs := #[.slice none 0 0, .bool false]) ?_ 0 _ rfl; (with_reducible repeat (first | refine blk_drewN ?_ _ | refine blk_drew ?_ | refine blk_alloc ?_ _)); exact BK146.out⟩, ⟨by repeat (first | (with_reducible first | exact HB.out | apply below_alloc | apply pw_below_drewN | apply below_drew1 | refine below_set ?_ GE146.out) | exact HB.out)⟩⟩
        case round =>
          clear H'
          try clear p2
          try clear c3
          try clear c5
          try clear c6
          try clear c7
          try clear hcz8_0
          try clear hcz8_1
          try clear hfz8_0
          try clear hfz8_1
          try clear p2
          obtain ⟨x5_2, x6_2, x147000_2, x147001_2, u147000, rfl, HA, HK2, HO_5, HO_147000, BK146, HB⟩ := hrel
          cases gk with
          | zero => exact absurd HA.out (by simp [drydocklaw19_DeltaKeeps.l0])
          | succ k2 =>
            have H := HA.out
            clear HA
            simp only [drydocklaw19_DeltaKeeps.l0] at H
            by_cases c9 : x6_2 < (l0.length : Int)
            · rw [if_pos c9] at H
              have c9b0 : decide (x6_2 < (l0.length : Int)) = true := decide_eq_true c9
              clear c9
              by_cases c10 : 0 ≤ x6_2
              · rw [if_pos c10] at H
                have c10b0 : decide (0 ≤ x6_2) = true := decide_eq_true c10
                clear c10
                replace H := Option.bind_eq_some_iff.mp H
                obtain ⟨⟨t148, t151⟩, A110, H⟩ := H
                replace H : ((drydockref19_Has.f k2 x5_2 (rd l0 x6_2)).bind fun t153 => (if t153 = true then ((delta_May.f k2 t148 t151).bind fun t154 => (if t154 = true then (if (t151 != (decide ((x5_2.length : Int) > 8))) = true then (none) else (if (t148.length : Int) > (x5_2.length : Int) then (none) else (if (x5_2.length : Int) ≤ 8 then (if (t148.length : Int) = (x5_2.length : Int) then (drydocklaw19_DeltaKeeps.l0 k2 l0 x5_2 (wrap64 (x6_2 + 1)) t148 t151) else (none)) else (drydocklaw19_DeltaKeeps.l0 k2 l0 x5_2 (wrap64 (x6_2 + 1)) t148 t151)))) else (none))) else (if x5_2.length < 35184372088832 then ((some (x5_2 ++ [rd l0 x6_2] : List Int)).bind fun y156 => ((delta_May.f k2 t148 t151).bind fun t159 => (if t159 = true then (if (t151 != (decide ((y156.length : Int) > 8))) = true then (none) else (if (t148.length : Int) > (y156.length : Int) then (none) else (if (y156.length : Int) ≤ 8 then (if (t148.length : Int) = (y156.length : Int) then (drydocklaw19_DeltaKeeps.l0 k2 l0 y156 (wrap64 (x6_2 + 1)) t148 t151) else (none)) else (drydocklaw19_DeltaKeeps.l0 k2 l0 y156 (wrap64 (x6_2 + 1)) t148 t151)))) else (none)))) else (none)))) = some r := H
                have A11 := Aside0.mk A110
                clear A110
                replace H := Option.bind_eq_some_iff.mp H
                obtain ⟨t153, A120, H⟩ := H
                replace H : (if t153 = true then ((delta_May.f k2 t148 t151).bind fun t154 => (if t154 = true then (if (t151 != (decide ((x5_2.length : Int) > 8))) = true then (none) else (if (t148.length : Int) > (x5_2.length : Int) then (none) else (if (x5_2.length : Int) ≤ 8 then (if (t148.length : Int) = (x5_2.length : Int) then (drydocklaw19_DeltaKeeps.l0 k2 l0 x5_2 (wrap64 (x6_2 + 1)) t148 t151) else (none)) else (drydocklaw19_DeltaKeeps.l0 k2 l0 x5_2 (wrap64 (x6_2 + 1)) t148 t151)))) else (none))) else (if x5_2.length < 35184372088832 then ((some (x5_2 ++ [rd l0 x6_2] : List Int)).bind fun y156 => ((delta_May.f k2 t148 t151).bind fun t159 => (if t159 = true then (if (t151 != (decide ((y156.length : Int) > 8))) = true then (none) else (if (t148.length : Int) > (y156.length : Int) then (none) else (if (y156.length : Int) ≤ 8 then (if (t148.length : Int) = (y156.length : Int) then (drydocklaw19_DeltaKeeps.l0 k2 l0 y156 (wrap64 (x6_2 + 1)) t148 t151) else (none)) else (drydocklaw19_DeltaKeeps.l0 k2 l0 y156 (wrap64 (x6_2 + 1)) t148 t151)))) else (none)))) else (none))) = some r := H
                have A12 := Aside0.mk A120
                clear A120
                by_cases c13 : t153 = true
                · subst c13
                  have H1 : ((delta_May.f k2 t148 t151).bind fun t154 => (if t154 = true then (if (t151 != (decide ((x5_2.length : Int) > 8))) = true then (none) else (if (t148.length : Int) > (x5_2.length : Int) then (none) else (if (x5_2.length : Int) ≤ 8 then (if (t148.length : Int) = (x5_2.length : Int) then (drydocklaw19_DeltaKeeps.l0 k2 l0 x5_2 (wrap64 (x6_2 + 1)) t148 t151) else (none)) else (drydocklaw19_DeltaKeeps.l0 k2 l0 x5_2 (wrap64 (x6_2 + 1)) t148 t151)))) else (none))) = some r := by rw [if_pos rfl] at H; exact H
                  clear H
                  have H := H1
                  clear H1
                  replace H := Option.bind_eq_some_iff.mp H
                  obtain ⟨t154, A140, H⟩ := H
                  replace H : (if t154 = true then (if (t151 != (decide ((x5_2.length : Int) > 8))) = true then (none) else (if (t148.length : Int) > (x5_2.length : Int) then (none) else (if (x5_2.length : Int) ≤ 8 then (if (t148.length : Int) = (x5_2.length : Int) then (drydocklaw19_DeltaKeeps.l0 k2 l0 x5_2 (wrap64 (x6_2 + 1)) t148 t151) else (none)) else (drydocklaw19_DeltaKeeps.l0 k2 l0 x5_2 (wrap64 (x6_2 + 1)) t148 t151)))) else (none)) = some r := H
                  have A14 := Aside0.mk A140
                  clear A140
                  by_cases c15 : t154 = true
                  · subst c15
                    have H1 : (if (t151 != (decide ((x5_2.length : Int) > 8))) = true then (none) else (if (t148.length : Int) > (x5_2.length : Int) then (none) else (if (x5_2.length : Int) ≤ 8 then (if (t148.length : Int) = (x5_2.length : Int) then (drydocklaw19_DeltaKeeps.l0 k2 l0 x5_2 (wrap64 (x6_2 + 1)) t148 t151) else (none)) else (drydocklaw19_DeltaKeeps.l0 k2 l0 x5_2 (wrap64 (x6_2 + 1)) t148 t151)))) = some r := by rw [if_pos rfl] at H; exact H
                    clear H
                    have H := H1
                    clear H1
                    by_cases c16 : (t151 != (decide ((x5_2.length : Int) > 8))) = true
                    · rw [if_pos c16] at H
                      exact absurd H (by simp)
                    · rw [if_neg c16] at H
                      have c16b0 : (t151 != (decide ((x5_2.length : Int) > 8))) = false := by simpa using c16
                      (try (have c16b1 : decide (t151 = (decide ((x5_2.length : Int) > 8))) = true := by simpa using c16))
                      (try (have c16b2 : (t151 == (decide ((x5_2.length : Int) > 8))) = true := by simpa using c16))
                      clear c16
                      by_cases c17 : (t148.length : Int) > (x5_2.length : Int)
                      · rw [if_pos c17] at H
                        exact absurd H (by simp)
                      · rw [if_neg c17] at H
                        have c17b0 : decide ((x5_2.length : Int) < (t148.length : Int)) = false := decide_eq_false c17
                        have c17b1 : decide (x5_2.length < t148.length) = false := decide_eq_false (fun h => c17 (Int.ofNat_lt.mpr h))
                        clear c17
                        by_cases c18 : (x5_2.length : Int) ≤ 8
                        · rw [if_pos c18] at H
                          have c18b0 : decide ((x5_2.length : Int) ≤ 8) = true := decide_eq_true c18
                          have c18b1 : decide (x5_2.length ≤ 8) = true := decide_eq_true (by omega)
                          clear c18
                          by_cases c19 : (t148.length : Int) = (x5_2.length : Int)
                          · rw [if_pos c19] at H
                            have c19b0 : ((t148.length : Int) == (x5_2.length : Int)) = true := beq_iff_eq.mpr c19
                            have c19b1 : ((t148.length : Int) != (x5_2.length : Int)) = false := bne_eq_false_iff_eq.mpr c19
                            have c19b2 : (t148.length == x5_2.length) = true := by first | simpa using c19 | (simp at c19 ⊢; omega)
                            clear c19
                            have H' := Aside0.mk H
                            clear H
                            try go_wp2
                            have n0_ := Aside0.mk (Kd.R_drew HO_5.out)
                            have n1_ := Aside0.mk (Kd.R_drew HO_147000.out)
                            have n2_ := Aside0.mk (blk_drew BK146.out)
                            have n3_ := Aside0.mk (below_drew1 HB.out)
                            clear HO_5
                            clear HO_147000
                            clear BK146
                            clear HB
                            have HO_5 := n0_
                            have HO_147000 := n1_
                            have BK146 := n2_
                            have HB := n3_
                            clear n0_ n1_ n2_ n3_
                            have p147 : 0 ≤ (x6_2 : Int) := of_decide_eq_true (by first | (with_reducible assumption) | assumption)
                            have q147 : x6_2 < (l0.length : Int) := of_decide_eq_true (by first | (with_reducible assumption) | assumption)
                            obtain ⟨ad147, e147, hx147_0⟩ := Kd.at_int HR0.out x6_2 p147 q147
                            have hw147_0 := hx147_0
                            cases e147
                            replace hx147_0 := (HB.out.cell (World.block_lt_of_cell? w _ hx147_0)).trans hx147_0
                            replace p147 := eq_true p147
                            replace q147 := eq_true q147
                            obtain ⟨Ao21, co21, eo21⟩ := Kd.R_slice HO_147000.out
                            (first | subst eo21 | (injection eo21 with f1_ f2_ f3_; have f4_ := f1_.symm; have f5_ := f3_.symm; clear f1_ f2_ f3_; subst f4_; subst f5_))
                            refine start_ (n := 7) (S := fun w' => w'.cell? ⟨gb146, 0, none⟩ = some (.slice Ao21 x147000_2.length co21) ∧ w'.cell? ⟨gb146, 1, none⟩ = some (.bool x147001_2) ∧ w'.cell? (ad147.add (x6_2).toNat) = some (.int .u32 (rd l0 x6_2))) (ds := [6]) #[false, false, false, false, false, false, false] (by kernel_rfl) rfl rfl ⟨(blk_cell BK146.out 0).trans rfl, (blk_cell BK146.out 1).trans rfl, ((HB.out.cell (World.block_lt_of_cell? w _ hw147_0)).trans hw147_0)⟩ (fun hHeld => ?_)
                            generalize wr.drew = w20 at HO_5 HO_147000 BK146 HB hx147_0 hHeld ⊢
                            refine pure_ (i := 1) (N := some 25) (v := ?_) (a' := ?_) #[false, true, false, false, false, false, false] rfl rfl (by kernel_rfl) (fun _ _ _ h => h) (Or.inl ⟨by rfl, ?_⟩) ?_ ?_
                            rotate_left
                            · intro w'
                              go_simp
                              with_reducible rfl
                            rotate_left
                            · simp only [Act.put, List.setIfInBounds_toArray, List.set_cons_zero, List.set_cons_succ, i64_w, i32_w]
                              rfl
                            refine pure_ (i := 2) (N := some 26) (v := ?_) (a' := ?_) #[false, true, true, false, false, false, false] rfl rfl (by kernel_rfl) (fun _ _ _ h => h) (Or.inl ⟨by rfl, ?_⟩) ?_ ?_
                            rotate_left
                            · intro w'
                              go_simp
                              with_reducible rfl
                            rotate_left
                            · simp only [Act.put, List.setIfInBounds_toArray, List.set_cons_zero, List.set_cons_succ, i64_w, i32_w]
                              rfl
                            refine pure_ (i := 3) (N := some 27) (v := ?_) (a' := ?_) #[false, true, true, true, false, false, false] rfl rfl (by kernel_rfl) (fun _ _ _ h => h) (Or.inl ⟨by rfl, ?_⟩) ?_ ?_
                            rotate_left
                            · intro w'
                              go_simp
                              with_reducible rfl
                            rotate_left
                            · simp only [Act.put, List.setIfInBounds_toArray, List.set_cons_zero, List.set_cons_succ, i64_w, i32_w]
                              rfl
                            refine take_ (i := 0) (N := some 24) (v := ?_) (a' := ?_) #[true, true, true, true, false, false, false] rfl rfl (by kernel_rfl) (fun _ _ _ h => h) (Or.inl ⟨by rfl, ?_⟩) hHeld ?_ ?_
                            rotate_left
                            · rintro w' ⟨s0, s1, s2⟩
                              go_simp
                              with_reducible rfl
                            rotate_left
                            · simp only [Act.put, List.setIfInBounds_toArray, List.set_cons_zero, List.set_cons_succ, i64_w, i32_w]
                              rfl
                            refine take_ (i := 4) (N := some 28) (v := ?_) (a' := ?_) #[true, true, true, true, true, false, false] rfl rfl (by kernel_rfl) (fun _ _ _ h => h) (Or.inl ⟨by rfl, ?_⟩) hHeld ?_ ?_
                            rotate_left
                            · rintro w' ⟨s0, s1, s2⟩
                              go_simp
                              with_reducible rfl
                            rotate_left
                            · simp only [Act.put, List.setIfInBounds_toArray, List.set_cons_zero, List.set_cons_succ, i64_w, i32_w]
                              rfl
                            refine one_ (i := 5) (N := some 29) #[true, true, true, true, true, true, false] rfl rfl (by kernel_rfl) (by decide) (fun K hK => ?_)
                            refine goes_ Try.func8 (by kernel_rfl) rfl #[.agg #[.slice Ao21 x147000_2.length co21, .bool x147001_2], .int .u32 (rd l0 x6_2)] (by rfl) rfl rfl (by (try simp only [List.map_toArray, List.map_cons, List.map_nil]); first | done | rfl | (simp only [List.length_drop, List.length_take]; rfl)) ?_
                            with_reducible refine (delta_Note.calls k2 _ _ x147000_2 x147001_2 (rd l0 x6_2) t148 t151 _ ?side1 ?side2 A11.out).mono ?_
                            (case side1 => repeat (first | exact (Kd.R_reads' HO_147000.out).2.2 | (with_reducible refine Kd.C_alloc ?_ _) | (with_reducible refine Kd.C_drewN ?_ _) | (with_reducible refine Kd.C_drew ?_)))
                            (case side2 => exact (Kd.R_reads' HO_147000.out).2.1)
                            rintro e w22 ⟨v149, rfl, ho0, hb⟩
                            refine ⟨_, rfl, ?_⟩
                            have n0_ := Aside0.mk (Kd.R_elder' (by (with_reducible repeat (first | apply Kd.R_alloc | apply Kd.R_drewN | apply Kd.R_drew)); exact HO_5.out) (Kd.R_base ho0) hb)
                            have n1_ := Aside0.mk (Kd.R_elder' (by (with_reducible repeat (first | apply Kd.R_alloc | apply Kd.R_drewN | apply Kd.R_drew)); exact HO_147000.out) (Kd.R_base ho0) hb)
                            have n2_ := Aside0.mk (Kd.R_lower (Kd.R_new' (Kd.R_new' ho0 (Kd.R_lt (by (with_reducible repeat (first | apply Kd.R_alloc | apply Kd.R_drewN | apply Kd.R_drew)); exact HO_5.out))) (Kd.R_lt (by (with_reducible repeat (first | apply Kd.R_alloc | apply Kd.R_drewN | apply Kd.R_drew)); exact HO_147000.out))) (below_size (by repeat (first | (with_reducible first | exact HB.out | apply below_alloc | apply pw_below_drewN | apply below_drew1 | refine below_set ?_ GE146.out) | exact HB.out))))
                            have n3_ := Aside0.mk (blk_below (g := gb146) (o := .cells #[.slice Ao21 x147000_2.length co21, .bool x147001_2] 25 (0, 0)) (by (with_reducible repeat (first | refine blk_drewN ?_ _ | refine blk_drew ?_ | refine blk_alloc ?_ _)); exact BK146.out) hb)
                            have n4_ := Aside0.mk (below_step (by repeat (first | (with_reducible first | exact HB.out | apply below_alloc | apply pw_below_drewN | apply below_drew1 | refine below_set ?_ GE146.out) | exact HB.out)) hb)
                            clear HO_5
                            clear HO_147000
                            clear BK146
                            clear HB
                            have HO_5 := n0_
                            have HO_147000 := n1_
                            have HO150 := n2_
                            have BK146 := n3_
                            have HB := n4_
                            clear n0_ n1_ n2_ n3_ n4_
                            (try clear hb)
                            (try clear hb2)
                            (try clear hk)
                            (try clear hi)
                            (try clear ho0)
                            obtain ⟨Ao23, co23, eo23⟩ := Kd.R_slice HO150.out
                            (first | subst eo23 | (injection eo23 with f1_ f2_ f3_; have f4_ := f1_.symm; have f5_ := f3_.symm; clear f1_ f2_ f3_; subst f4_; subst f5_))
                            refine hK.out _ _ ⟨(blk_cell BK146.out 0).trans rfl, (blk_cell BK146.out 1).trans rfl, ((HB.out.cell (World.block_lt_of_cell? w _ hw147_0)).trans hw147_0)⟩ (fun hHeld => ?_)
                            clear hK K
                            refine norm_ (a' := ?_) ?_ ?_
                            rotate_left
                            · show Act.put _ (some 29) _ = _
                              simp only [Act.put, List.setIfInBounds_toArray, List.set_cons_zero, List.set_cons_succ, i64_w, i32_w]
                              rfl
                            refine last_ (i := 6) (N := none) #[true, true, true, true, true, true, true] rfl rfl (by kernel_rfl) (by decide) (fun K hK => ?_)
                            have hs24 : w22.cell? ⟨gb146, 0, none⟩ = some (.slice Ao21 x147000_2.length co21) := (blk_cell BK146.out 0).trans rfl
                            have hfs24 := blk_frozen BK146.out 0
                            have hs25 : w22.cell? ⟨gb146, 1, none⟩ = some (.bool x147001_2) := (blk_cell BK146.out 1).trans rfl
                            have hfs25 := blk_frozen BK146.out 1
                            refine skip_ (w1 := ?_) (by rfl) rfl ?_ ?_
                            rotate_left
                            · go_simp
                              rfl
                            refine hK.out _ _ ?_
                            clear hK K
                            refine done_ (by kernel_rfl) ?_
                            have p152 : 0 ≤ (x6_2 : Int) := of_decide_eq_true (by first | (with_reducible assumption) | assumption)
                            have q152 : x6_2 < (l0.length : Int) := of_decide_eq_true (by first | (with_reducible assumption) | assumption)
                            obtain ⟨ad152, e152, hx152_0⟩ := Kd.at_int HR0.out x6_2 p152 q152
                            obtain rfl : ad147 = ad152 := (by injection e152)
                            have hn152_0 : ad147.block ≠ gb146 := Nat.ne_of_lt (Nat.lt_of_lt_of_le (by have := World.block_lt_of_cell? _ _ hx152_0; first | rwa [add_block] at this | exact this) GW146.out)
                            have hn152_1 : ad147.block ≠ gb146 := Nat.ne_of_lt (Nat.lt_of_lt_of_le (by have := World.block_lt_of_cell? _ _ hx152_0; first | rwa [add_block] at this | exact this) GW146.out)
                            replace hx152_0 := (HB.out.cell (World.block_lt_of_cell? w _ hx152_0)).trans hx152_0
                            replace hx152_0 := (cell_far (p := ⟨gb146, 0, none⟩) (by first | (rw [add_block]; exact hn152_0) | (show (Addr.add _ _).block ≠ _; rw [add_block]; exact hn152_0) | exact hn152_0) (.slice Ao23 t148.length co23)).trans hx152_0
                            replace hx152_0 := (cell_far (p := ⟨gb146, 1, none⟩) (by first | (rw [add_block]; exact hn152_1) | (show (Addr.add _ _).block ≠ _; rw [add_block]; exact hn152_1) | exact hn152_1) (.bool t151)).trans hx152_0
                            clear hn152_0
                            clear hn152_1
                            replace p152 := eq_true p152
                            replace q152 := eq_true q152
                            obtain ⟨Ao26, co26, eo26⟩ := Kd.R_slice HO_5.out
                            subst eo26
                            try go_wp2_with (first | ((with_reducible refine gate_callee (f := 9) rfl ?_); refine goesL_ (some 35) rfl rfl Try.func9 (by kernel_rfl) rfl #[.slice Ao26 x5_2.length co26, .int .u32 (rd l0 x6_2)] rfl (by (try simp only [List.map_toArray, List.map_cons, List.map_nil]); first | done | rfl | (simp only [List.length_drop, List.length_take]; rfl)) ?_; (with_reducible refine (drydockref19_Has.calls k2 _ _ x5_2 (rd l0 x6_2) true _ ?side1 ?side2 A12.out).mono ?_); (case side1 => refine (Kd.R_reads' (e := 27) (base := w.heap.size) (ok := fun k_ => (some k_ ≠ (.slice Ao21 x147000_2.length co21 : Value).ownBlock ∧ some k_ ≠ (.slice Ao23 t148.length co23 : Value).ownBlock)) (n := x5_2.length) (c := co26) ?_).2.2; exact (by (with_reducible repeat (first | apply Kd.R_alloc | apply Kd.R_drewN | apply Kd.R_drew)); exact (Kd.R_mono (Kd.R_far (p := ⟨gb146, 1, none⟩) (Kd.R_far (p := ⟨gb146, 0, none⟩) (Kd.R_types HO_5.out BK146.out (by decide)) (fun _ hk => hk.2) (.slice Ao23 t148.length co23)) (fun _ hk => hk.2) (.bool t151)) (fun _ h_ => h_.1)))); (case side2 => exact (Kd.R_reads' HO_5.out).2.1); rintro e w' ⟨rfl, ⟨nd, rfl⟩⟩; refine ⟨_, rfl, ?_⟩; have hcz27_0 : w22.cell? ⟨gb146, 0, none⟩ = some (.slice Ao21 x147000_2.length co21) := (blk_cell BK146.out 0).trans rfl; have hcz27_1 : w22.cell? ⟨gb146, 1, none⟩ = some (.bool x147001_2) := (blk_cell BK146.out 1).trans rfl; have hfz27_0 := blk_frozen BK146.out 0; have hfz27_1 := blk_frozen BK146.out 1) | ((with_reducible refine gate_callee (f := 10) rfl ?_); refine goesL_ (some 45) rfl rfl Try.func10 (by kernel_rfl) rfl #[.agg #[.slice Ao23 t148.length co23, .bool t151]] rfl (by (try simp only [List.map_toArray, List.map_cons, List.map_nil]); first | done | rfl | (simp only [List.length_drop, List.length_take]; rfl)) ?_; (with_reducible refine (delta_May.calls k2 _ _ t148 t151 true _ ?side1 ?side2 A14.out).mono ?_); (case side1 => refine (Kd.R_reads' (e := 27) (base := w.heap.size) (ok := fun k_ => ((True ∧ some k_ ≠ (.slice Ao26 x5_2.length co26 : Value).ownBlock) ∧ some k_ ≠ (.slice Ao21 x147000_2.length co21 : Value).ownBlock)) (n := t148.length) (c := co23) ?_).2.2; exact (by (with_reducible repeat (first | apply Kd.R_alloc | apply Kd.R_drewN | apply Kd.R_drew)); exact (Kd.R_mono (Kd.R_far (p := ⟨gb146, 1, none⟩) (Kd.R_far (p := ⟨gb146, 0, none⟩) (Kd.R_types HO150.out BK146.out (by decide)) (fun _ hk => hk.2) (.slice Ao23 t148.length co23)) (fun _ hk => hk.2) (.bool t151)) (fun _ h_ => h_.1)))); (case side2 => exact (Kd.R_reads' HO150.out).2.1); rintro e w28 ⟨rfl, hb⟩; refine ⟨_, rfl, ?_⟩; have n0_ := Aside0.mk (Kd.R_below (by (with_reducible repeat (first | apply Kd.R_alloc | apply Kd.R_drewN | apply Kd.R_drew)); exact (Kd.R_mono (Kd.R_far (p := ⟨gb146, 1, none⟩) (Kd.R_far (p := ⟨gb146, 0, none⟩) (Kd.R_types HO_5.out BK146.out (by decide)) (fun _ hk => hk.2) (.slice Ao23 t148.length co23)) (fun _ hk => hk.2) (.bool t151)) (fun _ h_ => h_.1))) hb); have n1_ := Aside0.mk (Kd.R_below (by (with_reducible repeat (first | apply Kd.R_alloc | apply Kd.R_drewN | apply Kd.R_drew)); exact (Kd.R_mono (Kd.R_far (p := ⟨gb146, 1, none⟩) (Kd.R_far (p := ⟨gb146, 0, none⟩) (Kd.R_types HO_147000.out BK146.out (by decide)) (fun _ hk => hk.2) (.slice Ao23 t148.length co23)) (fun _ hk => hk.2) (.bool t151)) (fun _ h_ => h_.1))) hb); have n2_ := Aside0.mk (Kd.R_below (by (with_reducible repeat (first | apply Kd.R_alloc | apply Kd.R_drewN | apply Kd.R_drew)); exact (Kd.R_mono (Kd.R_far (p := ⟨gb146, 1, none⟩) (Kd.R_far (p := ⟨gb146, 0, none⟩) (Kd.R_types HO150.out BK146.out (by decide)) (fun _ hk => hk.2) (.slice Ao23 t148.length co23)) (fun _ hk => hk.2) (.bool t151)) (fun _ h_ => h_.1))) hb); have n3_ := Aside0.mk (blk_below (g := gb146) (o := .cells #[.slice Ao23 t148.length co23, .bool t151] 25 (0, 0)) (by (with_reducible repeat (first | refine blk_drewN ?_ _ | refine blk_drew ?_ | refine blk_alloc ?_ _)); refine blk_put (cs := #[.slice Ao23 t148.length co23, .bool x147001_2]) ?_ 1 _ rfl; (with_reducible repeat (first | refine blk_drewN ?_ _ | refine blk_drew ?_ | refine blk_alloc ?_ _)); refine blk_put (cs := #[.slice Ao21 x147000_2.length co21, .bool x147001_2]) ?_ 0 _ rfl; (with_reducible repeat (first | refine blk_drewN ?_ _ | refine blk_drew ?_ | refine blk_alloc ?_ _)); exact BK146.out) hb); have n4_ := Aside0.mk (below_step (by repeat (first | (with_reducible first | exact HB.out | apply below_alloc | apply pw_below_drewN | apply below_drew1 | refine below_set ?_ GE146.out) | exact HB.out)) hb); clear HO_5; clear HO_147000; clear HO150; clear BK146; clear HB; have HO_5 := n0_; have HO_147000 := n1_; have HO150 := n2_; have BK146 := n3_; have HB := n4_; clear n0_ n1_ n2_ n3_ n4_; (try clear hb); (try clear hb2); (try clear hk); (try clear hi); have hcz29_0 : w28.cell? ⟨gb146, 0, none⟩ = some (.slice Ao23 t148.length co23) := (blk_cell BK146.out 0).trans rfl; have hcz29_1 : w28.cell? ⟨gb146, 1, none⟩ = some (.bool t151) := (blk_cell BK146.out 1).trans rfl; have hfz29_0 := blk_frozen BK146.out 0; have hfz29_1 := blk_frozen BK146.out 1))
                            go_roundg k2
                            case measure => have := HJ2.out; have := HK2.out; omega
                            case rel => exact ⟨(x5_2), (wrap64 (x6_2 + 1)), (t148), (t151), (.slice Ao23 t148.length co23), (by first | rfl | (simp; done) | (simp [*]; done)), H', ⟨by have := HJ2.out; have := HK2.out; omega⟩, ⟨by (with_reducible repeat (first | apply Kd.R_alloc | apply Kd.R_drewN | apply Kd.R_drew)); exact Kd.R_mono HO_5.out (fun _ hk => hk.2)⟩, ⟨by (with_reducible repeat (first | apply Kd.R_alloc | apply Kd.R_drewN | apply Kd.R_drew)); exact Kd.R_mono HO150.out (fun _ hk => hk.1.2)⟩, ⟨by (with_reducible repeat (first | refine blk_drewN ?_ _ | refine blk_drew ?_ | refine blk_alloc ?_ _)); exact BK146.out⟩, ⟨by repeat (first | (with_reducible first | exact HB.out | apply below_alloc | apply pw_below_drewN | apply below_drew1 | refine below_set ?_ GE146.out) | exact HB.out)⟩⟩
                          · rw [if_neg c19] at H
                            exact absurd H (by simp)
                        · rw [if_neg c18] at H
                          have c18b0 : decide ((x5_2.length : Int) ≤ 8) = false := decide_eq_false c18
                          have c18b1 : decide (x5_2.length ≤ 8) = false := decide_eq_false (by omega)
                          clear c18
                          have H' := Aside0.mk H
                          clear H
                          try go_wp2
                          have n0_ := Aside0.mk (Kd.R_drew HO_5.out)
                          have n1_ := Aside0.mk (Kd.R_drew HO_147000.out)
                          have n2_ := Aside0.mk (blk_drew BK146.out)
                          have n3_ := Aside0.mk (below_drew1 HB.out)
                          clear HO_5
                          clear HO_147000
                          clear BK146
                          clear HB
                          have HO_5 := n0_
                          have HO_147000 := n1_
                          have BK146 := n2_
                          have HB := n3_
                          clear n0_ n1_ n2_ n3_
                          have p147 : 0 ≤ (x6_2 : Int) := of_decide_eq_true (by first | (with_reducible assumption) | assumption)
                          have q147 : x6_2 < (l0.length : Int) := of_decide_eq_true (by first | (with_reducible assumption) | assumption)
                          obtain ⟨ad147, e147, hx147_0⟩ := Kd.at_int HR0.out x6_2 p147 q147
                          have hw147_0 := hx147_0
                          cases e147
                          replace hx147_0 := (HB.out.cell (World.block_lt_of_cell? w _ hx147_0)).trans hx147_0
                          replace p147 := eq_true p147
                          replace q147 := eq_true q147
                          obtain ⟨Ao31, co31, eo31⟩ := Kd.R_slice HO_147000.out
                          (first | subst eo31 | (injection eo31 with f1_ f2_ f3_; have f4_ := f1_.symm; have f5_ := f3_.symm; clear f1_ f2_ f3_; subst f4_; subst f5_))
                          refine start_ (n := 7) (S := fun w' => w'.cell? ⟨gb146, 0, none⟩ = some (.slice Ao31 x147000_2.length co31) ∧ w'.cell? ⟨gb146, 1, none⟩ = some (.bool x147001_2) ∧ w'.cell? (ad147.add (x6_2).toNat) = some (.int .u32 (rd l0 x6_2))) (ds := [6]) #[false, false, false, false, false, false, false] (by kernel_rfl) rfl rfl ⟨(blk_cell BK146.out 0).trans rfl, (blk_cell BK146.out 1).trans rfl, ((HB.out.cell (World.block_lt_of_cell? w _ hw147_0)).trans hw147_0)⟩ (fun hHeld => ?_)
                          generalize wr.drew = w30 at HO_5 HO_147000 BK146 HB hx147_0 hHeld ⊢
                          refine pure_ (i := 1) (N := some 25) (v := ?_) (a' := ?_) #[false, true, false, false, false, false, false] rfl rfl (by kernel_rfl) (fun _ _ _ h => h) (Or.inl ⟨by rfl, ?_⟩) ?_ ?_
                          rotate_left
                          · intro w'
                            go_simp
                            with_reducible rfl
                          rotate_left
                          · simp only [Act.put, List.setIfInBounds_toArray, List.set_cons_zero, List.set_cons_succ, i64_w, i32_w]
                            rfl
                          refine pure_ (i := 2) (N := some 26) (v := ?_) (a' := ?_) #[false, true, true, false, false, false, false] rfl rfl (by kernel_rfl) (fun _ _ _ h => h) (Or.inl ⟨by rfl, ?_⟩) ?_ ?_
                          rotate_left
                          · intro w'
                            go_simp
                            with_reducible rfl
                          rotate_left
                          · simp only [Act.put, List.setIfInBounds_toArray, List.set_cons_zero, List.set_cons_succ, i64_w, i32_w]
                            rfl
                          refine pure_ (i := 3) (N := some 27) (v := ?_) (a' := ?_) #[false, true, true, true, false, false, false] rfl rfl (by kernel_rfl) (fun _ _ _ h => h) (Or.inl ⟨by rfl, ?_⟩) ?_ ?_
                          rotate_left
                          · intro w'
                            go_simp
                            with_reducible rfl
                          rotate_left
                          · simp only [Act.put, List.setIfInBounds_toArray, List.set_cons_zero, List.set_cons_succ, i64_w, i32_w]
                            rfl
                          refine take_ (i := 0) (N := some 24) (v := ?_) (a' := ?_) #[true, true, true, true, false, false, false] rfl rfl (by kernel_rfl) (fun _ _ _ h => h) (Or.inl ⟨by rfl, ?_⟩) hHeld ?_ ?_
                          rotate_left
                          · rintro w' ⟨s0, s1, s2⟩
                            go_simp
                            with_reducible rfl
                          rotate_left
                          · simp only [Act.put, List.setIfInBounds_toArray, List.set_cons_zero, List.set_cons_succ, i64_w, i32_w]
                            rfl
                          refine take_ (i := 4) (N := some 28) (v := ?_) (a' := ?_) #[true, true, true, true, true, false, false] rfl rfl (by kernel_rfl) (fun _ _ _ h => h) (Or.inl ⟨by rfl, ?_⟩) hHeld ?_ ?_
                          rotate_left
                          · rintro w' ⟨s0, s1, s2⟩
                            go_simp
                            with_reducible rfl
                          rotate_left
                          · simp only [Act.put, List.setIfInBounds_toArray, List.set_cons_zero, List.set_cons_succ, i64_w, i32_w]
                            rfl
                          refine one_ (i := 5) (N := some 29) #[true, true, true, true, true, true, false] rfl rfl (by kernel_rfl) (by decide) (fun K hK => ?_)
                          refine goes_ Try.func8 (by kernel_rfl) rfl #[.agg #[.slice Ao31 x147000_2.length co31, .bool x147001_2], .int .u32 (rd l0 x6_2)] (by rfl) rfl rfl (by (try simp only [List.map_toArray, List.map_cons, List.map_nil]); first | done | rfl | (simp only [List.length_drop, List.length_take]; rfl)) ?_
                          with_reducible refine (delta_Note.calls k2 _ _ x147000_2 x147001_2 (rd l0 x6_2) t148 t151 _ ?side1 ?side2 A11.out).mono ?_
                          (case side1 => repeat (first | exact (Kd.R_reads' HO_147000.out).2.2 | (with_reducible refine Kd.C_alloc ?_ _) | (with_reducible refine Kd.C_drewN ?_ _) | (with_reducible refine Kd.C_drew ?_)))
                          (case side2 => exact (Kd.R_reads' HO_147000.out).2.1)
                          rintro e w32 ⟨v149, rfl, ho0, hb⟩
                          refine ⟨_, rfl, ?_⟩
                          have n0_ := Aside0.mk (Kd.R_elder' (by (with_reducible repeat (first | apply Kd.R_alloc | apply Kd.R_drewN | apply Kd.R_drew)); exact HO_5.out) (Kd.R_base ho0) hb)
                          have n1_ := Aside0.mk (Kd.R_elder' (by (with_reducible repeat (first | apply Kd.R_alloc | apply Kd.R_drewN | apply Kd.R_drew)); exact HO_147000.out) (Kd.R_base ho0) hb)
                          have n2_ := Aside0.mk (Kd.R_lower (Kd.R_new' (Kd.R_new' ho0 (Kd.R_lt (by (with_reducible repeat (first | apply Kd.R_alloc | apply Kd.R_drewN | apply Kd.R_drew)); exact HO_5.out))) (Kd.R_lt (by (with_reducible repeat (first | apply Kd.R_alloc | apply Kd.R_drewN | apply Kd.R_drew)); exact HO_147000.out))) (below_size (by repeat (first | (with_reducible first | exact HB.out | apply below_alloc | apply pw_below_drewN | apply below_drew1 | refine below_set ?_ GE146.out) | exact HB.out))))
                          have n3_ := Aside0.mk (blk_below (g := gb146) (o := .cells #[.slice Ao31 x147000_2.length co31, .bool x147001_2] 25 (0, 0)) (by (with_reducible repeat (first | refine blk_drewN ?_ _ | refine blk_drew ?_ | refine blk_alloc ?_ _)); exact BK146.out) hb)
                          have n4_ := Aside0.mk (below_step (by repeat (first | (with_reducible first | exact HB.out | apply below_alloc | apply pw_below_drewN | apply below_drew1 | refine below_set ?_ GE146.out) | exact HB.out)) hb)
                          clear HO_5
                          clear HO_147000
                          clear BK146
                          clear HB
                          have HO_5 := n0_
                          have HO_147000 := n1_
                          have HO150 := n2_
                          have BK146 := n3_
                          have HB := n4_
                          clear n0_ n1_ n2_ n3_ n4_
                          (try clear hb)
                          (try clear hb2)
                          (try clear hk)
                          (try clear hi)
                          (try clear ho0)
                          obtain ⟨Ao33, co33, eo33⟩ := Kd.R_slice HO150.out
                          (first | subst eo33 | (injection eo33 with f1_ f2_ f3_; have f4_ := f1_.symm; have f5_ := f3_.symm; clear f1_ f2_ f3_; subst f4_; subst f5_))
                          refine hK.out _ _ ⟨(blk_cell BK146.out 0).trans rfl, (blk_cell BK146.out 1).trans rfl, ((HB.out.cell (World.block_lt_of_cell? w _ hw147_0)).trans hw147_0)⟩ (fun hHeld => ?_)
                          clear hK K
                          refine norm_ (a' := ?_) ?_ ?_
                          rotate_left
                          · show Act.put _ (some 29) _ = _
                            simp only [Act.put, List.setIfInBounds_toArray, List.set_cons_zero, List.set_cons_succ, i64_w, i32_w]
                            rfl
                          refine last_ (i := 6) (N := none) #[true, true, true, true, true, true, true] rfl rfl (by kernel_rfl) (by decide) (fun K hK => ?_)
                          have hs34 : w32.cell? ⟨gb146, 0, none⟩ = some (.slice Ao31 x147000_2.length co31) := (blk_cell BK146.out 0).trans rfl
                          have hfs34 := blk_frozen BK146.out 0
                          have hs35 : w32.cell? ⟨gb146, 1, none⟩ = some (.bool x147001_2) := (blk_cell BK146.out 1).trans rfl
                          have hfs35 := blk_frozen BK146.out 1
                          refine skip_ (w1 := ?_) (by rfl) rfl ?_ ?_
                          rotate_left
                          · go_simp
                            rfl
                          refine hK.out _ _ ?_
                          clear hK K
                          refine done_ (by kernel_rfl) ?_
                          have p152 : 0 ≤ (x6_2 : Int) := of_decide_eq_true (by first | (with_reducible assumption) | assumption)
                          have q152 : x6_2 < (l0.length : Int) := of_decide_eq_true (by first | (with_reducible assumption) | assumption)
                          obtain ⟨ad152, e152, hx152_0⟩ := Kd.at_int HR0.out x6_2 p152 q152
                          obtain rfl : ad147 = ad152 := (by injection e152)
                          have hn152_0 : ad147.block ≠ gb146 := Nat.ne_of_lt (Nat.lt_of_lt_of_le (by have := World.block_lt_of_cell? _ _ hx152_0; first | rwa [add_block] at this | exact this) GW146.out)
                          have hn152_1 : ad147.block ≠ gb146 := Nat.ne_of_lt (Nat.lt_of_lt_of_le (by have := World.block_lt_of_cell? _ _ hx152_0; first | rwa [add_block] at this | exact this) GW146.out)
                          replace hx152_0 := (HB.out.cell (World.block_lt_of_cell? w _ hx152_0)).trans hx152_0
                          replace hx152_0 := (cell_far (p := ⟨gb146, 0, none⟩) (by first | (rw [add_block]; exact hn152_0) | (show (Addr.add _ _).block ≠ _; rw [add_block]; exact hn152_0) | exact hn152_0) (.slice Ao33 t148.length co33)).trans hx152_0
                          replace hx152_0 := (cell_far (p := ⟨gb146, 1, none⟩) (by first | (rw [add_block]; exact hn152_1) | (show (Addr.add _ _).block ≠ _; rw [add_block]; exact hn152_1) | exact hn152_1) (.bool t151)).trans hx152_0
                          clear hn152_0
                          clear hn152_1
                          replace p152 := eq_true p152
                          replace q152 := eq_true q152
                          obtain ⟨Ao36, co36, eo36⟩ := Kd.R_slice HO_5.out
                          subst eo36
                          try go_wp2_with (first | ((with_reducible refine gate_callee (f := 9) rfl ?_); refine goesL_ (some 35) rfl rfl Try.func9 (by kernel_rfl) rfl #[.slice Ao36 x5_2.length co36, .int .u32 (rd l0 x6_2)] rfl (by (try simp only [List.map_toArray, List.map_cons, List.map_nil]); first | done | rfl | (simp only [List.length_drop, List.length_take]; rfl)) ?_; (with_reducible refine (drydockref19_Has.calls k2 _ _ x5_2 (rd l0 x6_2) true _ ?side1 ?side2 A12.out).mono ?_); (case side1 => refine (Kd.R_reads' (e := 27) (base := w.heap.size) (ok := fun k_ => (some k_ ≠ (.slice Ao31 x147000_2.length co31 : Value).ownBlock ∧ some k_ ≠ (.slice Ao33 t148.length co33 : Value).ownBlock)) (n := x5_2.length) (c := co36) ?_).2.2; exact (by (with_reducible repeat (first | apply Kd.R_alloc | apply Kd.R_drewN | apply Kd.R_drew)); exact (Kd.R_mono (Kd.R_far (p := ⟨gb146, 1, none⟩) (Kd.R_far (p := ⟨gb146, 0, none⟩) (Kd.R_types HO_5.out BK146.out (by decide)) (fun _ hk => hk.2) (.slice Ao33 t148.length co33)) (fun _ hk => hk.2) (.bool t151)) (fun _ h_ => h_.1)))); (case side2 => exact (Kd.R_reads' HO_5.out).2.1); rintro e w' ⟨rfl, ⟨nd, rfl⟩⟩; refine ⟨_, rfl, ?_⟩; have hcz37_0 : w32.cell? ⟨gb146, 0, none⟩ = some (.slice Ao31 x147000_2.length co31) := (blk_cell BK146.out 0).trans rfl; have hcz37_1 : w32.cell? ⟨gb146, 1, none⟩ = some (.bool x147001_2) := (blk_cell BK146.out 1).trans rfl; have hfz37_0 := blk_frozen BK146.out 0; have hfz37_1 := blk_frozen BK146.out 1) | ((with_reducible refine gate_callee (f := 10) rfl ?_); refine goesL_ (some 45) rfl rfl Try.func10 (by kernel_rfl) rfl #[.agg #[.slice Ao33 t148.length co33, .bool t151]] rfl (by (try simp only [List.map_toArray, List.map_cons, List.map_nil]); first | done | rfl | (simp only [List.length_drop, List.length_take]; rfl)) ?_; (with_reducible refine (delta_May.calls k2 _ _ t148 t151 true _ ?side1 ?side2 A14.out).mono ?_); (case side1 => refine (Kd.R_reads' (e := 27) (base := w.heap.size) (ok := fun k_ => ((True ∧ some k_ ≠ (.slice Ao36 x5_2.length co36 : Value).ownBlock) ∧ some k_ ≠ (.slice Ao31 x147000_2.length co31 : Value).ownBlock)) (n := t148.length) (c := co33) ?_).2.2; exact (by (with_reducible repeat (first | apply Kd.R_alloc | apply Kd.R_drewN | apply Kd.R_drew)); exact (Kd.R_mono (Kd.R_far (p := ⟨gb146, 1, none⟩) (Kd.R_far (p := ⟨gb146, 0, none⟩) (Kd.R_types HO150.out BK146.out (by decide)) (fun _ hk => hk.2) (.slice Ao33 t148.length co33)) (fun _ hk => hk.2) (.bool t151)) (fun _ h_ => h_.1)))); (case side2 => exact (Kd.R_reads' HO150.out).2.1); rintro e w38 ⟨rfl, hb⟩; refine ⟨_, rfl, ?_⟩; have n0_ := Aside0.mk (Kd.R_below (by (with_reducible repeat (first | apply Kd.R_alloc | apply Kd.R_drewN | apply Kd.R_drew)); exact (Kd.R_mono (Kd.R_far (p := ⟨gb146, 1, none⟩) (Kd.R_far (p := ⟨gb146, 0, none⟩) (Kd.R_types HO_5.out BK146.out (by decide)) (fun _ hk => hk.2) (.slice Ao33 t148.length co33)) (fun _ hk => hk.2) (.bool t151)) (fun _ h_ => h_.1))) hb); have n1_ := Aside0.mk (Kd.R_below (by (with_reducible repeat (first | apply Kd.R_alloc | apply Kd.R_drewN | apply Kd.R_drew)); exact (Kd.R_mono (Kd.R_far (p := ⟨gb146, 1, none⟩) (Kd.R_far (p := ⟨gb146, 0, none⟩) (Kd.R_types HO_147000.out BK146.out (by decide)) (fun _ hk => hk.2) (.slice Ao33 t148.length co33)) (fun _ hk => hk.2) (.bool t151)) (fun _ h_ => h_.1))) hb); have n2_ := Aside0.mk (Kd.R_below (by (with_reducible repeat (first | apply Kd.R_alloc | apply Kd.R_drewN | apply Kd.R_drew)); exact (Kd.R_mono (Kd.R_far (p := ⟨gb146, 1, none⟩) (Kd.R_far (p := ⟨gb146, 0, none⟩) (Kd.R_types HO150.out BK146.out (by decide)) (fun _ hk => hk.2) (.slice Ao33 t148.length co33)) (fun _ hk => hk.2) (.bool t151)) (fun _ h_ => h_.1))) hb); have n3_ := Aside0.mk (blk_below (g := gb146) (o := .cells #[.slice Ao33 t148.length co33, .bool t151] 25 (0, 0)) (by (with_reducible repeat (first | refine blk_drewN ?_ _ | refine blk_drew ?_ | refine blk_alloc ?_ _)); refine blk_put (cs := #[.slice Ao33 t148.length co33, .bool x147001_2]) ?_ 1 _ rfl; (with_reducible repeat (first | refine blk_drewN ?_ _ | refine blk_drew ?_ | refine blk_alloc ?_ _)); refine blk_put (cs := #[.slice Ao31 x147000_2.length co31, .bool x147001_2]) ?_ 0 _ rfl; (with_reducible repeat (first | refine blk_drewN ?_ _ | refine blk_drew ?_ | refine blk_alloc ?_ _)); exact BK146.out) hb); have n4_ := Aside0.mk (below_step (by repeat (first | (with_reducible first | exact HB.out | apply below_alloc | apply pw_below_drewN | apply below_drew1 | refine below_set ?_ GE146.out) | exact HB.out)) hb); clear HO_5; clear HO_147000; clear HO150; clear BK146; clear HB; have HO_5 := n0_; have HO_147000 := n1_; have HO150 := n2_; have BK146 := n3_; have HB := n4_; clear n0_ n1_ n2_ n3_ n4_; (try clear hb); (try clear hb2); (try clear hk); (try clear hi); have hcz39_0 : w38.cell? ⟨gb146, 0, none⟩ = some (.slice Ao33 t148.length co33) := (blk_cell BK146.out 0).trans rfl; have hcz39_1 : w38.cell? ⟨gb146, 1, none⟩ = some (.bool t151) := (blk_cell BK146.out 1).trans rfl; have hfz39_0 := blk_frozen BK146.out 0; have hfz39_1 := blk_frozen BK146.out 1))
                          go_roundg k2
                          case measure => have := HJ2.out; have := HK2.out; omega
                          case rel => exact ⟨(x5_2), (wrap64 (x6_2 + 1)), (t148), (t151), (.slice Ao33 t148.length co33), (by first | rfl | (simp; done) | (simp [*]; done)), H', ⟨by have := HJ2.out; have := HK2.out; omega⟩, ⟨by (with_reducible repeat (first | apply Kd.R_alloc | apply Kd.R_drewN | apply Kd.R_drew)); exact Kd.R_mono HO_5.out (fun _ hk => hk.2)⟩, ⟨by (with_reducible repeat (first | apply Kd.R_alloc | apply Kd.R_drewN | apply Kd.R_drew)); exact Kd.R_mono HO150.out (fun _ hk => hk.1.2)⟩, ⟨by (with_reducible repeat (first | refine blk_drewN ?_ _ | refine blk_drew ?_ | refine blk_alloc ?_ _)); exact BK146.out⟩, ⟨by repeat (first | (with_reducible first | exact HB.out | apply below_alloc | apply pw_below_drewN | apply below_drew1 | refine below_set ?_ GE146.out) | exact HB.out)⟩⟩
                  · replace c15 := Bool.eq_false_iff.mpr c15
                    subst c15
                    have H1 : (none) = some r := by rw [if_neg (show ¬ (false = true) by decide)] at H; exact H
                    clear H
                    have H := H1
                    clear H1
                    exact absurd H (by simp)
                · replace c13 := Bool.eq_false_iff.mpr c13
                  subst c13
                  have H1 : (if x5_2.length < 35184372088832 then ((some (x5_2 ++ [rd l0 x6_2] : List Int)).bind fun y156 => ((delta_May.f k2 t148 t151).bind fun t159 => (if t159 = true then (if (t151 != (decide ((y156.length : Int) > 8))) = true then (none) else (if (t148.length : Int) > (y156.length : Int) then (none) else (if (y156.length : Int) ≤ 8 then (if (t148.length : Int) = (y156.length : Int) then (drydocklaw19_DeltaKeeps.l0 k2 l0 y156 (wrap64 (x6_2 + 1)) t148 t151) else (none)) else (drydocklaw19_DeltaKeeps.l0 k2 l0 y156 (wrap64 (x6_2 + 1)) t148 t151)))) else (none)))) else (none)) = some r := by rw [if_neg (show ¬ (false = true) by decide)] at H; exact H
                  clear H
                  have H := H1
                  clear H1
                  by_cases c40 : x5_2.length < 35184372088832
                  · rw [if_pos c40] at H
                    have LMc40 := Aside0.mk c40
                    clear c40
                    obtain ⟨y156, hy156⟩ : ∃ y_ : List Int, y_ = (x5_2 ++ [rd l0 x6_2]) := ⟨_, rfl⟩
                    replace H : ((delta_May.f k2 t148 t151).bind fun t159 => (if t159 = true then (if (t151 != (decide ((y156.length : Int) > 8))) = true then (none) else (if (t148.length : Int) > (y156.length : Int) then (none) else (if (y156.length : Int) ≤ 8 then (if (t148.length : Int) = (y156.length : Int) then (drydocklaw19_DeltaKeeps.l0 k2 l0 y156 (wrap64 (x6_2 + 1)) t148 t151) else (none)) else (drydocklaw19_DeltaKeeps.l0 k2 l0 y156 (wrap64 (x6_2 + 1)) t148 t151)))) else (none))) = some r := by first | (rw [hy156]; with_reducible exact H) | (have H2_ := (Option.bind_some _ _).symm.trans H; rw [hy156]; with_reducible exact H2_) | (have H2_ := (Option.bind_some _ _).symm.trans H; with_reducible exact H2_) | with_reducible exact H | (rw [hy156]; exact H) | exact H
                    have Ny156 := Aside0.mk hy156
                    clear hy156
                    replace H := Option.bind_eq_some_iff.mp H
                    obtain ⟨t159, A410, H⟩ := H
                    replace H : (if t159 = true then (if (t151 != (decide ((y156.length : Int) > 8))) = true then (none) else (if (t148.length : Int) > (y156.length : Int) then (none) else (if (y156.length : Int) ≤ 8 then (if (t148.length : Int) = (y156.length : Int) then (drydocklaw19_DeltaKeeps.l0 k2 l0 y156 (wrap64 (x6_2 + 1)) t148 t151) else (none)) else (drydocklaw19_DeltaKeeps.l0 k2 l0 y156 (wrap64 (x6_2 + 1)) t148 t151)))) else (none)) = some r := H
                    have A41 := Aside0.mk A410
                    clear A410
                    by_cases c42 : t159 = true
                    · subst c42
                      have H1 : (if (t151 != (decide ((y156.length : Int) > 8))) = true then (none) else (if (t148.length : Int) > (y156.length : Int) then (none) else (if (y156.length : Int) ≤ 8 then (if (t148.length : Int) = (y156.length : Int) then (drydocklaw19_DeltaKeeps.l0 k2 l0 y156 (wrap64 (x6_2 + 1)) t148 t151) else (none)) else (drydocklaw19_DeltaKeeps.l0 k2 l0 y156 (wrap64 (x6_2 + 1)) t148 t151)))) = some r := by rw [if_pos rfl] at H; exact H
                      clear H
                      have H := H1
                      clear H1
                      by_cases c43 : (t151 != (decide ((y156.length : Int) > 8))) = true
                      · rw [if_pos c43] at H
                        exact absurd H (by simp)
                      · rw [if_neg c43] at H
                        have c43b0 : (t151 != (decide ((y156.length : Int) > 8))) = false := by simpa using c43
                        (try (have c43b1 : decide (t151 = (decide ((y156.length : Int) > 8))) = true := by simpa using c43))
                        (try (have c43b2 : (t151 == (decide ((y156.length : Int) > 8))) = true := by simpa using c43))
                        clear c43
                        by_cases c44 : (t148.length : Int) > (y156.length : Int)
                        · rw [if_pos c44] at H
                          exact absurd H (by simp)
                        · rw [if_neg c44] at H
                          have c44b0 : decide ((y156.length : Int) < (t148.length : Int)) = false := decide_eq_false c44
                          have c44b1 : decide (y156.length < t148.length) = false := decide_eq_false (fun h => c44 (Int.ofNat_lt.mpr h))
                          clear c44
                          by_cases c45 : (y156.length : Int) ≤ 8
                          · rw [if_pos c45] at H
                            have c45b0 : decide ((y156.length : Int) ≤ 8) = true := decide_eq_true c45
                            have c45b1 : decide (y156.length ≤ 8) = true := decide_eq_true (by omega)
                            clear c45
                            by_cases c46 : (t148.length : Int) = (y156.length : Int)
                            · rw [if_pos c46] at H
                              have c46b0 : ((t148.length : Int) == (y156.length : Int)) = true := beq_iff_eq.mpr c46
                              have c46b1 : ((t148.length : Int) != (y156.length : Int)) = false := bne_eq_false_iff_eq.mpr c46
                              have c46b2 : (t148.length == y156.length) = true := by first | simpa using c46 | (simp at c46 ⊢; omega)
                              clear c46
                              have H' := Aside0.mk H
                              clear H
                              try go_wp2
                              have n0_ := Aside0.mk (Kd.R_drew HO_5.out)
                              have n1_ := Aside0.mk (Kd.R_drew HO_147000.out)
                              have n2_ := Aside0.mk (blk_drew BK146.out)
                              have n3_ := Aside0.mk (below_drew1 HB.out)
                              clear HO_5
                              clear HO_147000
                              clear BK146
                              clear HB
                              have HO_5 := n0_
                              have HO_147000 := n1_
                              have BK146 := n2_
                              have HB := n3_
                              clear n0_ n1_ n2_ n3_
                              have p147 : 0 ≤ (x6_2 : Int) := of_decide_eq_true (by first | (with_reducible assumption) | assumption)
                              have q147 : x6_2 < (l0.length : Int) := of_decide_eq_true (by first | (with_reducible assumption) | assumption)
                              obtain ⟨ad147, e147, hx147_0⟩ := Kd.at_int HR0.out x6_2 p147 q147
                              have hw147_0 := hx147_0
                              cases e147
                              replace hx147_0 := (HB.out.cell (World.block_lt_of_cell? w _ hx147_0)).trans hx147_0
                              replace p147 := eq_true p147
                              replace q147 := eq_true q147
                              obtain ⟨Ao48, co48, eo48⟩ := Kd.R_slice HO_147000.out
                              (first | subst eo48 | (injection eo48 with f1_ f2_ f3_; have f4_ := f1_.symm; have f5_ := f3_.symm; clear f1_ f2_ f3_; subst f4_; subst f5_))
                              refine start_ (n := 7) (S := fun w' => w'.cell? ⟨gb146, 0, none⟩ = some (.slice Ao48 x147000_2.length co48) ∧ w'.cell? ⟨gb146, 1, none⟩ = some (.bool x147001_2) ∧ w'.cell? (ad147.add (x6_2).toNat) = some (.int .u32 (rd l0 x6_2))) (ds := [6]) #[false, false, false, false, false, false, false] (by kernel_rfl) rfl rfl ⟨(blk_cell BK146.out 0).trans rfl, (blk_cell BK146.out 1).trans rfl, ((HB.out.cell (World.block_lt_of_cell? w _ hw147_0)).trans hw147_0)⟩ (fun hHeld => ?_)
                              generalize wr.drew = w47 at HO_5 HO_147000 BK146 HB hx147_0 hHeld ⊢
                              refine pure_ (i := 1) (N := some 25) (v := ?_) (a' := ?_) #[false, true, false, false, false, false, false] rfl rfl (by kernel_rfl) (fun _ _ _ h => h) (Or.inl ⟨by rfl, ?_⟩) ?_ ?_
                              rotate_left
                              · intro w'
                                go_simp
                                with_reducible rfl
                              rotate_left
                              · simp only [Act.put, List.setIfInBounds_toArray, List.set_cons_zero, List.set_cons_succ, i64_w, i32_w]
                                rfl
                              refine pure_ (i := 2) (N := some 26) (v := ?_) (a' := ?_) #[false, true, true, false, false, false, false] rfl rfl (by kernel_rfl) (fun _ _ _ h => h) (Or.inl ⟨by rfl, ?_⟩) ?_ ?_
                              rotate_left
                              · intro w'
                                go_simp
                                with_reducible rfl
                              rotate_left
                              · simp only [Act.put, List.setIfInBounds_toArray, List.set_cons_zero, List.set_cons_succ, i64_w, i32_w]
                                rfl
                              refine pure_ (i := 3) (N := some 27) (v := ?_) (a' := ?_) #[false, true, true, true, false, false, false] rfl rfl (by kernel_rfl) (fun _ _ _ h => h) (Or.inl ⟨by rfl, ?_⟩) ?_ ?_
                              rotate_left
                              · intro w'
                                go_simp
                                with_reducible rfl
                              rotate_left
                              · simp only [Act.put, List.setIfInBounds_toArray, List.set_cons_zero, List.set_cons_succ, i64_w, i32_w]
                                rfl
                              refine take_ (i := 0) (N := some 24) (v := ?_) (a' := ?_) #[true, true, true, true, false, false, false] rfl rfl (by kernel_rfl) (fun _ _ _ h => h) (Or.inl ⟨by rfl, ?_⟩) hHeld ?_ ?_
                              rotate_left
                              · rintro w' ⟨s0, s1, s2⟩
                                go_simp
                                with_reducible rfl
                              rotate_left
                              · simp only [Act.put, List.setIfInBounds_toArray, List.set_cons_zero, List.set_cons_succ, i64_w, i32_w]
                                rfl
                              refine take_ (i := 4) (N := some 28) (v := ?_) (a' := ?_) #[true, true, true, true, true, false, false] rfl rfl (by kernel_rfl) (fun _ _ _ h => h) (Or.inl ⟨by rfl, ?_⟩) hHeld ?_ ?_
                              rotate_left
                              · rintro w' ⟨s0, s1, s2⟩
                                go_simp
                                with_reducible rfl
                              rotate_left
                              · simp only [Act.put, List.setIfInBounds_toArray, List.set_cons_zero, List.set_cons_succ, i64_w, i32_w]
                                rfl
                              refine one_ (i := 5) (N := some 29) #[true, true, true, true, true, true, false] rfl rfl (by kernel_rfl) (by decide) (fun K hK => ?_)
                              refine goes_ Try.func8 (by kernel_rfl) rfl #[.agg #[.slice Ao48 x147000_2.length co48, .bool x147001_2], .int .u32 (rd l0 x6_2)] (by rfl) rfl rfl (by (try simp only [List.map_toArray, List.map_cons, List.map_nil]); first | done | rfl | (simp only [List.length_drop, List.length_take]; rfl)) ?_
                              with_reducible refine (delta_Note.calls k2 _ _ x147000_2 x147001_2 (rd l0 x6_2) t148 t151 _ ?side1 ?side2 A11.out).mono ?_
                              (case side1 => repeat (first | exact (Kd.R_reads' HO_147000.out).2.2 | (with_reducible refine Kd.C_alloc ?_ _) | (with_reducible refine Kd.C_drewN ?_ _) | (with_reducible refine Kd.C_drew ?_)))
                              (case side2 => exact (Kd.R_reads' HO_147000.out).2.1)
                              rintro e w49 ⟨v149, rfl, ho0, hb⟩
                              refine ⟨_, rfl, ?_⟩
                              have n0_ := Aside0.mk (Kd.R_elder' (by (with_reducible repeat (first | apply Kd.R_alloc | apply Kd.R_drewN | apply Kd.R_drew)); exact HO_5.out) (Kd.R_base ho0) hb)
                              have n1_ := Aside0.mk (Kd.R_elder' (by (with_reducible repeat (first | apply Kd.R_alloc | apply Kd.R_drewN | apply Kd.R_drew)); exact HO_147000.out) (Kd.R_base ho0) hb)
                              have n2_ := Aside0.mk (Kd.R_lower (Kd.R_new' (Kd.R_new' ho0 (Kd.R_lt (by (with_reducible repeat (first | apply Kd.R_alloc | apply Kd.R_drewN | apply Kd.R_drew)); exact HO_5.out))) (Kd.R_lt (by (with_reducible repeat (first | apply Kd.R_alloc | apply Kd.R_drewN | apply Kd.R_drew)); exact HO_147000.out))) (below_size (by repeat (first | (with_reducible first | exact HB.out | apply below_alloc | apply pw_below_drewN | apply below_drew1 | refine below_set ?_ GE146.out) | exact HB.out))))
                              have n3_ := Aside0.mk (blk_below (g := gb146) (o := .cells #[.slice Ao48 x147000_2.length co48, .bool x147001_2] 25 (0, 0)) (by (with_reducible repeat (first | refine blk_drewN ?_ _ | refine blk_drew ?_ | refine blk_alloc ?_ _)); exact BK146.out) hb)
                              have n4_ := Aside0.mk (below_step (by repeat (first | (with_reducible first | exact HB.out | apply below_alloc | apply pw_below_drewN | apply below_drew1 | refine below_set ?_ GE146.out) | exact HB.out)) hb)
                              clear HO_5
                              clear HO_147000
                              clear BK146
                              clear HB
                              have HO_5 := n0_
                              have HO_147000 := n1_
                              have HO150 := n2_
                              have BK146 := n3_
                              have HB := n4_
                              clear n0_ n1_ n2_ n3_ n4_
                              (try clear hb)
                              (try clear hb2)
                              (try clear hk)
                              (try clear hi)
                              (try clear ho0)
                              obtain ⟨Ao50, co50, eo50⟩ := Kd.R_slice HO150.out
                              (first | subst eo50 | (injection eo50 with f1_ f2_ f3_; have f4_ := f1_.symm; have f5_ := f3_.symm; clear f1_ f2_ f3_; subst f4_; subst f5_))
                              refine hK.out _ _ ⟨(blk_cell BK146.out 0).trans rfl, (blk_cell BK146.out 1).trans rfl, ((HB.out.cell (World.block_lt_of_cell? w _ hw147_0)).trans hw147_0)⟩ (fun hHeld => ?_)
                              clear hK K
                              refine norm_ (a' := ?_) ?_ ?_
                              rotate_left
                              · show Act.put _ (some 29) _ = _
                                simp only [Act.put, List.setIfInBounds_toArray, List.set_cons_zero, List.set_cons_succ, i64_w, i32_w]
                                rfl
                              refine last_ (i := 6) (N := none) #[true, true, true, true, true, true, true] rfl rfl (by kernel_rfl) (by decide) (fun K hK => ?_)
                              have hs51 : w49.cell? ⟨gb146, 0, none⟩ = some (.slice Ao48 x147000_2.length co48) := (blk_cell BK146.out 0).trans rfl
                              have hfs51 := blk_frozen BK146.out 0
                              have hs52 : w49.cell? ⟨gb146, 1, none⟩ = some (.bool x147001_2) := (blk_cell BK146.out 1).trans rfl
                              have hfs52 := blk_frozen BK146.out 1
                              refine skip_ (w1 := ?_) (by rfl) rfl ?_ ?_
                              rotate_left
                              · go_simp
                                rfl
                              refine hK.out _ _ ?_
                              clear hK K
                              refine done_ (by kernel_rfl) ?_
                              have p152 : 0 ≤ (x6_2 : Int) := of_decide_eq_true (by first | (with_reducible assumption) | assumption)
                              have q152 : x6_2 < (l0.length : Int) := of_decide_eq_true (by first | (with_reducible assumption) | assumption)
                              obtain ⟨ad152, e152, hx152_0⟩ := Kd.at_int HR0.out x6_2 p152 q152
                              obtain rfl : ad147 = ad152 := (by injection e152)
                              have hn152_0 : ad147.block ≠ gb146 := Nat.ne_of_lt (Nat.lt_of_lt_of_le (by have := World.block_lt_of_cell? _ _ hx152_0; first | rwa [add_block] at this | exact this) GW146.out)
                              have hn152_1 : ad147.block ≠ gb146 := Nat.ne_of_lt (Nat.lt_of_lt_of_le (by have := World.block_lt_of_cell? _ _ hx152_0; first | rwa [add_block] at this | exact this) GW146.out)
                              replace hx152_0 := (HB.out.cell (World.block_lt_of_cell? w _ hx152_0)).trans hx152_0
                              replace hx152_0 := (cell_far (p := ⟨gb146, 0, none⟩) (by first | (rw [add_block]; exact hn152_0) | (show (Addr.add _ _).block ≠ _; rw [add_block]; exact hn152_0) | exact hn152_0) (.slice Ao50 t148.length co50)).trans hx152_0
                              replace hx152_0 := (cell_far (p := ⟨gb146, 1, none⟩) (by first | (rw [add_block]; exact hn152_1) | (show (Addr.add _ _).block ≠ _; rw [add_block]; exact hn152_1) | exact hn152_1) (.bool t151)).trans hx152_0
                              clear hn152_0
                              clear hn152_1
                              replace p152 := eq_true p152
                              replace q152 := eq_true q152
                              obtain ⟨Ao53, co53, eo53⟩ := Kd.R_slice HO_5.out
                              subst eo53
                              try go_wp2_with (first | ((with_reducible refine gate_callee (f := 9) rfl ?_); refine goesL_ (some 35) rfl rfl Try.func9 (by kernel_rfl) rfl #[.slice Ao53 x5_2.length co53, .int .u32 (rd l0 x6_2)] rfl (by (try simp only [List.map_toArray, List.map_cons, List.map_nil]); first | done | rfl | (simp only [List.length_drop, List.length_take]; rfl)) ?_; (with_reducible refine (drydockref19_Has.calls k2 _ _ x5_2 (rd l0 x6_2) false _ ?side1 ?side2 A12.out).mono ?_); (case side1 => refine (Kd.R_reads' (e := 27) (base := w.heap.size) (ok := fun k_ => (some k_ ≠ (.slice Ao48 x147000_2.length co48 : Value).ownBlock ∧ some k_ ≠ (.slice Ao50 t148.length co50 : Value).ownBlock)) (n := x5_2.length) (c := co53) ?_).2.2; exact (by (with_reducible repeat (first | apply Kd.R_alloc | apply Kd.R_drewN | apply Kd.R_drew)); exact (Kd.R_mono (Kd.R_far (p := ⟨gb146, 1, none⟩) (Kd.R_far (p := ⟨gb146, 0, none⟩) (Kd.R_types HO_5.out BK146.out (by decide)) (fun _ hk => hk.2) (.slice Ao50 t148.length co50)) (fun _ hk => hk.2) (.bool t151)) (fun _ h_ => h_.1)))); (case side2 => exact (Kd.R_reads' HO_5.out).2.1); rintro e w' ⟨rfl, ⟨nd, rfl⟩⟩; refine ⟨_, rfl, ?_⟩; have p155 : 0 ≤ (x6_2 : Int) := of_decide_eq_true (by first | (with_reducible assumption) | assumption); have q155 : x6_2 < (l0.length : Int) := of_decide_eq_true (by first | (with_reducible assumption) | assumption); obtain ⟨ad155, e155, hx155_0⟩ := Kd.at_int HR0.out x6_2 p155 q155; obtain rfl : ad147 = ad155 := (by injection e155); have hn155_0 : ad147.block ≠ gb146 := Nat.ne_of_lt (Nat.lt_of_lt_of_le (by have := World.block_lt_of_cell? _ _ hx155_0; first | rwa [add_block] at this | exact this) GW146.out); have hn155_1 : ad147.block ≠ gb146 := Nat.ne_of_lt (Nat.lt_of_lt_of_le (by have := World.block_lt_of_cell? _ _ hx155_0; first | rwa [add_block] at this | exact this) GW146.out); replace hx155_0 := (HB.out.cell (World.block_lt_of_cell? w _ hx155_0)).trans hx155_0; replace hx155_0 := (cell_far (p := ⟨gb146, 0, none⟩) (by first | (rw [add_block]; exact hn155_0) | (show (Addr.add _ _).block ≠ _; rw [add_block]; exact hn155_0) | exact hn155_0) (.slice Ao50 t148.length co50)).trans hx155_0; replace hx155_0 := (cell_far (p := ⟨gb146, 1, none⟩) (by first | (rw [add_block]; exact hn155_1) | (show (Addr.add _ _).block ≠ _; rw [add_block]; exact hn155_1) | exact hn155_1) (.bool t151)).trans hx155_0; clear hn155_0; clear hn155_1; replace p155 := eq_true p155; replace q155 := eq_true q155) | ((with_reducible refine gate_builtin (b := .append) (xs := #[.tmp 37, .tmp 42]) rfl ?_); (try (refine gate_guard (by rfl) ?_; dsimp only)); at_builtin; refine Kd.R_append (Kd.int .u32) (w0 := w) w.heap.size rfl (.tmp 37) (.tmp 42) 22 27 (.int .u32 0) 4 rfl Try.underlying22 info27 rfl (by decide) (by omega) (.slice Ao53 x5_2.length co53) x5_2 (rd l0 x6_2) [.int .u32 (rd l0 x6_2)] (fun k_ => some k_ ≠ (.slice Ao48 x147000_2.length co48 : Value).ownBlock ∧ some k_ ≠ (.slice Ao50 t148.length co50 : Value).ownBlock) (fun _ => False) rfl (by first | (go_simp; done) | (go_simp; rfl)) ?aP (fun _ hk => hk.elim) ?aF ?aO ?aB ?aS ?aL ?_; (case aP => exact rfl); (case aB => exact (by repeat (first | (with_reducible first | exact HB.out | apply below_alloc | apply pw_below_drewN | apply below_drew1 | refine below_set ?_ GE146.out) | exact HB.out))); (case aF => exact (fun k_ hk => ⟨Kd.fresh' (Kd.R_lt (by (with_reducible repeat (first | apply Kd.R_alloc | apply Kd.R_drewN | apply Kd.R_drew)); exact (Kd.R_mono (Kd.R_far (p := ⟨gb146, 1, none⟩) (Kd.R_far (p := ⟨gb146, 0, none⟩) (Kd.R_types HO_147000.out BK146.out (by decide)) (fun _ hk => hk.2) (.slice Ao50 t148.length co50)) (fun _ hk => hk.2) (.bool t151)) (fun _ h_ => h_.1)))) k_ hk, Kd.fresh' (Kd.R_lt (by (with_reducible repeat (first | apply Kd.R_alloc | apply Kd.R_drewN | apply Kd.R_drew)); exact (Kd.R_mono (Kd.R_far (p := ⟨gb146, 1, none⟩) (Kd.R_far (p := ⟨gb146, 0, none⟩) (Kd.R_types HO150.out BK146.out (by decide)) (fun _ hk => hk.2) (.slice Ao50 t148.length co50)) (fun _ hk => hk.2) (.bool t151)) (fun _ h_ => h_.1)))) k_ hk⟩)); (case aO => exact (by (with_reducible repeat (first | apply Kd.R_alloc | apply Kd.R_drewN | apply Kd.R_drew)); exact Kd.R_mono (Kd.R_far (p := ⟨gb146, 1, none⟩) (Kd.R_far (p := ⟨gb146, 0, none⟩) (Kd.R_types HO_5.out BK146.out (by decide)) (fun _ hk => hk.2) (.slice Ao50 t148.length co50)) (fun _ hk => hk.2) (.bool t151)) (fun _ hk => ⟨hk.1.1, hk.1.2⟩))); (case aS => exact (below_size (by repeat (first | (with_reducible first | exact HB.out | apply below_alloc | apply pw_below_drewN | apply below_drew1 | refine below_set ?_ GE146.out) | exact HB.out)))); (case aL => have := LMc40.out; omega); intro v157 w54 ho hb hg hat; rw [← Ny156.out] at ho; have n0_ := Aside0.mk (Kd.R_after (ok := (fun k_ => some k_ ≠ (.slice Ao50 t148.length co50 : Value).ownBlock)) (by (with_reducible repeat (first | apply Kd.R_alloc | apply Kd.R_drewN | apply Kd.R_drew)); exact Kd.R_mono (Kd.R_far (p := ⟨gb146, 1, none⟩) (Kd.R_far (p := ⟨gb146, 0, none⟩) (Kd.R_types HO_147000.out BK146.out (by decide)) (fun _ hk => hk.2) (.slice Ao50 t148.length co50)) (fun _ hk => hk.2) (.bool t151)) (fun _ hk => ⟨hk.1.2, hk.1.1⟩)) hg hat); have n1_ := Aside0.mk (blk_grown (g := gb146) (o := .cells #[.slice Ao50 t148.length co50, .bool t151] 25 (0, 0)) (by (with_reducible repeat (first | refine blk_drewN ?_ _ | refine blk_drew ?_ | refine blk_alloc ?_ _)); refine blk_put (cs := #[.slice Ao50 t148.length co50, .bool x147001_2]) ?_ 1 _ rfl; (with_reducible repeat (first | refine blk_drewN ?_ _ | refine blk_drew ?_ | refine blk_alloc ?_ _)); refine blk_put (cs := #[.slice Ao48 x147000_2.length co48, .bool x147001_2]) ?_ 0 _ rfl; (with_reducible repeat (first | refine blk_drewN ?_ _ | refine blk_drew ?_ | refine blk_alloc ?_ _)); exact BK146.out) hg (Kd.R_ne HO_5.out BK146.out (by decide))); have n2_ := Aside0.mk (Kd.R_after (ok := (fun k_ => some k_ ≠ (.slice Ao48 x147000_2.length co48 : Value).ownBlock)) (by (with_reducible repeat (first | apply Kd.R_alloc | apply Kd.R_drewN | apply Kd.R_drew)); exact Kd.R_mono (Kd.R_far (p := ⟨gb146, 1, none⟩) (Kd.R_far (p := ⟨gb146, 0, none⟩) (Kd.R_types HO150.out BK146.out (by decide)) (fun _ hk => hk.2) (.slice Ao50 t148.length co50)) (fun _ hk => hk.2) (.bool t151)) (fun _ hk => ⟨hk.1.2, hk.1.1.2⟩)) hg hat); have n3_ := Aside0.mk (hb); have n4_ := Aside0.mk (ho); clear HO_147000; clear BK146; clear HO150; clear HB; clear HO_5; have HO_147000 := n0_; have BK146 := n1_; have HO150 := n2_; have HB := n3_; have HO158 := n4_; clear n0_ n1_ n2_ n3_ n4_; clear ho hb hg hat; have hcz55_0 : w54.cell? ⟨gb146, 0, none⟩ = some (.slice Ao50 t148.length co50) := (blk_cell BK146.out 0).trans rfl; have hcz55_1 : w54.cell? ⟨gb146, 1, none⟩ = some (.bool t151) := (blk_cell BK146.out 1).trans rfl; have hfz55_0 := blk_frozen BK146.out 0; have hfz55_1 := blk_frozen BK146.out 1) | ((with_reducible refine gate_callee (f := 10) rfl ?_); refine goesL_ (some 45) rfl rfl Try.func10 (by kernel_rfl) rfl #[.agg #[.slice Ao50 t148.length co50, .bool t151]] rfl (by (try simp only [List.map_toArray, List.map_cons, List.map_nil]); first | done | rfl | (simp only [List.length_drop, List.length_take]; rfl)) ?_; (with_reducible refine (delta_May.calls k2 _ _ t148 t151 true _ ?side1 ?side2 A41.out).mono ?_); (case side1 => repeat (first | exact (Kd.R_reads' HO150.out).2.2 | (with_reducible refine Kd.C_alloc ?_ _) | (with_reducible refine Kd.C_drewN ?_ _) | (with_reducible refine Kd.C_drew ?_))); (case side2 => exact (Kd.R_reads' HO150.out).2.1); rintro e w56 ⟨rfl, hb⟩; refine ⟨_, rfl, ?_⟩; have n0_ := Aside0.mk (Kd.R_below (by (with_reducible repeat (first | apply Kd.R_alloc | apply Kd.R_drewN | apply Kd.R_drew)); exact HO_147000.out) hb); have n1_ := Aside0.mk (Kd.R_below (by (with_reducible repeat (first | apply Kd.R_alloc | apply Kd.R_drewN | apply Kd.R_drew)); exact HO150.out) hb); have n2_ := Aside0.mk (Kd.R_below (by (with_reducible repeat (first | apply Kd.R_alloc | apply Kd.R_drewN | apply Kd.R_drew)); exact HO158.out) hb); have n3_ := Aside0.mk (blk_below (g := gb146) (o := .cells #[.slice Ao50 t148.length co50, .bool t151] 25 (0, 0)) (by (with_reducible repeat (first | refine blk_drewN ?_ _ | refine blk_drew ?_ | refine blk_alloc ?_ _)); exact BK146.out) hb); have n4_ := Aside0.mk (below_step (by repeat (first | (with_reducible first | exact HB.out | apply below_alloc | apply pw_below_drewN | apply below_drew1 | refine below_set ?_ GE146.out) | exact HB.out)) hb); clear HO_147000; clear HO150; clear HO158; clear BK146; clear HB; have HO_147000 := n0_; have HO150 := n1_; have HO158 := n2_; have BK146 := n3_; have HB := n4_; clear n0_ n1_ n2_ n3_ n4_; (try clear hb); (try clear hb2); (try clear hk); (try clear hi); have hcz57_0 : w56.cell? ⟨gb146, 0, none⟩ = some (.slice Ao50 t148.length co50) := (blk_cell BK146.out 0).trans rfl; have hcz57_1 : w56.cell? ⟨gb146, 1, none⟩ = some (.bool t151) := (blk_cell BK146.out 1).trans rfl; have hfz57_0 := blk_frozen BK146.out 0; have hfz57_1 := blk_frozen BK146.out 1; obtain ⟨Ao58, co58, eo58⟩ := Kd.R_slice HO158.out; subst eo58))
                              go_roundg k2
                              case measure => have := HJ2.out; have := HK2.out; omega
                              case rel => exact ⟨(y156), (wrap64 (x6_2 + 1)), (t148), (t151), (.slice Ao50 t148.length co50), (by first | rfl | (simp; done) | (simp [*]; done)), H', ⟨by have := HJ2.out; have := HK2.out; omega⟩, ⟨by (with_reducible repeat (first | apply Kd.R_alloc | apply Kd.R_drewN | apply Kd.R_drew)); exact Kd.R_mono HO158.out (fun _ hk => hk.2)⟩, ⟨by (with_reducible repeat (first | apply Kd.R_alloc | apply Kd.R_drewN | apply Kd.R_drew)); exact Kd.R_mono HO150.out (fun _ hk => hk.2)⟩, ⟨by (with_reducible repeat (first | refine blk_drewN ?_ _ | refine blk_drew ?_ | refine blk_alloc ?_ _)); exact BK146.out⟩, ⟨by repeat (first | (with_reducible first | exact HB.out | apply below_alloc | apply pw_below_drewN | apply below_drew1 | refine below_set ?_ GE146.out) | exact HB.out)⟩⟩
                            · rw [if_neg c46] at H
                              exact absurd H (by simp)
                          · rw [if_neg c45] at H
                            have c45b0 : decide ((y156.length : Int) ≤ 8) = false := decide_eq_false c45
                            have c45b1 : decide (y156.length ≤ 8) = false := decide_eq_false (by omega)
                            clear c45
                            have H' := Aside0.mk H
                            clear H
                            try go_wp2
                            have n0_ := Aside0.mk (Kd.R_drew HO_5.out)
                            have n1_ := Aside0.mk (Kd.R_drew HO_147000.out)
                            have n2_ := Aside0.mk (blk_drew BK146.out)
                            have n3_ := Aside0.mk (below_drew1 HB.out)
                            clear HO_5
                            clear HO_147000
                            clear BK146
                            clear HB
                            have HO_5 := n0_
                            have HO_147000 := n1_
                            have BK146 := n2_
                            have HB := n3_
                            clear n0_ n1_ n2_ n3_
                            have p147 : 0 ≤ (x6_2 : Int) := of_decide_eq_true (by first | (with_reducible assumption) | assumption)
                            have q147 : x6_2 < (l0.length : Int) := of_decide_eq_true (by first | (with_reducible assumption) | assumption)
                            obtain ⟨ad147, e147, hx147_0⟩ := Kd.at_int HR0.out x6_2 p147 q147
                            have hw147_0 := hx147_0
                            cases e147
                            replace hx147_0 := (HB.out.cell (World.block_lt_of_cell? w _ hx147_0)).trans hx147_0
                            replace p147 := eq_true p147
                            replace q147 := eq_true q147
                            obtain ⟨Ao60, co60, eo60⟩ := Kd.R_slice HO_147000.out
                            (first | subst eo60 | (injection eo60 with f1_ f2_ f3_; have f4_ := f1_.symm; have f5_ := f3_.symm; clear f1_ f2_ f3_; subst f4_; subst f5_))
                            refine start_ (n := 7) (S := fun w' => w'.cell? ⟨gb146, 0, none⟩ = some (.slice Ao60 x147000_2.length co60) ∧ w'.cell? ⟨gb146, 1, none⟩ = some (.bool x147001_2) ∧ w'.cell? (ad147.add (x6_2).toNat) = some (.int .u32 (rd l0 x6_2))) (ds := [6]) #[false, false, false, false, false, false, false] (by kernel_rfl) rfl rfl ⟨(blk_cell BK146.out 0).trans rfl, (blk_cell BK146.out 1).trans rfl, ((HB.out.cell (World.block_lt_of_cell? w _ hw147_0)).trans hw147_0)⟩ (fun hHeld => ?_)
                            generalize wr.drew = w59 at HO_5 HO_147000 BK146 HB hx147_0 hHeld ⊢
                            refine pure_ (i := 1) (N := some 25) (v := ?_) (a' := ?_) #[false, true, false, false, false, false, false] rfl rfl (by kernel_rfl) (fun _ _ _ h => h) (Or.inl ⟨by rfl, ?_⟩) ?_ ?_
                            rotate_left
                            · intro w'
                              go_simp
                              with_reducible rfl
                            rotate_left
                            · simp only [Act.put, List.setIfInBounds_toArray, List.set_cons_zero, List.set_cons_succ, i64_w, i32_w]
                              rfl
                            refine pure_ (i := 2) (N := some 26) (v := ?_) (a' := ?_) #[false, true, true, false, false, false, false] rfl rfl (by kernel_rfl) (fun _ _ _ h => h) (Or.inl ⟨by rfl, ?_⟩) ?_ ?_
                            rotate_left
                            · intro w'
                              go_simp
                              with_reducible rfl
                            rotate_left
                            · simp only [Act.put, List.setIfInBounds_toArray, List.set_cons_zero, List.set_cons_succ, i64_w, i32_w]
                              rfl
                            refine pure_ (i := 3) (N := some 27) (v := ?_) (a' := ?_) #[false, true, true, true, false, false, false] rfl rfl (by kernel_rfl) (fun _ _ _ h => h) (Or.inl ⟨by rfl, ?_⟩) ?_ ?_
                            rotate_left
                            · intro w'
                              go_simp
                              with_reducible rfl
                            rotate_left
                            · simp only [Act.put, List.setIfInBounds_toArray, List.set_cons_zero, List.set_cons_succ, i64_w, i32_w]
                              rfl
                            refine take_ (i := 0) (N := some 24) (v := ?_) (a' := ?_) #[true, true, true, true, false, false, false] rfl rfl (by kernel_rfl) (fun _ _ _ h => h) (Or.inl ⟨by rfl, ?_⟩) hHeld ?_ ?_
                            rotate_left
                            · rintro w' ⟨s0, s1, s2⟩
                              go_simp
                              with_reducible rfl
                            rotate_left
                            · simp only [Act.put, List.setIfInBounds_toArray, List.set_cons_zero, List.set_cons_succ, i64_w, i32_w]
                              rfl
                            refine take_ (i := 4) (N := some 28) (v := ?_) (a' := ?_) #[true, true, true, true, true, false, false] rfl rfl (by kernel_rfl) (fun _ _ _ h => h) (Or.inl ⟨by rfl, ?_⟩) hHeld ?_ ?_
                            rotate_left
                            · rintro w' ⟨s0, s1, s2⟩
                              go_simp
                              with_reducible rfl
                            rotate_left
                            · simp only [Act.put, List.setIfInBounds_toArray, List.set_cons_zero, List.set_cons_succ, i64_w, i32_w]
                              rfl
                            refine one_ (i := 5) (N := some 29) #[true, true, true, true, true, true, false] rfl rfl (by kernel_rfl) (by decide) (fun K hK => ?_)
                            refine goes_ Try.func8 (by kernel_rfl) rfl #[.agg #[.slice Ao60 x147000_2.length co60, .bool x147001_2], .int .u32 (rd l0 x6_2)] (by rfl) rfl rfl (by (try simp only [List.map_toArray, List.map_cons, List.map_nil]); first | done | rfl | (simp only [List.length_drop, List.length_take]; rfl)) ?_
                            with_reducible refine (delta_Note.calls k2 _ _ x147000_2 x147001_2 (rd l0 x6_2) t148 t151 _ ?side1 ?side2 A11.out).mono ?_
                            (case side1 => repeat (first | exact (Kd.R_reads' HO_147000.out).2.2 | (with_reducible refine Kd.C_alloc ?_ _) | (with_reducible refine Kd.C_drewN ?_ _) | (with_reducible refine Kd.C_drew ?_)))
                            (case side2 => exact (Kd.R_reads' HO_147000.out).2.1)
                            rintro e w61 ⟨v149, rfl, ho0, hb⟩
                            refine ⟨_, rfl, ?_⟩
                            have n0_ := Aside0.mk (Kd.R_elder' (by (with_reducible repeat (first | apply Kd.R_alloc | apply Kd.R_drewN | apply Kd.R_drew)); exact HO_5.out) (Kd.R_base ho0) hb)
                            have n1_ := Aside0.mk (Kd.R_elder' (by (with_reducible repeat (first | apply Kd.R_alloc | apply Kd.R_drewN | apply Kd.R_drew)); exact HO_147000.out) (Kd.R_base ho0) hb)
                            have n2_ := Aside0.mk (Kd.R_lower (Kd.R_new' (Kd.R_new' ho0 (Kd.R_lt (by (with_reducible repeat (first | apply Kd.R_alloc | apply Kd.R_drewN | apply Kd.R_drew)); exact HO_5.out))) (Kd.R_lt (by (with_reducible repeat (first | apply Kd.R_alloc | apply Kd.R_drewN | apply Kd.R_drew)); exact HO_147000.out))) (below_size (by repeat (first | (with_reducible first | exact HB.out | apply below_alloc | apply pw_below_drewN | apply below_drew1 | refine below_set ?_ GE146.out) | exact HB.out))))
                            have n3_ := Aside0.mk (blk_below (g := gb146) (o := .cells #[.slice Ao60 x147000_2.length co60, .bool x147001_2] 25 (0, 0)) (by (with_reducible repeat (first | refine blk_drewN ?_ _ | refine blk_drew ?_ | refine blk_alloc ?_ _)); exact BK146.out) hb)
                            have n4_ := Aside0.mk (below_step (by repeat (first | (with_reducible first | exact HB.out | apply below_alloc | apply pw_below_drewN | apply below_drew1 | refine below_set ?_ GE146.out) | exact HB.out)) hb)
                            clear HO_5
                            clear HO_147000
                            clear BK146
                            clear HB
                            have HO_5 := n0_
                            have HO_147000 := n1_
                            have HO150 := n2_
                            have BK146 := n3_
                            have HB := n4_
                            clear n0_ n1_ n2_ n3_ n4_
                            (try clear hb)
                            (try clear hb2)
                            (try clear hk)
                            (try clear hi)
                            (try clear ho0)
                            obtain ⟨Ao62, co62, eo62⟩ := Kd.R_slice HO150.out
                            (first | subst eo62 | (injection eo62 with f1_ f2_ f3_; have f4_ := f1_.symm; have f5_ := f3_.symm; clear f1_ f2_ f3_; subst f4_; subst f5_))
                            refine hK.out _ _ ⟨(blk_cell BK146.out 0).trans rfl, (blk_cell BK146.out 1).trans rfl, ((HB.out.cell (World.block_lt_of_cell? w _ hw147_0)).trans hw147_0)⟩ (fun hHeld => ?_)
                            clear hK K
                            refine norm_ (a' := ?_) ?_ ?_
                            rotate_left
                            · show Act.put _ (some 29) _ = _
                              simp only [Act.put, List.setIfInBounds_toArray, List.set_cons_zero, List.set_cons_succ, i64_w, i32_w]
                              rfl
                            refine last_ (i := 6) (N := none) #[true, true, true, true, true, true, true] rfl rfl (by kernel_rfl) (by decide) (fun K hK => ?_)
                            have hs63 : w61.cell? ⟨gb146, 0, none⟩ = some (.slice Ao60 x147000_2.length co60) := (blk_cell BK146.out 0).trans rfl
                            have hfs63 := blk_frozen BK146.out 0
                            have hs64 : w61.cell? ⟨gb146, 1, none⟩ = some (.bool x147001_2) := (blk_cell BK146.out 1).trans rfl
                            have hfs64 := blk_frozen BK146.out 1
                            refine skip_ (w1 := ?_) (by rfl) rfl ?_ ?_
                            rotate_left
                            · go_simp
                              rfl
                            refine hK.out _ _ ?_
                            clear hK K
                            refine done_ (by kernel_rfl) ?_
                            have p152 : 0 ≤ (x6_2 : Int) := of_decide_eq_true (by first | (with_reducible assumption) | assumption)
                            have q152 : x6_2 < (l0.length : Int) := of_decide_eq_true (by first | (with_reducible assumption) | assumption)
                            obtain ⟨ad152, e152, hx152_0⟩ := Kd.at_int HR0.out x6_2 p152 q152
                            obtain rfl : ad147 = ad152 := (by injection e152)
                            have hn152_0 : ad147.block ≠ gb146 := Nat.ne_of_lt (Nat.lt_of_lt_of_le (by have := World.block_lt_of_cell? _ _ hx152_0; first | rwa [add_block] at this | exact this) GW146.out)
                            have hn152_1 : ad147.block ≠ gb146 := Nat.ne_of_lt (Nat.lt_of_lt_of_le (by have := World.block_lt_of_cell? _ _ hx152_0; first | rwa [add_block] at this | exact this) GW146.out)
                            replace hx152_0 := (HB.out.cell (World.block_lt_of_cell? w _ hx152_0)).trans hx152_0
                            replace hx152_0 := (cell_far (p := ⟨gb146, 0, none⟩) (by first | (rw [add_block]; exact hn152_0) | (show (Addr.add _ _).block ≠ _; rw [add_block]; exact hn152_0) | exact hn152_0) (.slice Ao62 t148.length co62)).trans hx152_0
                            replace hx152_0 := (cell_far (p := ⟨gb146, 1, none⟩) (by first | (rw [add_block]; exact hn152_1) | (show (Addr.add _ _).block ≠ _; rw [add_block]; exact hn152_1) | exact hn152_1) (.bool t151)).trans hx152_0
                            clear hn152_0
                            clear hn152_1
                            replace p152 := eq_true p152
                            replace q152 := eq_true q152
                            obtain ⟨Ao65, co65, eo65⟩ := Kd.R_slice HO_5.out
                            subst eo65
                            try go_wp2_with (first | ((with_reducible refine gate_callee (f := 9) rfl ?_); refine goesL_ (some 35) rfl rfl Try.func9 (by kernel_rfl) rfl #[.slice Ao65 x5_2.length co65, .int .u32 (rd l0 x6_2)] rfl (by (try simp only [List.map_toArray, List.map_cons, List.map_nil]); first | done | rfl | (simp only [List.length_drop, List.length_take]; rfl)) ?_; (with_reducible refine (drydockref19_Has.calls k2 _ _ x5_2 (rd l0 x6_2) false _ ?side1 ?side2 A12.out).mono ?_); (case side1 => refine (Kd.R_reads' (e := 27) (base := w.heap.size) (ok := fun k_ => (some k_ ≠ (.slice Ao60 x147000_2.length co60 : Value).ownBlock ∧ some k_ ≠ (.slice Ao62 t148.length co62 : Value).ownBlock)) (n := x5_2.length) (c := co65) ?_).2.2; exact (by (with_reducible repeat (first | apply Kd.R_alloc | apply Kd.R_drewN | apply Kd.R_drew)); exact (Kd.R_mono (Kd.R_far (p := ⟨gb146, 1, none⟩) (Kd.R_far (p := ⟨gb146, 0, none⟩) (Kd.R_types HO_5.out BK146.out (by decide)) (fun _ hk => hk.2) (.slice Ao62 t148.length co62)) (fun _ hk => hk.2) (.bool t151)) (fun _ h_ => h_.1)))); (case side2 => exact (Kd.R_reads' HO_5.out).2.1); rintro e w' ⟨rfl, ⟨nd, rfl⟩⟩; refine ⟨_, rfl, ?_⟩; have p155 : 0 ≤ (x6_2 : Int) := of_decide_eq_true (by first | (with_reducible assumption) | assumption); have q155 : x6_2 < (l0.length : Int) := of_decide_eq_true (by first | (with_reducible assumption) | assumption); obtain ⟨ad155, e155, hx155_0⟩ := Kd.at_int HR0.out x6_2 p155 q155; obtain rfl : ad147 = ad155 := (by injection e155); have hn155_0 : ad147.block ≠ gb146 := Nat.ne_of_lt (Nat.lt_of_lt_of_le (by have := World.block_lt_of_cell? _ _ hx155_0; first | rwa [add_block] at this | exact this) GW146.out); have hn155_1 : ad147.block ≠ gb146 := Nat.ne_of_lt (Nat.lt_of_lt_of_le (by have := World.block_lt_of_cell? _ _ hx155_0; first | rwa [add_block] at this | exact this) GW146.out); replace hx155_0 := (HB.out.cell (World.block_lt_of_cell? w _ hx155_0)).trans hx155_0; replace hx155_0 := (cell_far (p := ⟨gb146, 0, none⟩) (by first | (rw [add_block]; exact hn155_0) | (show (Addr.add _ _).block ≠ _; rw [add_block]; exact hn155_0) | exact hn155_0) (.slice Ao62 t148.length co62)).trans hx155_0; replace hx155_0 := (cell_far (p := ⟨gb146, 1, none⟩) (by first | (rw [add_block]; exact hn155_1) | (show (Addr.add _ _).block ≠ _; rw [add_block]; exact hn155_1) | exact hn155_1) (.bool t151)).trans hx155_0; clear hn155_0; clear hn155_1; replace p155 := eq_true p155; replace q155 := eq_true q155) | ((with_reducible refine gate_builtin (b := .append) (xs := #[.tmp 37, .tmp 42]) rfl ?_); (try (refine gate_guard (by rfl) ?_; dsimp only)); at_builtin; refine Kd.R_append (Kd.int .u32) (w0 := w) w.heap.size rfl (.tmp 37) (.tmp 42) 22 27 (.int .u32 0) 4 rfl Try.underlying22 info27 rfl (by decide) (by omega) (.slice Ao65 x5_2.length co65) x5_2 (rd l0 x6_2) [.int .u32 (rd l0 x6_2)] (fun k_ => some k_ ≠ (.slice Ao60 x147000_2.length co60 : Value).ownBlock ∧ some k_ ≠ (.slice Ao62 t148.length co62 : Value).ownBlock) (fun _ => False) rfl (by first | (go_simp; done) | (go_simp; rfl)) ?aP (fun _ hk => hk.elim) ?aF ?aO ?aB ?aS ?aL ?_; (case aP => exact rfl); (case aB => exact (by repeat (first | (with_reducible first | exact HB.out | apply below_alloc | apply pw_below_drewN | apply below_drew1 | refine below_set ?_ GE146.out) | exact HB.out))); (case aF => exact (fun k_ hk => ⟨Kd.fresh' (Kd.R_lt (by (with_reducible repeat (first | apply Kd.R_alloc | apply Kd.R_drewN | apply Kd.R_drew)); exact (Kd.R_mono (Kd.R_far (p := ⟨gb146, 1, none⟩) (Kd.R_far (p := ⟨gb146, 0, none⟩) (Kd.R_types HO_147000.out BK146.out (by decide)) (fun _ hk => hk.2) (.slice Ao62 t148.length co62)) (fun _ hk => hk.2) (.bool t151)) (fun _ h_ => h_.1)))) k_ hk, Kd.fresh' (Kd.R_lt (by (with_reducible repeat (first | apply Kd.R_alloc | apply Kd.R_drewN | apply Kd.R_drew)); exact (Kd.R_mono (Kd.R_far (p := ⟨gb146, 1, none⟩) (Kd.R_far (p := ⟨gb146, 0, none⟩) (Kd.R_types HO150.out BK146.out (by decide)) (fun _ hk => hk.2) (.slice Ao62 t148.length co62)) (fun _ hk => hk.2) (.bool t151)) (fun _ h_ => h_.1)))) k_ hk⟩)); (case aO => exact (by (with_reducible repeat (first | apply Kd.R_alloc | apply Kd.R_drewN | apply Kd.R_drew)); exact Kd.R_mono (Kd.R_far (p := ⟨gb146, 1, none⟩) (Kd.R_far (p := ⟨gb146, 0, none⟩) (Kd.R_types HO_5.out BK146.out (by decide)) (fun _ hk => hk.2) (.slice Ao62 t148.length co62)) (fun _ hk => hk.2) (.bool t151)) (fun _ hk => ⟨hk.1.1, hk.1.2⟩))); (case aS => exact (below_size (by repeat (first | (with_reducible first | exact HB.out | apply below_alloc | apply pw_below_drewN | apply below_drew1 | refine below_set ?_ GE146.out) | exact HB.out)))); (case aL => have := LMc40.out; omega); intro v157 w66 ho hb hg hat; rw [← Ny156.out] at ho; have n0_ := Aside0.mk (Kd.R_after (ok := (fun k_ => some k_ ≠ (.slice Ao62 t148.length co62 : Value).ownBlock)) (by (with_reducible repeat (first | apply Kd.R_alloc | apply Kd.R_drewN | apply Kd.R_drew)); exact Kd.R_mono (Kd.R_far (p := ⟨gb146, 1, none⟩) (Kd.R_far (p := ⟨gb146, 0, none⟩) (Kd.R_types HO_147000.out BK146.out (by decide)) (fun _ hk => hk.2) (.slice Ao62 t148.length co62)) (fun _ hk => hk.2) (.bool t151)) (fun _ hk => ⟨hk.1.2, hk.1.1⟩)) hg hat); have n1_ := Aside0.mk (blk_grown (g := gb146) (o := .cells #[.slice Ao62 t148.length co62, .bool t151] 25 (0, 0)) (by (with_reducible repeat (first | refine blk_drewN ?_ _ | refine blk_drew ?_ | refine blk_alloc ?_ _)); refine blk_put (cs := #[.slice Ao62 t148.length co62, .bool x147001_2]) ?_ 1 _ rfl; (with_reducible repeat (first | refine blk_drewN ?_ _ | refine blk_drew ?_ | refine blk_alloc ?_ _)); refine blk_put (cs := #[.slice Ao60 x147000_2.length co60, .bool x147001_2]) ?_ 0 _ rfl; (with_reducible repeat (first | refine blk_drewN ?_ _ | refine blk_drew ?_ | refine blk_alloc ?_ _)); exact BK146.out) hg (Kd.R_ne HO_5.out BK146.out (by decide))); have n2_ := Aside0.mk (Kd.R_after (ok := (fun k_ => some k_ ≠ (.slice Ao60 x147000_2.length co60 : Value).ownBlock)) (by (with_reducible repeat (first | apply Kd.R_alloc | apply Kd.R_drewN | apply Kd.R_drew)); exact Kd.R_mono (Kd.R_far (p := ⟨gb146, 1, none⟩) (Kd.R_far (p := ⟨gb146, 0, none⟩) (Kd.R_types HO150.out BK146.out (by decide)) (fun _ hk => hk.2) (.slice Ao62 t148.length co62)) (fun _ hk => hk.2) (.bool t151)) (fun _ hk => ⟨hk.1.2, hk.1.1.2⟩)) hg hat); have n3_ := Aside0.mk (hb); have n4_ := Aside0.mk (ho); clear HO_147000; clear BK146; clear HO150; clear HB; clear HO_5; have HO_147000 := n0_; have BK146 := n1_; have HO150 := n2_; have HB := n3_; have HO158 := n4_; clear n0_ n1_ n2_ n3_ n4_; clear ho hb hg hat; have hcz67_0 : w66.cell? ⟨gb146, 0, none⟩ = some (.slice Ao62 t148.length co62) := (blk_cell BK146.out 0).trans rfl; have hcz67_1 : w66.cell? ⟨gb146, 1, none⟩ = some (.bool t151) := (blk_cell BK146.out 1).trans rfl; have hfz67_0 := blk_frozen BK146.out 0; have hfz67_1 := blk_frozen BK146.out 1) | ((with_reducible refine gate_callee (f := 10) rfl ?_); refine goesL_ (some 45) rfl rfl Try.func10 (by kernel_rfl) rfl #[.agg #[.slice Ao62 t148.length co62, .bool t151]] rfl (by (try simp only [List.map_toArray, List.map_cons, List.map_nil]); first | done | rfl | (simp only [List.length_drop, List.length_take]; rfl)) ?_; (with_reducible refine (delta_May.calls k2 _ _ t148 t151 true _ ?side1 ?side2 A41.out).mono ?_); (case side1 => repeat (first | exact (Kd.R_reads' HO150.out).2.2 | (with_reducible refine Kd.C_alloc ?_ _) | (with_reducible refine Kd.C_drewN ?_ _) | (with_reducible refine Kd.C_drew ?_))); (case side2 => exact (Kd.R_reads' HO150.out).2.1); rintro e w68 ⟨rfl, hb⟩; refine ⟨_, rfl, ?_⟩; have n0_ := Aside0.mk (Kd.R_below (by (with_reducible repeat (first | apply Kd.R_alloc | apply Kd.R_drewN | apply Kd.R_drew)); exact HO_147000.out) hb); have n1_ := Aside0.mk (Kd.R_below (by (with_reducible repeat (first | apply Kd.R_alloc | apply Kd.R_drewN | apply Kd.R_drew)); exact HO150.out) hb); have n2_ := Aside0.mk (Kd.R_below (by (with_reducible repeat (first | apply Kd.R_alloc | apply Kd.R_drewN | apply Kd.R_drew)); exact HO158.out) hb); have n3_ := Aside0.mk (blk_below (g := gb146) (o := .cells #[.slice Ao62 t148.length co62, .bool t151] 25 (0, 0)) (by (with_reducible repeat (first | refine blk_drewN ?_ _ | refine blk_drew ?_ | refine blk_alloc ?_ _)); exact BK146.out) hb); have n4_ := Aside0.mk (below_step (by repeat (first | (with_reducible first | exact HB.out | apply below_alloc | apply pw_below_drewN | apply below_drew1 | refine below_set ?_ GE146.out) | exact HB.out)) hb); clear HO_147000; clear HO150; clear HO158; clear BK146; clear HB; have HO_147000 := n0_; have HO150 := n1_; have HO158 := n2_; have BK146 := n3_; have HB := n4_; clear n0_ n1_ n2_ n3_ n4_; (try clear hb); (try clear hb2); (try clear hk); (try clear hi); have hcz69_0 : w68.cell? ⟨gb146, 0, none⟩ = some (.slice Ao62 t148.length co62) := (blk_cell BK146.out 0).trans rfl; have hcz69_1 : w68.cell? ⟨gb146, 1, none⟩ = some (.bool t151) := (blk_cell BK146.out 1).trans rfl; have hfz69_0 := blk_frozen BK146.out 0; have hfz69_1 := blk_frozen BK146.out 1; obtain ⟨Ao70, co70, eo70⟩ := Kd.R_slice HO158.out; subst eo70))
                            go_roundg k2
                            case measure => have := HJ2.out; have := HK2.out; omega
                            case rel => exact ⟨(y156), (wrap64 (x6_2 + 1)), (t148), (t151), (.slice Ao62 t148.length co62), (by first | rfl | (simp; done) | (simp [*]; done)), H', ⟨by have := HJ2.out; have := HK2.out; omega⟩, ⟨by (with_reducible repeat (first | apply Kd.R_alloc | apply Kd.R_drewN | apply Kd.R_drew)); exact Kd.R_mono HO158.out (fun _ hk => hk.2)⟩, ⟨by (with_reducible repeat (first | apply Kd.R_alloc | apply Kd.R_drewN | apply Kd.R_drew)); exact Kd.R_mono HO150.out (fun _ hk => hk.2)⟩, ⟨by (with_reducible repeat (first | refine blk_drewN ?_ _ | refine blk_drew ?_ | refine blk_alloc ?_ _)); exact BK146.out⟩, ⟨by repeat (first | (with_reducible first | exact HB.out | apply below_alloc | apply pw_below_drewN | apply below_drew1 | refine below_set ?_ GE146.out) | exact HB.out)⟩⟩
                    · replace c42 := Bool.eq_false_iff.mpr c42
                      subst c42
                      have H1 : (none) = some r := by rw [if_neg (show ¬ (false = true) by decide)] at H; exact H
                      clear H
                      have H := H1
                      clear H1
                      exact absurd H (by simp)
                  · rw [if_neg c40] at H
                    exact absurd H (by simp)
              · rw [if_neg c10] at H
                exact absurd H (by simp)
            · rw [if_neg c9] at H
              have c9b0 : decide (x6_2 < (l0.length : Int)) = false := decide_eq_false c9
              clear c9
              have H' := Aside0.mk H
              clear H
              go_wp2
              go_loopg [7] k2 (fun kq v7 w' => ∃ (x7_3 : Int), v7 = .int .i64 x7_3 ∧ Aside0 (drydocklaw19_DeltaKeeps.l1 kq x5_2 x7_3 x147000_2 x147001_2 = some r) ∧ Aside0 (kq ≤ k2) ∧ Aside0 (Kd.R (Kd.int .u32) 27 w' w.heap.size (fun k_ => some k_ ≠ (u147000 : Value).ownBlock) u5 x5_2) ∧ Aside0 (Kd.R (Kd.int .u32) 27 w' w.heap.size (fun k_ => some k_ ≠ (u5 : Value).ownBlock) u147000 x147000_2) ∧ Aside0 (w'.heap[gb146]? = some (.cells #[u147000, .bool x147001_2] 25 (0, 0))) ∧ Aside0 (Below w.heap.size w w'))
              case atStart => exact ⟨(0), (by first | rfl | (simp; done) | (simp [*]; done)), H', ⟨Nat.le_refl _⟩, ⟨by (with_reducible repeat (first | apply Kd.R_alloc | apply Kd.R_drewN | apply Kd.R_drew)); exact HO_5.out⟩, ⟨by (with_reducible repeat (first | apply Kd.R_alloc | apply Kd.R_drewN | apply Kd.R_drew)); exact HO_147000.out⟩, ⟨by (with_reducible repeat (first | refine blk_drewN ?_ _ | refine blk_drew ?_ | refine blk_alloc ?_ _)); exact BK146.out⟩, ⟨by repeat (first | (with_reducible first | exact HB.out | apply below_alloc | apply pw_below_drewN | apply below_drew1 | refine below_set ?_ GE146.out) | exact HB.out)⟩⟩
              case round =>
                clear H'
                try clear c1
                try clear p1
                try clear q1
                try clear hx1
                try clear p2
                try clear c4
                try clear p6
                try clear c8
                try clear c9
                try clear c9b0
                try clear c10
                try clear c13
                try clear p14
                try clear q14
                try clear hx14
                try clear c15
                try clear p15
                try clear q15
                try clear hx15
                try clear c18
                try clear c18b0
                try clear c18b1
                try clear c19
                try clear c40
                try clear c42
                try clear c43
                try clear c43b0
                try clear c43b1
                try clear c43b2
                try clear c44
                try clear c44b0
                try clear c44b1
                try clear c45
                try clear c45b0
                try clear c45b1
                try clear c46
                try clear c46b0
                try clear c46b1
                try clear c46b2
                try clear p64
                try clear hcz27_0
                try clear hcz27_1
                try clear hcz29_0
                try clear hcz29_1
                try clear hcz37_0
                try clear hcz37_1
                try clear hcz39_0
                try clear hcz39_1
                try clear hcz55_0
                try clear hcz55_1
                try clear hcz57_0
                try clear hcz57_1
                try clear hcz67_0
                try clear hcz67_1
                try clear hcz69_0
                try clear hcz69_1
                try clear hfz27_0
                try clear hfz27_1
                try clear hfz29_0
                try clear hfz29_1
                try clear hfz37_0
                try clear hfz37_1
                try clear hfz39_0
                try clear hfz39_1
                try clear hfz55_0
                try clear hfz55_1
                try clear hfz57_0
                try clear hfz57_1
                try clear hfz67_0
                try clear hfz67_1
                try clear hfz69_0
                try clear hfz69_1
                try clear hx147_0
                try clear hx152_0
                try clear hx155_0
                try clear p147
                try clear p152
                try clear p155
                try clear q147
                try clear q152
                try clear q155
                obtain ⟨x7_3, rfl, HA, HK3, HO_5, HO_147000, BK146, HB⟩ := hrel
                cases gk with
                | zero => exact absurd HA.out (by simp [drydocklaw19_DeltaKeeps.l1])
                | succ k3 =>
                  have H := HA.out
                  clear HA
                  simp only [drydocklaw19_DeltaKeeps.l1] at H
                  by_cases c71 : x7_3 < (x147000_2.length : Int)
                  · rw [if_pos c71] at H
                    have c71b0 : decide (x7_3 < (x147000_2.length : Int)) = true := decide_eq_true c71
                    clear c71
                    by_cases c72 : 0 ≤ x7_3
                    · rw [if_pos c72] at H
                      have c72b0 : decide (0 ≤ x7_3) = true := decide_eq_true c72
                      clear c72
                      by_cases c73 : x7_3 < (x5_2.length : Int)
                      · rw [if_pos c73] at H
                        have c73b0 : decide (x7_3 < (x5_2.length : Int)) = true := decide_eq_true c73
                        clear c73
                        by_cases c74 : (rd x147000_2 x7_3) = (rd x5_2 x7_3)
                        · rw [if_pos c74] at H
                          have c74b0 : ((rd x147000_2 x7_3) == (rd x5_2 x7_3)) = true := beq_iff_eq.mpr c74
                          have c74b1 : ((rd x147000_2 x7_3) != (rd x5_2 x7_3)) = false := bne_eq_false_iff_eq.mpr c74
                          clear c74
                          have H' := Aside0.mk H
                          clear H
                          have hcz75_0 : wr.cell? ⟨gb146, 0, none⟩ = some (u147000) := (blk_cell BK146.out 0).trans rfl
                          have hcz75_1 : wr.cell? ⟨gb146, 1, none⟩ = some (.bool x147001_2) := (blk_cell BK146.out 1).trans rfl
                          have hfz75_0 := blk_frozen BK146.out 0
                          have hfz75_1 := blk_frozen BK146.out 1
                          obtain ⟨Ao76, co76, eo76⟩ := Kd.R_slice HO_147000.out
                          subst eo76
                          try go_wp2
                          have n0_ := Aside0.mk (Kd.R_drew HO_5.out)
                          have n1_ := Aside0.mk (Kd.R_drew HO_147000.out)
                          have n2_ := Aside0.mk (blk_drew BK146.out)
                          have n3_ := Aside0.mk (below_drew1 HB.out)
                          clear HO_5
                          clear HO_147000
                          clear BK146
                          clear HB
                          have HO_5 := n0_
                          have HO_147000 := n1_
                          have BK146 := n2_
                          have HB := n3_
                          clear n0_ n1_ n2_ n3_
                          have p160 : 0 ≤ (x7_3 : Int) := of_decide_eq_true (by first | (with_reducible assumption) | assumption)
                          have q160 : x7_3 < (x147000_2.length : Int) := of_decide_eq_true (by first | (with_reducible assumption) | assumption)
                          obtain ⟨ad160, e160, hx160_0⟩ := Kd.at_int (Kd.R_reads' HO_147000.out).2.2 x7_3 p160 q160
                          cases e160
                          replace p160 := eq_true p160
                          replace q160 := eq_true q160
                          obtain ⟨Ao78, co78, eo78⟩ := Kd.R_slice HO_5.out
                          (first | subst eo78 | (injection eo78 with f1_ f2_ f3_; have f4_ := f1_.symm; have f5_ := f3_.symm; clear f1_ f2_ f3_; subst f4_; subst f5_))
                          have p161 : 0 ≤ (x7_3 : Int) := of_decide_eq_true (by first | (with_reducible assumption) | assumption)
                          have q161 : x7_3 < (x5_2.length : Int) := of_decide_eq_true (by first | (with_reducible assumption) | assumption)
                          obtain ⟨ad161, e161, hx161_0⟩ := Kd.at_int (Kd.R_reads' HO_5.out).2.2 x7_3 p161 q161
                          cases e161
                          replace p161 := eq_true p161
                          replace q161 := eq_true q161
                          refine start_ (n := 10) (S := fun w' => w'.cell? ⟨gb146, 0, none⟩ = some (.slice (some ad160) x147000_2.length co76) ∧ w'.cell? ⟨gb146, 1, none⟩ = some (.bool x147001_2) ∧ w'.cell? (ad160.add (x7_3).toNat) = some (.int .u32 (rd x147000_2 x7_3)) ∧ w'.cell? (ad161.add (x7_3).toNat) = some (.int .u32 (rd x5_2 x7_3))) (ds := []) #[false, false, false, false, false, false, false, false, false, false] (by kernel_rfl) rfl rfl ⟨(blk_cell BK146.out 0).trans rfl, (blk_cell BK146.out 1).trans rfl, hx160_0, hx161_0⟩ (fun hHeld => ?_); refine with_tabW drydocklaw19_DeltaKeeps.tab17 drydocklaw19_DeltaKeeps.bits17 (fun HT_ HW_ => ?_)
                          generalize wr.drew = w77 at HO_5 HO_147000 BK146 HB hx160_0 hx161_0 hHeld ⊢
                          refine pure_ (i := 0) (N := some 83) (v := ?_) (a' := ?_) #[true, false, false, false, false, false, false, false, false, false] rfl rfl (any_of HT_.out (by kernel_rfl)) (fun _ _ _ h => h) (Or.inl ⟨by rfl, ?_⟩) ?_ ?_
                          rotate_left
                          · intro w'
                            go_simp
                            with_reducible rfl
                          rotate_left
                          · simp only [Act.put, List.setIfInBounds_toArray, List.set_cons_zero, List.set_cons_succ, i64_w, i32_w]
                            rfl
                          refine pure_ (i := 2) (N := some 85) (v := ?_) (a' := ?_) #[true, false, true, false, false, false, false, false, false, false] rfl rfl (any_of HT_.out (by kernel_rfl)) (fun _ _ _ h => h) (Or.inl ⟨by rfl, ?_⟩) ?_ ?_
                          rotate_left
                          · intro w'
                            go_simp
                            with_reducible rfl
                          rotate_left
                          · simp only [Act.put, List.setIfInBounds_toArray, List.set_cons_zero, List.set_cons_succ, i64_w, i32_w]
                            rfl
                          refine pure_ (i := 5) (N := some 88) (v := ?_) (a' := ?_) #[true, false, true, false, false, true, false, false, false, false] rfl rfl (any_of HT_.out (by kernel_rfl)) (fun _ _ _ h => h) (Or.inl ⟨by rfl, ?_⟩) ?_ ?_
                          rotate_left
                          · intro w'
                            go_simp
                            with_reducible rfl
                          rotate_left
                          · simp only [Act.put, List.setIfInBounds_toArray, List.set_cons_zero, List.set_cons_succ, i64_w, i32_w]
                            rfl
                          refine pure_ (i := 6) (N := some 89) (v := ?_) (a' := ?_) #[true, false, true, false, false, true, true, false, false, false] rfl rfl (any_of HT_.out (by kernel_rfl)) (fun _ _ _ h => h) (Or.inl ⟨by rfl, ?_⟩) ?_ ?_
                          rotate_left
                          · intro w'
                            go_simp
                            with_reducible rfl
                          rotate_left
                          · simp only [Act.put, List.setIfInBounds_toArray, List.set_cons_zero, List.set_cons_succ, i64_w, i32_w]
                            rfl
                          refine pure_ (i := 7) (N := some 90) (v := ?_) (a' := ?_) #[true, false, true, false, false, true, true, true, false, false] rfl rfl (any_of HT_.out (by kernel_rfl)) (fun _ _ _ h => h) (Or.inl ⟨by rfl, ?_⟩) ?_ ?_
                          rotate_left
                          · intro w'
                            go_simp
                            with_reducible rfl
                          rotate_left
                          · simp only [Act.put, List.setIfInBounds_toArray, List.set_cons_zero, List.set_cons_succ, i64_w, i32_w]
                            rfl
                          refine take_ (i := 1) (N := some 84) (v := ?_) (a' := ?_) #[true, true, true, false, false, true, true, true, false, false] rfl rfl (take_ofW HT_.out HW_.out (by kernel_rfl)) (fun _ _ _ h => h) (Or.inl ⟨by rfl, ?_⟩) hHeld ?_ ?_
                          rotate_left
                          · rintro w' ⟨s0, s1, s2, s3⟩
                            go_simp
                            with_reducible rfl
                          rotate_left
                          · simp only [Act.put, List.setIfInBounds_toArray, List.set_cons_zero, List.set_cons_succ, i64_w, i32_w]
                            rfl
                          refine pure_ (i := 3) (N := some 86) (v := ?_) (a' := ?_) #[true, true, true, true, false, true, true, true, false, false] rfl rfl (any_of HT_.out (by kernel_rfl)) (fun _ _ _ h => h) (Or.inl ⟨by rfl, ?_⟩) ?_ ?_
                          rotate_left
                          · intro w'
                            go_simp
                            with_reducible rfl
                          rotate_left
                          · simp only [Act.put, List.setIfInBounds_toArray, List.set_cons_zero, List.set_cons_succ, i64_w, i32_w]
                            rfl
                          refine take_ (i := 4) (N := some 87) (v := ?_) (a' := ?_) #[true, true, true, true, true, true, true, true, false, false] rfl rfl (take_ofW HT_.out HW_.out (by kernel_rfl)) (fun _ _ _ h => h) (Or.inl ⟨by rfl, ?_⟩) hHeld ?_ ?_
                          rotate_left
                          · rintro w' ⟨s0, s1, s2, s3⟩
                            go_simp
                            with_reducible rfl
                          rotate_left
                          · simp only [Act.put, List.setIfInBounds_toArray, List.set_cons_zero, List.set_cons_succ, i64_w, i32_w]
                            rfl
                          refine take_ (i := 8) (N := some 91) (v := ?_) (a' := ?_) #[true, true, true, true, true, true, true, true, true, false] rfl rfl (take_ofW HT_.out HW_.out (by kernel_rfl)) (fun _ _ _ h => h) (Or.inl ⟨by rfl, ?_⟩) hHeld ?_ ?_
                          rotate_left
                          · rintro w' ⟨s0, s1, s2, s3⟩
                            go_simp
                            with_reducible rfl
                          rotate_left
                          · simp only [Act.put, List.setIfInBounds_toArray, List.set_cons_zero, List.set_cons_succ, i64_w, i32_w]
                            rfl
                          refine pure_ (i := 9) (N := some 92) (v := ?_) (a' := ?_) #[true, true, true, true, true, true, true, true, true, true] rfl rfl (any_of HT_.out (by kernel_rfl)) (fun _ _ _ h => h) (Or.inl ⟨by rfl, ?_⟩) ?_ ?_
                          rotate_left
                          · intro w'
                            go_simp
                            with_reducible rfl
                          rotate_left
                          · simp only [Act.put, List.setIfInBounds_toArray, List.set_cons_zero, List.set_cons_succ, i64_w, i32_w]
                            rfl
                          refine done_ (done_of HT_.out (by kernel_rfl)) ?_
                          try go_wp2
                          go_roundg k3
                          case measure => have := HJ2.out; have := HK2.out; have := HK3.out; omega
                          case rel => exact ⟨(wrap64 (x7_3 + 1)), (by first | rfl | (simp; done) | (simp [*]; done)), H', ⟨by have := HJ2.out; have := HK2.out; have := HK3.out; omega⟩, ⟨by (with_reducible repeat (first | apply Kd.R_alloc | apply Kd.R_drewN | apply Kd.R_drew)); exact HO_5.out⟩, ⟨by (with_reducible repeat (first | apply Kd.R_alloc | apply Kd.R_drewN | apply Kd.R_drew)); exact HO_147000.out⟩, ⟨by (with_reducible repeat (first | refine blk_drewN ?_ _ | refine blk_drew ?_ | refine blk_alloc ?_ _)); exact BK146.out⟩, ⟨by repeat (first | (with_reducible first | exact HB.out | apply below_alloc | apply pw_below_drewN | apply below_drew1 | refine below_set ?_ GE146.out) | exact HB.out)⟩⟩
                        · rw [if_neg c74] at H
                          exact absurd H (by simp)
                      · rw [if_neg c73] at H
                        exact absurd H (by simp)
                    · rw [if_neg c72] at H
                      exact absurd H (by simp)
                  · rw [if_neg c71] at H
                    have c71b0 : decide (x7_3 < (x147000_2.length : Int)) = false := decide_eq_false c71
                    clear c71
                    obtain rfl := Option.some.inj H
                    have hcz79_0 : wr.cell? ⟨gb146, 0, none⟩ = some (u147000) := (blk_cell BK146.out 0).trans rfl
                    have hcz79_1 : wr.cell? ⟨gb146, 1, none⟩ = some (.bool x147001_2) := (blk_cell BK146.out 1).trans rfl
                    have hfz79_0 := blk_frozen BK146.out 0
                    have hfz79_1 := blk_frozen BK146.out 1
                    obtain ⟨Ao80, co80, eo80⟩ := Kd.R_slice HO_147000.out
                    subst eo80
                    go_wp2
                    go_ret
                    exact ⟨by first | rfl | (simp [errW_none, errW_some] <;> rfl) | (simp [*, errW_none, errW_some] <;> rfl), by repeat (first | (with_reducible first | exact HB.out | apply below_alloc | apply pw_below_drewN | apply below_drew1 | refine below_set ?_ GE146.out) | exact HB.out)⟩

/-- THE ONE PURE STATEMENT of drydocklaw19_DeltaKeeps: yours. -/
def drydocklaw19_DeltaKeeps.Pure : Prop := ∀ (l0 : List Int), l0.length ≤ maxLen → l0.length * 4 ≤ 140737488351232 → (∀ x ∈ l0, (Lit.int .u32 x).wf = true) → ∃ k, drydocklaw19_DeltaKeeps.f k l0 = some true
theorem drydocklaw19_DeltaKeeps.walk (P : drydocklaw19_DeltaKeeps.Pure) (a0 : Option Addr) (len0 cap0 : Nat) (z0 : List Int) (w : World) (w0 : (a0 = none ∧ len0 = 0 ∧ cap0 = 0 ∧ z0 = []) ∨ ∃ x, a0 = some x ∧ len0 ≤ cap0 ∧ cap0 ≤ maxLen ∧ z0.length = cap0 ∧ (∀ i, i < z0.length → w.cell? (x.add i) = some (.int .u32 (z0.getD i 0))) ∧ ∀ n ∈ z0, (Lit.int .u32 n).wf = true) (y0 : len0 * 4 ≤ 140737488351232) :
    Calls Try.prog 3 #[.slice a0 len0 cap0] w fun e w' => e = .returned (.bool true) ∧ Below w.heap.size w w' := by
  obtain ⟨l0, rfl, hr0, hm0, hw0, hc0⟩ := ReadsInt.ofRowC w0
  obtain ⟨k, h⟩ := P l0 hm0 y0 hw0
  refine (drydocklaw19_DeltaKeeps.calls k _ _ l0 true w (Kd.C_of_reads (d := (0 : Int)) (h1 := fun _ => rfl) hr0) hc0 h).mono ?_
  rintro e w' ⟨rfl, hd⟩
  exact ⟨rfl, hd⟩

end Go.Proofs.Ytlboachgeepadaa.P
