-- Written by a program of this session over the kit's print of the translation. Lean checks it.
import Derived.Test.YtlboachgeepadaaPx0
-- shorter
namespace Go.Proofs.Ytlboachgeepadaa.P
open Go.RowKit Go.Proofs.YtlboachgeepadaaW.PrintWords Go.Proofs.YtlboachgeepadaaW.PrintLast Go.Proofs.YtlboachgeepadaaW.PrintMore
attribute [local go_sem] max2_int min2_int max_two min_two max_three min_three max_four min_four   -- for this text's walks alone
set_option linter.unusedVariables false
set_option linter.unusedSimpArgs false

/-! ### drydockref03_Few: function 12 -/
def drydockref03_Few.l0 : Nat → Bool → Int → List (S61) → Option (Bool)
  | 0, _, _, _ => none
  | k + 1, x3, x4, x204000 => if x4 < (x204000.length : Int) then (if x3 = true then (if 0 ≤ x4 then (drydockref03_Few.l0 k (decide ((((rd_T61 x204000 x4).f1).length : Int) ≤ 80)) (wrap64 (x4 + 1)) x204000) else (none)) else (some x3)) else (some x3)
def drydockref03_Few.f (k : Nat) (l0_0 : List (S61)) : Option (Bool) := drydockref03_Few.l0 k (decide ((l0_0.length : Int) ≤ 12)) 0 l0_0
theorem drydockref03_Few.mono_l : ∀ k, (∀ y0 y1 y2, LeO (drydockref03_Few.l0 k y0 y1 y2) (drydockref03_Few.l0 (k + 1) y0 y1 y2))
  | 0 => fun _ _ _ r h => by simp [drydockref03_Few.l0] at h
  | k + 1 => by
    have ih0 := drydockref03_Few.mono_l k
    · intro y0 y1 y2
      unfold drydockref03_Few.l0
      repeat' first
      | (with_reducible exact ih0 _ _ _)
      | (with_reducible exact LeO.refl _)
      | (with_reducible exact LeO.none _)
      | (with_reducible refine LeO.ite ?_ ?_)
      | (with_reducible refine LeO.bind ?_ (fun _ => ?_))
      | exact ih0 _ _ _
      | exact LeO.none _
      | refine LeO.ite ?_ ?_
      | refine LeO.bind ?_ (fun _ => ?_)
theorem drydockref03_Few.mono : ∀ a0 k, LeO (drydockref03_Few.f k a0) (drydockref03_Few.f (k + 1) a0) := by
 intro a0 k
 have ih0 := drydockref03_Few.mono_l k
 unfold drydockref03_Few.f
 repeat' first
  | (with_reducible exact ih0 _ _ _)
  | (with_reducible exact LeO.refl _)
  | (with_reducible exact LeO.none _)
  | (with_reducible refine LeO.ite ?_ ?_)
  | (with_reducible refine LeO.bind ?_ (fun _ => ?_))
  | exact ih0 _ _ _
  | exact LeO.none _
  | refine LeO.ite ?_ ?_
  | refine LeO.bind ?_ (fun _ => ?_)
set_option maxHeartbeats 8000000 in
set_option maxRecDepth 100000 in
theorem drydockref03_Few.calls (k : Nat) (A0_0 : Option Addr) (c0_0 : Nat) (l0_0 : List (S61)) (r : Bool) (w : World) (hr0_0 : Kd.C k61 w A0_0 l0_0.length l0_0) (hc0_0 : l0_0.length ≤ c0_0) (h : drydockref03_Few.f k l0_0 = some r) :
    Calls Try.prog 12 #[.agg #[.slice A0_0 l0_0.length c0_0]] w fun e w' => e = .returned (.bool r) ∧ Below w.heap.size w w' := by
 have hu37 := Try.underlying37
 have HR0_0 := Aside0.mk hr0_0
 have HC0_0 := Aside0.mk hc0_0
 clear hr0_0 hc0_0
 have HB := Aside0.mk (Below.refl w.heap.size w)
 have H : (drydockref03_Few.l0 k (decide ((l0_0.length : Int) ≤ 12)) 0 l0_0) = some r := h
 clear h
 have H' := Aside0.mk H
 clear H
 go_enter Try.func12, Try.ntmps12
 go_wp2_with (first | ((with_reducible refine gate_dst (N := 1) rfl ?_); refine box_event ?hg (N := 1) ?hd (cs := #[.slice A0_0 l0_0.length c0_0]) (t := 37) ?hr ?_; (case hd => rfl); (case hg => rfl); (case hr => first | (go_simp; done) | (go_simp; rfl)); intro gb203 hg w2 hbox hb; have n0_ := Aside0.mk (below_step bs_ hb); have n1_ := Aside0.mk (hbox); have n2_ := Aside0.mk ((by rw [hg]; exact (below_size bs_) : w.heap.size ≤ gb203)); have n3_ := Aside0.mk ((by rw [hg]; exact (below_size bs_) : w.heap.size ≤ gb203)); clear HB; have HB := n0_; have BK203 := n1_; have GW203 := n2_; have GE203 := n3_; clear n0_ n1_ n2_ n3_; clear hb hbox hg; have hcz3_0 : w2.cell? ⟨gb203, 0, none⟩ = some (.slice A0_0 l0_0.length c0_0) := (blk_cell BK203.out 0).trans rfl; have hfz3_0 := blk_frozen BK203.out 0))
 go_loopg [3, 4] k (fun kq v3 v4 w' => ∃ (x3_1 : Bool) (x4_1 : Int), v3 = .bool x3_1 ∧ v4 = .int .i64 x4_1 ∧ Aside0 (drydockref03_Few.l0 kq x3_1 x4_1 l0_0 = some r) ∧ Aside0 (kq ≤ k) ∧ Aside0 (w'.heap[gb203]? = some (.cells #[(.slice A0_0 l0_0.length c0_0)] 37 (0, 0))) ∧ Aside0 (Below w.heap.size w w'))
 case atStart => exact ⟨(decide ((l0_0.length : Int) ≤ 12)), (0), eq_, eq_, H', ⟨Nat.le_refl _⟩, ⟨bk_ BK203⟩, ⟨bs_⟩⟩
 case round =>
  clear H'
  try clear hcz3_0
  try clear hfz3_0
  obtain ⟨x3_1, x4_1, rfl, rfl, HA, HK1, BK203, HB⟩ := hrel
  cases gk with
  | zero => exact absurd HA.out (by simp [drydockref03_Few.l0])
  | succ k1 =>
   have H := HA.out
   clear HA
   simp only [drydockref03_Few.l0] at H
   by_cases c4 : x4_1 < (l0_0.length : Int)
   ·rw [if_pos c4] at H
    have c4b0 : decide (x4_1 < (l0_0.length : Int)) = true := decide_eq_true c4
    clear c4
    by_cases c5 : x3_1 = true
    ·subst c5
     have H1 : (if 0 ≤ x4_1 then (drydockref03_Few.l0 k1 (decide ((((rd_T61 l0_0 x4_1).f1).length : Int) ≤ 80)) (wrap64 (x4_1 + 1)) l0_0) else (none)) = some r := by rw [if_pos rfl] at H; exact H
     clear H
     have H := H1
     clear H1
     by_cases c6 : 0 ≤ x4_1
     ·rw [if_pos c6] at H
      have c6b0 : decide (0 ≤ x4_1) = true := decide_eq_true c6
      clear c6
      have H' := Aside0.mk H
      clear H
      have hcz7_0 : wr.cell? ⟨gb203, 0, none⟩ = some (.slice A0_0 l0_0.length c0_0) := (blk_cell BK203.out 0).trans rfl
      have hfz7_0 := blk_frozen BK203.out 0
      have p204 : 0 ≤ (x4_1 : Int) := of_decide_eq_true (by first | (with_reducible assumption) | assumption)
      have q204 : x4_1 < (l0_0.length : Int) := of_decide_eq_true (by first | (with_reducible assumption) | assumption)
      obtain ⟨ad204, A204_1, c204_1, e204, hx204_0, hx204_1, hl204_1, hi204_1⟩ := at_T61 HR0_0.out x4_1 p204 q204
      cases e204
      replace hx204_0 := (HB.out.cell (World.block_lt_of_cell? w _ hx204_0)).trans hx204_0
      replace hx204_1 := (HB.out.cell (World.block_lt_of_cell? w _ hx204_1)).trans hx204_1
      have HR204_1 := Aside0.mk hi204_1
      have HC204_1 := Aside0.mk hl204_1
      clear hi204_1 hl204_1
      replace p204 := eq_true p204
      replace q204 := eq_true q204
      go_wp2
      go_roundg k1
      case measure => have := HK1.out; omega
      case rel => exact ⟨(decide ((((rd_T61 l0_0 x4_1).f1).length : Int) ≤ 80)), (wrap64 (x4_1 + 1)), eq_, eq_, H', ⟨by have := HK1.out; omega⟩, ⟨bk_ BK203⟩, ⟨bs_⟩⟩
     ·rw [if_neg c6] at H
      exact absurd H (by simp)
    ·replace c5 := Bool.eq_false_iff.mpr c5
     subst c5
     have H1 : (some false) = some r := by rw [if_neg (show ¬ (false = true) by decide)] at H; exact H
     clear H
     have H := H1
     clear H1
     obtain rfl := Option.some.inj H
     have hcz8_0 : wr.cell? ⟨gb203, 0, none⟩ = some (.slice A0_0 l0_0.length c0_0) := (blk_cell BK203.out 0).trans rfl
     have hfz8_0 := blk_frozen BK203.out 0
     go_wp2
     go_ret
     exact ⟨by first | rfl | (simp [errW_none, errW_some] <;> rfl) | (simp [*, errW_none, errW_some] <;> rfl), by repeat (first | (with_reducible first | exact HB.out | apply below_alloc | apply pw_below_drewN | apply below_drew1 | refine below_set ?_ GE203.out) | exact HB.out)⟩
   ·rw [if_neg c4] at H
    have c4b0 : decide (x4_1 < (l0_0.length : Int)) = false := decide_eq_false c4
    clear c4
    obtain rfl := Option.some.inj H
    have hcz9_0 : wr.cell? ⟨gb203, 0, none⟩ = some (.slice A0_0 l0_0.length c0_0) := (blk_cell BK203.out 0).trans rfl
    have hfz9_0 := blk_frozen BK203.out 0
    go_wp2
    go_ret
    exact ⟨by first | rfl | (simp [errW_none, errW_some] <;> rfl) | (simp [*, errW_none, errW_some] <;> rfl), by repeat (first | (with_reducible first | exact HB.out | apply below_alloc | apply pw_below_drewN | apply below_drew1 | refine below_set ?_ GE203.out) | exact HB.out)⟩

end Go.Proofs.Ytlboachgeepadaa.P
