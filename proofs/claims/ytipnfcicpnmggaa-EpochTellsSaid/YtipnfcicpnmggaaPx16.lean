-- Written by a program of this session over the kit's print of the translation. Lean checks it.
import Derived.Test.YtipnfcicpnmggaaPx0
import Derived.Test.YtipnfcicpnmggaaPx11
import Derived.Test.YtipnfcicpnmggaaPx13
import Derived.Test.YtipnfcicpnmggaaSel
-- shorter
namespace Go.Proofs.Ytipnfcicpnmggaa.P
open Go.RowKit Go.Proofs.YtipnfcicpnmggaaW.PrintWords Go.Proofs.YtipnfcicpnmggaaW.PrintLast Go.Proofs.YtipnfcicpnmggaaW.PrintMore
attribute [local go_sem] max2_int min2_int max_two min_two max_three min_three max_four min_four   -- for this text's walks alone
set_option linter.unusedVariables false
set_option linter.unusedSimpArgs false

/-! ### drydockref17_Leave: function 15 -/
def drydockref17_Leave.j0 : Nat → Int → Bool → Int → Int → Int → Int → Int → List (S43) → Option (Int × Int × Int × Int × Int × (List (S43)) × Int)
  | 0, _, _, _, _, _, _, _, _ => none
  | k + 1, x1, x18, x272000, x272001, x272002, x272003, x272004, x272005 => if x18 = true then (some (0, 0, 0, 0, 0, ([] : List (S43)), 3)) else (if 0 ≤ x1 then (if x1 < 4 then (if (sel4I x272001 x272002 x272003 x272004 x1) = 0 then (some (0, 0, 0, 0, 0, ([] : List (S43)), 11)) else ((drydockref17_Own.f x272000 x272001 x272002 x272003 x272004 x272005).bind fun bt274 => (some (bt274.1, updI 0 x1 0 bt274.2.1, updI 1 x1 0 bt274.2.2.1, updI 2 x1 0 bt274.2.2.2.1, updI 3 x1 0 bt274.2.2.2.2.1, bt274.2.2.2.2.2, 0)))) else (none)) else (none))
def drydockref17_Leave.f (k : Nat) (a0_0 : Int) (a0_1 : Int) (a0_2 : Int) (a0_3 : Int) (a0_4 : Int) (l0_5 : List (S43)) (a1 : Int) : Option (Int × Int × Int × Int × Int × (List (S43)) × Int) := (drydockref17_May.f k a0_0 a0_1 a0_2 a0_3 a0_4 l0_5).bind fun t273 => (if t273 = true then (if a1 < 0 then (drydockref17_Leave.j0 k a1 true a0_0 a0_1 a0_2 a0_3 a0_4 l0_5) else (drydockref17_Leave.j0 k a1 (decide (a1 > 3)) a0_0 a0_1 a0_2 a0_3 a0_4 l0_5)) else (some (0, 0, 0, 0, 0, ([] : List (S43)), 1)))
theorem drydockref17_Leave.mono_l : ∀ k, (∀ y0 y1 y2 y3 y4 y5 y6 y7, LeO (drydockref17_Leave.j0 k y0 y1 y2 y3 y4 y5 y6 y7) (drydockref17_Leave.j0 (k + 1) y0 y1 y2 y3 y4 y5 y6 y7))
  | 0 => fun _ _ _ _ _ _ _ _ r h => by simp [drydockref17_Leave.j0] at h
  | k + 1 => by
    have ih0 := drydockref17_Leave.mono_l k
    · intro y0 y1 y2 y3 y4 y5 y6 y7
      unfold drydockref17_Leave.j0
      repeat' first
      | (with_reducible exact ih0 _ _ _ _ _ _ _ _)
      | (with_reducible exact drydockref17_May.mono _ _ _ _ _ _ _)
      | (with_reducible exact LeO.refl _)
      | (with_reducible exact LeO.none _)
      | (with_reducible refine LeO.ite ?_ ?_)
      | (with_reducible refine LeO.bind ?_ (fun _ => ?_))
      | exact ih0 _ _ _ _ _ _ _ _
      | exact drydockref17_May.mono _ _ _ _ _ _ _
      | exact LeO.none _
      | refine LeO.ite ?_ ?_
      | refine LeO.bind ?_ (fun _ => ?_)
theorem drydockref17_Leave.mono : ∀ a0 a1 a2 a3 a4 a5 a6 k, LeO (drydockref17_Leave.f k a0 a1 a2 a3 a4 a5 a6) (drydockref17_Leave.f (k + 1) a0 a1 a2 a3 a4 a5 a6) := by
 intro a0 a1 a2 a3 a4 a5 a6 k
 have ih0 := drydockref17_Leave.mono_l k
 unfold drydockref17_Leave.f
 repeat' first
  | (with_reducible exact ih0 _ _ _ _ _ _ _ _)
  | (with_reducible exact drydockref17_May.mono _ _ _ _ _ _ _)
  | (with_reducible exact LeO.refl _)
  | (with_reducible exact LeO.none _)
  | (with_reducible refine LeO.ite ?_ ?_)
  | (with_reducible refine LeO.bind ?_ (fun _ => ?_))
  | exact ih0 _ _ _ _ _ _ _ _
  | exact drydockref17_May.mono _ _ _ _ _ _ _
  | exact LeO.none _
  | refine LeO.ite ?_ ?_
  | refine LeO.bind ?_ (fun _ => ?_)
set_option maxHeartbeats 8000000 in
set_option maxRecDepth 100000 in
theorem drydockref17_Leave.calls (k : Nat) (a0_0 : Int) (a0_1 : Int) (a0_2 : Int) (a0_3 : Int) (a0_4 : Int) (A0_5 : Option Addr) (c0_5 : Nat) (l0_5 : List (S43)) (a1 : Int) (r1 : Int) (r2 : Int) (r3 : Int) (r4 : Int) (r5 : Int) (r6 : List (S43)) (r7 : Int) (w : World) (hr0_5 : Kd.C k43 w A0_5 l0_5.length l0_5) (hc0_5 : l0_5.length ≤ c0_5) (h : drydockref17_Leave.f k a0_0 a0_1 a0_2 a0_3 a0_4 l0_5 a1 = some (r1, r2, r3, r4, r5, r6, r7)) :
    Calls Try.prog 15 #[.agg #[.int .i64 a0_0, .int .i64 a0_1, .int .i64 a0_2, .int .i64 a0_3, .int .i64 a0_4, .slice A0_5 l0_5.length c0_5], .int .i64 a1] w fun e w' => ∃ v5_ : Value, e = .returned (.tuple #[.agg #[.int .i64 r1, .int .i64 r2, .int .i64 r3, .int .i64 r4, .int .i64 r5, v5_], .int .i64 r7]) ∧ Kd.R k43 43 w' w.heap.size (fun _ => True) v5_ r6 ∧ Below w.heap.size w w' := by
 have hu25 := Try.underlying25
 have HR0_5 := Aside0.mk hr0_5
 have HC0_5 := Aside0.mk hc0_5
 clear hr0_5 hc0_5
 have HB := Aside0.mk (Below.refl w.heap.size w)
 have H : ((drydockref17_May.f k a0_0 a0_1 a0_2 a0_3 a0_4 l0_5).bind fun t273 => (if t273 = true then (if a1 < 0 then (drydockref17_Leave.j0 k a1 true a0_0 a0_1 a0_2 a0_3 a0_4 l0_5) else (drydockref17_Leave.j0 k a1 (decide (a1 > 3)) a0_0 a0_1 a0_2 a0_3 a0_4 l0_5)) else (some (0, 0, 0, 0, 0, ([] : List (S43)), 1)))) = some (r1, r2, r3, r4, r5, r6, r7) := h
 clear h
 replace H := Option.bind_eq_some_iff.mp H
 obtain ⟨t273, A30, H⟩ := H
 replace H : (if t273 = true then (if a1 < 0 then (drydockref17_Leave.j0 k a1 true a0_0 a0_1 a0_2 a0_3 a0_4 l0_5) else (drydockref17_Leave.j0 k a1 (decide (a1 > 3)) a0_0 a0_1 a0_2 a0_3 a0_4 l0_5)) else (some (0, 0, 0, 0, 0, ([] : List (S43)), 1))) = some (r1, r2, r3, r4, r5, r6, r7) := H
 have A3 := Aside0.mk A30
 clear A30
 by_cases c4 : t273 = true
 ·subst c4
  have H1 : (if a1 < 0 then (drydockref17_Leave.j0 k a1 true a0_0 a0_1 a0_2 a0_3 a0_4 l0_5) else (drydockref17_Leave.j0 k a1 (decide (a1 > 3)) a0_0 a0_1 a0_2 a0_3 a0_4 l0_5)) = some (r1, r2, r3, r4, r5, r6, r7) := by rw [if_pos rfl] at H; exact H
  clear H
  have H := H1
  clear H1
  have HC5 := Aside0.mk H
  clear H
  go_enter Try.func15, Try.ntmps15
  go_upto_region 4 with (first | ((with_reducible refine gate_dst (N := 2) rfl ?_); refine box_event ?hg (N := 2) ?hd (cs := #[.int .i64 a0_0, .int .i64 a0_1, .int .i64 a0_2, .int .i64 a0_3, .int .i64 a0_4, .slice A0_5 l0_5.length c0_5]) (t := 25) ?hr ?_; (case hd => rfl); (case hg => rfl); (case hr => first | (go_simp; done) | (go_simp; rfl)); intro gb271 hg w6 hbox hb; have n0_ := Aside0.mk (below_step bs_ hb); have n1_ := Aside0.mk (hbox); have n2_ := Aside0.mk ((by rw [hg]; exact (below_size bs_) : w.heap.size ≤ gb271)); have n3_ := Aside0.mk ((by rw [hg]; exact (below_size bs_) : w.heap.size ≤ gb271)); clear HB; have HB := n0_; have BK271 := n1_; have GW271 := n2_; have GE271 := n3_; clear n0_ n1_ n2_ n3_; clear hb hbox hg) | ((with_reducible refine gate_dst (N := 4) rfl ?_); refine box_event ?hg (N := 4) ?hd (cs := #[.int .i64 0, .int .i64 0, .int .i64 0, .int .i64 0, .int .i64 0, .slice none 0 0]) (t := 25) ?hr ?_; (case hd => rfl); (case hg => rfl); (case hr => first | (go_simp; done) | (go_simp; rfl)); intro gb272 hg w7 hbox hb; have n0_ := Aside0.mk (blk_below (bk_ BK271) hb); have n1_ := Aside0.mk (below_step bs_ hb); have n2_ := Aside0.mk (hbox); have n3_ := Aside0.mk ((by rw [hg]; exact (below_size bs_) : w.heap.size ≤ gb272)); have n4_ := Aside0.mk ((by rw [hg]; exact (below_size bs_) : w.heap.size ≤ gb272)); have n5_ := Aside0.mk ((by rw [hg]; exact Nat.ne_of_lt (blk_lt (bk_ BK271)) : gb271 ≠ gb272)); have n6_ := Aside0.mk ((by rw [hg]; exact Nat.ne_of_gt (blk_lt (bk_ BK271)) : gb272 ≠ gb271)); clear BK271 HB; have BK271 := n0_; have HB := n1_; have BK272 := n2_; have GW272 := n3_; have GE272 := n4_; have NB271_272 := n5_; have NB272_271 := n6_; clear n0_ n1_ n2_ n3_ n4_ n5_ n6_; clear hb hbox hg; have hnb8 := NB271_272.out; have hnc8 := NB272_271.out; obtain ⟨hcz9_0, hcz9_1, hcz9_2, hcz9_3, hcz9_4, hcz9_5, hfz9_0, hfz9_1, hfz9_2, hfz9_3, hfz9_4, hfz9_5⟩ := blk6 BK271) | ((with_reducible refine gate_callee (f := 24) rfl ?_); refine goesL_ (some 9) rfl rfl Try.func24 (by kernel_rfl) rfl #[.agg #[.int .i64 a0_0, .int .i64 a0_1, .int .i64 a0_2, .int .i64 a0_3, .int .i64 a0_4, .slice A0_5 l0_5.length c0_5]] rfl (by (try simp only [List.map_toArray, List.map_cons, List.map_nil]); first | done | rfl | (simp only [List.length_drop, List.length_take]; rfl)) ?_; (with_reducible refine (drydockref17_May.calls k a0_0 a0_1 a0_2 a0_3 a0_4 _ _ l0_5 true _ ?side1 ?side2 A3.out).mono ?_); (case side1 => repeat (first | exact (Kd.C_below HR0_5.out HB.out) | (with_reducible refine Kd.C_alloc ?_ _) | (with_reducible refine Kd.C_drewN ?_ _) | (with_reducible refine Kd.C_drew ?_))); (case side2 => exact HC0_5.out); rintro e w10 ⟨rfl, hb⟩; refine ⟨_, rfl, ?_⟩; have n0_ := Aside0.mk (blk_below (bk_ BK271) hb); have n1_ := Aside0.mk (blk_below (bk_ BK272) hb); have n2_ := Aside0.mk (below_step bs_ hb); clear BK271 BK272 HB; have BK271 := n0_; have BK272 := n1_; have HB := n2_; clear n0_ n1_ n2_; (try clear hb); (try clear hb2); (try clear hk); (try clear hi)))
  (try simp only [Act.put, List.setIfInBounds_toArray, List.set_cons_zero, List.set_cons_succ])
  go_cut [18] (fun v18 wc => ∃ (kq : Nat) (x18_4 : Bool), v18 = .bool x18_4 ∧ Aside0 (drydockref17_Leave.j0 kq a1 x18_4 a0_0 a0_1 a0_2 a0_3 a0_4 l0_5 = some (r1, r2, r3, r4, r5, r6, r7)) ∧ Aside0 (kq ≤ k) ∧ Aside0 (wc.heap[gb271]? = some (.cells #[.int .i64 a0_0, .int .i64 a0_1, .int .i64 a0_2, .int .i64 a0_3, .int .i64 a0_4, (.slice A0_5 l0_5.length c0_5)] 25 (0, 0))) ∧ Aside0 (wc.heap[gb272]? = some (.cells #[.int .i64 0, .int .i64 0, .int .i64 0, .int .i64 0, .int .i64 0, (.slice none 0 0)] 25 (0, 0))) ∧ Aside0 (Below w.heap.size w wc))
  case first =>
   have H := HC5.out
   clear HC5
   by_cases c11 : a1 < 0
   ·rw [if_pos c11] at H
    have c11b0 : decide (a1 < 0) = true := decide_eq_true c11
    clear c11
    (first | rw [c11b0] | (simp only [i64_w, i32_w]; rw [c11b0]) | skip)
    have H' := Aside0.mk H
    clear H
    go_wp2
    go_meet
    case rel => exact ⟨_, (true), eq_, H', ⟨by first | omega | exact Nat.le_refl _⟩, ⟨bk_ BK271⟩, ⟨bk_ BK272⟩, ⟨bs_⟩⟩
   ·rw [if_neg c11] at H
    have c11b0 : decide (a1 < 0) = false := decide_eq_false c11
    clear c11
    (first | rw [c11b0] | (simp only [i64_w, i32_w]; rw [c11b0]) | skip)
    have H' := Aside0.mk H
    clear H
    go_wp2
    go_meet
    case rel => exact ⟨_, (decide (a1 > 3)), eq_, H', ⟨by first | omega | exact Nat.le_refl _⟩, ⟨bk_ BK271⟩, ⟨bk_ BK272⟩, ⟨bs_⟩⟩
  case rest =>
   clear HC5
   try clear c4
   obtain ⟨kq, x18_4, rfl, HA, HJ4, BK271, BK272, HB⟩ := hcut
   cases kq with
   | zero => exact absurd HA.out (by simp [drydockref17_Leave.j0])
   | succ kj4 =>
    have H := HA.out
    clear HA
    simp only [drydockref17_Leave.j0] at H
    by_cases c12 : x18_4 = true
    ·subst c12
     have H1 : (some (0, 0, 0, 0, 0, ([] : List (S43)), 3)) = some (r1, r2, r3, r4, r5, r6, r7) := by rw [if_pos rfl] at H; exact H
     clear H
     have H := H1
     clear H1
     simp only [Option.some.injEq, Prod.mk.injEq] at H
     obtain ⟨rfl, rfl, rfl, rfl, rfl, rfl, rfl⟩ := H
     have hnb13 := NB272_271.out
     have hnc13 := NB271_272.out
     obtain ⟨hcz14_0, hcz14_1, hcz14_2, hcz14_3, hcz14_4, hcz14_5, hfz14_0, hfz14_1, hfz14_2, hfz14_3, hfz14_4, hfz14_5⟩ := blk6 BK272
     go_wp2
     refine bodyPost_ret (results_ct rfl _ _ gb272 25 #[.int .i64 0, .int .i64 0, .int .i64 0, .int .i64 0, .int .i64 0, .slice none 0 0] (0, 0) _ rfl (bp_ BK272) Try.underlying25 rfl (by kernel_rfl)) rfl ?_
     exact ⟨_, by first | rfl | (simp [errW_none, errW_some] <;> rfl) | (simp [*, errW_none, errW_some] <;> rfl), by first | exact Kd.R_nil _ _ _ _ _ | exact Kd.N_nil _ _ _ _ _ | exact Kd.V_nil _ _ _ _ _ | exact Kd.Q_nil _ _ _ _ _ | exact Kd.S_nil _ _ _ _ _, by repeat (first | (with_reducible first | exact HB.out | apply below_alloc | apply pw_below_drewN | apply below_drew1 | refine below_set ?_ GE271.out | refine below_set ?_ GE272.out) | exact HB.out)⟩
    ·replace c12 := Bool.eq_false_iff.mpr c12
     subst c12
     have H1 : (if 0 ≤ a1 then (if a1 < 4 then (if (sel4I a0_1 a0_2 a0_3 a0_4 a1) = 0 then (some (0, 0, 0, 0, 0, ([] : List (S43)), 11)) else ((drydockref17_Own.f a0_0 a0_1 a0_2 a0_3 a0_4 l0_5).bind fun bt274 => (some (bt274.1, updI 0 a1 0 bt274.2.1, updI 1 a1 0 bt274.2.2.1, updI 2 a1 0 bt274.2.2.2.1, updI 3 a1 0 bt274.2.2.2.2.1, bt274.2.2.2.2.2, 0)))) else (none)) else (none)) = some (r1, r2, r3, r4, r5, r6, r7) := by rw [if_neg (show ¬ (false = true) by decide)] at H; exact H
     clear H
     have H := H1
     clear H1
     by_cases c15 : 0 ≤ a1
     ·rw [if_pos c15] at H
      have c15b0 : decide (0 ≤ a1) = true := decide_eq_true c15
      clear c15
      by_cases c16 : a1 < 4
      ·rw [if_pos c16] at H
       have c16b0 : decide (a1 < 4) = true := decide_eq_true c16
       clear c16
       by_cases c17 : (sel4I a0_1 a0_2 a0_3 a0_4 a1) = 0
       ·rw [if_pos c17] at H
        have c17b0 : ((sel4I a0_1 a0_2 a0_3 a0_4 a1) == 0) = true := beq_iff_eq.mpr c17
        have c17b1 : ((sel4I a0_1 a0_2 a0_3 a0_4 a1) != 0) = false := bne_eq_false_iff_eq.mpr c17
        clear c17
        simp only [Option.some.injEq, Prod.mk.injEq] at H
        obtain ⟨rfl, rfl, rfl, rfl, rfl, rfl, rfl⟩ := H
        have hnb18 := NB271_272.out
        have hnc18 := NB272_271.out
        obtain ⟨hcz19_0, hcz19_1, hcz19_2, hcz19_3, hcz19_4, hcz19_5, hfz19_0, hfz19_1, hfz19_2, hfz19_3, hfz19_4, hfz19_5⟩ := blk6 BK271
        have pz20 : (0 ≤ (a1 : Int)) = True := eq_true (of_decide_eq_true (by first | (with_reducible assumption) | assumption))
        have qz20 : ((a1 : Int) < 4) = True := eq_true (of_decide_eq_true (by first | (with_reducible assumption) | assumption))
        have hcz20_v : wc.cell? ⟨gb271, 1 + (a1).toNat, none⟩ = some (.int .i64 (sel4I a0_1 a0_2 a0_3 a0_4 a1)) := (blk_sel4I BK271.out rfl rfl rfl rfl (of_eq_true pz20) (of_eq_true qz20))
        obtain ⟨hcz21_0, hcz21_1, hcz21_2, hcz21_3, hcz21_4, hcz21_5, hfz21_0, hfz21_1, hfz21_2, hfz21_3, hfz21_4, hfz21_5⟩ := blk6 BK272
        go_wp2
        refine bodyPost_ret (results_ct rfl _ _ gb272 25 #[.int .i64 0, .int .i64 0, .int .i64 0, .int .i64 0, .int .i64 0, .slice none 0 0] (0, 0) _ rfl (bp_ BK272) Try.underlying25 rfl (by kernel_rfl)) rfl ?_
        exact ⟨_, by first | rfl | (simp [errW_none, errW_some] <;> rfl) | (simp [*, errW_none, errW_some] <;> rfl), by first | exact Kd.R_nil _ _ _ _ _ | exact Kd.N_nil _ _ _ _ _ | exact Kd.V_nil _ _ _ _ _ | exact Kd.Q_nil _ _ _ _ _ | exact Kd.S_nil _ _ _ _ _, by repeat (first | (with_reducible first | exact HB.out | apply below_alloc | apply pw_below_drewN | apply below_drew1 | refine below_set ?_ GE271.out | refine below_set ?_ GE272.out) | exact HB.out)⟩
       ·rw [if_neg c17] at H
        have c17b0 : ((sel4I a0_1 a0_2 a0_3 a0_4 a1) == 0) = false := beq_eq_false_iff_ne.mpr c17
        have c17b1 : ((sel4I a0_1 a0_2 a0_3 a0_4 a1) != 0) = true := bne_iff_ne.mpr c17
        replace H := Option.bind_eq_some_iff.mp H
        obtain ⟨⟨t274, t275, t276, t277, t278, t279⟩, A220, H⟩ := H
        replace H : (some (t274, updI 0 a1 0 t275, updI 1 a1 0 t276, updI 2 a1 0 t277, updI 3 a1 0 t278, t279, 0)) = some (r1, r2, r3, r4, r5, r6, r7) := H
        have A22 := Aside0.mk A220
        clear A220
        simp only [Option.some.injEq, Prod.mk.injEq] at H
        obtain ⟨rfl, rfl, rfl, rfl, rfl, rfl, rfl⟩ := H
        have hnb23 := NB271_272.out
        have hnc23 := NB272_271.out
        obtain ⟨hcz24_0, hcz24_1, hcz24_2, hcz24_3, hcz24_4, hcz24_5, hfz24_0, hfz24_1, hfz24_2, hfz24_3, hfz24_4, hfz24_5⟩ := blk6 BK271
        have pz25 : (0 ≤ (a1 : Int)) = True := eq_true (of_decide_eq_true (by first | (with_reducible assumption) | assumption))
        have qz25 : ((a1 : Int) < 4) = True := eq_true (of_decide_eq_true (by first | (with_reducible assumption) | assumption))
        have hcz25_v : wc.cell? ⟨gb271, 1 + (a1).toNat, none⟩ = some (.int .i64 (sel4I a0_1 a0_2 a0_3 a0_4 a1)) := (blk_sel4I BK271.out rfl rfl rfl rfl (of_eq_true pz25) (of_eq_true qz25))
        go_wp2_with (first | ((with_reducible refine gate_callee (f := 10) rfl ?_); refine goesL_ (some 27) rfl rfl Try.func10 (by kernel_rfl) rfl #[.agg #[.int .i64 a0_0, .int .i64 a0_1, .int .i64 a0_2, .int .i64 a0_3, .int .i64 a0_4, .slice A0_5 l0_5.length c0_5]] rfl (by (try simp only [List.map_toArray, List.map_cons, List.map_nil]); first | done | rfl | (simp only [List.length_drop, List.length_take]; rfl)) ?_; (with_reducible refine (drydockref17_Own.calls a0_0 a0_1 a0_2 a0_3 a0_4 _ _ l0_5 t274 t275 t276 t277 t278 t279 _ ?side1 ?side2 A22.out).mono ?_); (case side1 => repeat (first | exact (Kd.C_below HR0_5.out HB.out) | (with_reducible refine Kd.C_alloc ?_ _) | (with_reducible refine Kd.C_drewN ?_ _) | (with_reducible refine Kd.C_drew ?_))); (case side2 => exact HC0_5.out); rintro e w26 ⟨v280, rfl, ho0, hb⟩; refine ⟨_, rfl, ?_⟩; have n0_ := Aside0.mk (Kd.R_lower ho0 (below_size bs_)); have n1_ := Aside0.mk (blk_below (bk_ BK271) hb); have n2_ := Aside0.mk (blk_below (bk_ BK272) hb); have n3_ := Aside0.mk (below_step bs_ hb); clear BK271 BK272 HB; have HO281 := n0_; have BK271 := n1_; have BK272 := n2_; have HB := n3_; clear n0_ n1_ n2_ n3_; (try clear hb); (try clear hb2); (try clear hk); (try clear hi); (try clear ho0); obtain ⟨Ao27, co27, eo27⟩ := Kd.R_slice HO281.out; subst eo27) | ((with_reducible refine gate_dst (N := 7) rfl ?_); refine box_event ?hg (N := 7) ?hd (cs := #[.int .i64 0, .int .i64 0, .int .i64 0, .int .i64 0, .int .i64 0, .slice none 0 0]) (t := 25) ?hr ?_; (case hd => rfl); (case hg => rfl); (case hr => first | (go_simp; done) | (go_simp; rfl)); intro gb282 hg w28 hbox hb; have n0_ := Aside0.mk (Kd.R_below (rk_ HO281) hb); have n1_ := Aside0.mk (blk_below (bk_ BK271) hb); have n2_ := Aside0.mk (blk_below (bk_ BK272) hb); have n3_ := Aside0.mk (below_step bs_ hb); have n4_ := Aside0.mk (hbox); have n5_ := Aside0.mk ((by rw [hg]; exact (below_size bs_) : w.heap.size ≤ gb282)); have n6_ := Aside0.mk ((by rw [hg]; exact (below_size bs_) : w.heap.size ≤ gb282)); have n7_ := Aside0.mk ((by rw [hg]; exact Nat.ne_of_lt (blk_lt (bk_ BK271)) : gb271 ≠ gb282)); have n8_ := Aside0.mk ((by rw [hg]; exact Nat.ne_of_gt (blk_lt (bk_ BK271)) : gb282 ≠ gb271)); have n9_ := Aside0.mk ((by rw [hg]; exact Nat.ne_of_lt (blk_lt (bk_ BK272)) : gb272 ≠ gb282)); have n10_ := Aside0.mk ((by rw [hg]; exact Nat.ne_of_gt (blk_lt (bk_ BK272)) : gb282 ≠ gb272)); clear HO281 BK271 BK272 HB; have HO281 := n0_; have BK271 := n1_; have BK272 := n2_; have HB := n3_; have BK282 := n4_; have GW282 := n5_; have GE282 := n6_; have NB271_282 := n7_; have NB282_271 := n8_; have NB272_282 := n9_; have NB282_272 := n10_; clear n0_ n1_ n2_ n3_ n4_ n5_ n6_ n7_ n8_ n9_ n10_; clear hb hbox hg; have hnb29 := NB282_271.out; have hnc29 := NB271_282.out; have hnb30 := NB282_272.out; have hnc30 := NB272_282.out; obtain ⟨hcz31_0, hcz31_1, hcz31_2, hcz31_3, hcz31_4, hcz31_5, hfz31_0, hfz31_1, hfz31_2, hfz31_3, hfz31_4, hfz31_5⟩ := blk6 BK282) | ((with_reducible refine gate_store (t := 25) (p := 7) rfl ?_); refine store_event (t := 25) (p := 7) (v := ?vo_w32) (w1 := ((((((w28.setCell ⟨gb282, 0, none⟩ (.int .i64 t274)).setCell ⟨gb282, 1, none⟩ (.int .i64 t275)).setCell ⟨gb282, 2, none⟩ (.int .i64 t276)).setCell ⟨gb282, 3, none⟩ (.int .i64 t277)).setCell ⟨gb282, 4, none⟩ (.int .i64 t278)).setCell ⟨gb282, 5, none⟩ (.slice Ao27 t279.length co27))) ?hg ?ho ?hn ?hr ?_; (case ho => rfl); (case hg => rfl); (case hn => rfl); (case hr => first | (go_simp; done) | (go_simp; rfl)); intro w32 hw; have n0_ : Aside0 (Kd.R k43 43 w32 w.heap.size (fun _ => True) (.slice Ao27 t279.length co27) t279) := ⟨(by rw [hw]; exact (by (with_reducible repeat (first | apply Kd.R_alloc | apply Kd.R_drewN | apply Kd.R_drew)); exact Kd.R_mono (far6 gb282 (Kd.R_types HO281.out BK282.out (by decide)) (fun _ hk => hk.2)) (fun _ hk => trivial)))⟩; have n1_ : Aside0 (w32.heap[gb271]? = some (.cells #[.int .i64 a0_0, .int .i64 a0_1, .int .i64 a0_2, .int .i64 a0_3, .int .i64 a0_4, .slice A0_5 l0_5.length c0_5] 25 (0, 0))) := ⟨(by rw [hw]; exact (bf_ BK271))⟩; have n2_ : Aside0 (w32.heap[gb272]? = some (.cells #[.int .i64 0, .int .i64 0, .int .i64 0, .int .i64 0, .int .i64 0, .slice none 0 0] 25 (0, 0))) := ⟨(by rw [hw]; exact (bf_ BK272))⟩; have n3_ : Aside0 (w32.heap[gb282]? = some (.cells #[.int .i64 t274, .int .i64 t275, .int .i64 t276, .int .i64 t277, .int .i64 t278, .slice Ao27 t279.length co27] 25 (0, 0))) := ⟨(by rw [hw]; exact (bp_ BK282))⟩; have n4_ : Aside0 (Below w.heap.size w w32) := ⟨(by rw [hw]; exact bs_)⟩; clear hw HO281 BK271 BK272 BK282 HB; have HO281 := n0_; have BK271 := n1_; have BK272 := n2_; have BK282 := n3_; have HB := n4_; clear n0_ n1_ n2_ n3_ n4_; obtain ⟨hcz33_0, hcz33_1, hcz33_2, hcz33_3, hcz33_4, hcz33_5, hfz33_0, hfz33_1, hfz33_2, hfz33_3, hfz33_4, hfz33_5⟩ := blk6 BK282; have pz34 : (0 ≤ (a1 : Int)) = True := eq_true (of_decide_eq_true (by first | (with_reducible assumption) | assumption)); have qz34 : ((a1 : Int) < 4) = True := eq_true (of_decide_eq_true (by first | (with_reducible assumption) | assumption)); have hcz34_v : w32.cell? ⟨gb282, 1 + (a1).toNat, none⟩ = some (.int .i64 (sel4I t275 t276 t277 t278 a1)) := (blk_sel4I BK282.out rfl rfl rfl rfl (of_eq_true pz34) (of_eq_true qz34)); have hfz34_v := blk_frozen BK282.out (1 + (a1).toNat)) | ((with_reducible refine gate_store (t := 3) (p := 30) rfl ?_); refine store_event (t := 3) (p := 30) (v := ?vo_w35) (w1 := (w32.setCell ⟨gb282, 1 + (a1).toNat, none⟩ (.int .i64 0))) ?hg ?ho ?hn ?hr ?_; (case ho => rfl); (case hg => rfl); (case hn => rfl); (case hr => first | (go_simp; done) | (go_simp; rfl)); intro w35 hw; have n0_ : Aside0 (Kd.R k43 43 w35 w.heap.size (fun _ => True) (.slice Ao27 t279.length co27) t279) := ⟨(by rw [hw]; exact (by (with_reducible repeat (first | apply Kd.R_alloc | apply Kd.R_drewN | apply Kd.R_drew)); exact Kd.R_mono (Kd.R_far (p := ⟨gb282, 1 + (a1).toNat, none⟩) (Kd.R_types HO281.out BK282.out (by decide)) (fun _ hk => hk.2) (.int .i64 0)) (fun _ hk => trivial)))⟩; have n1_ : Aside0 (w35.heap[gb271]? = some (.cells #[.int .i64 a0_0, .int .i64 a0_1, .int .i64 a0_2, .int .i64 a0_3, .int .i64 a0_4, .slice A0_5 l0_5.length c0_5] 25 (0, 0))) := ⟨(by rw [hw]; exact (bf_ BK271))⟩; have n2_ : Aside0 (w35.heap[gb272]? = some (.cells #[.int .i64 0, .int .i64 0, .int .i64 0, .int .i64 0, .int .i64 0, .slice none 0 0] 25 (0, 0))) := ⟨(by rw [hw]; exact (bf_ BK272))⟩; have n3_ : Aside0 (w35.heap[gb282]? = some (.cells #[.int .i64 t274, .int .i64 (updI 0 a1 0 t275), .int .i64 (updI 1 a1 0 t276), .int .i64 (updI 2 a1 0 t277), .int .i64 (updI 3 a1 0 t278), .slice Ao27 t279.length co27] 25 (0, 0))) := ⟨(by rw [hw]; exact (by (with_reducible repeat (first | refine blk_drewN ?_ _ | refine blk_drew ?_ | refine blk_alloc ?_ _)); refine blk_upd4I (cs := #[.int .i64 t274, .int .i64 t275, .int .i64 t276, .int .i64 t277, .int .i64 t278, .slice Ao27 t279.length co27]) ?_ rfl rfl rfl rfl (of_eq_true pz34) (of_eq_true qz34) rfl; (with_reducible repeat (first | refine blk_drewN ?_ _ | refine blk_drew ?_ | refine blk_alloc ?_ _)); exact BK282.out))⟩; have n4_ : Aside0 (Below w.heap.size w w35) := ⟨(by rw [hw]; exact bs_)⟩; clear hw HO281 BK271 BK272 BK282 HB; have HO281 := n0_; have BK271 := n1_; have BK272 := n2_; have BK282 := n3_; have HB := n4_; clear n0_ n1_ n2_ n3_ n4_; obtain ⟨hcz36_0, hcz36_1, hcz36_2, hcz36_3, hcz36_4, hcz36_5, hfz36_0, hfz36_1, hfz36_2, hfz36_3, hfz36_4, hfz36_5⟩ := blk6 BK282; obtain ⟨hcz37_0, hcz37_1, hcz37_2, hcz37_3, hcz37_4, hcz37_5, hfz37_0, hfz37_1, hfz37_2, hfz37_3, hfz37_4, hfz37_5⟩ := blk6 BK272))
        refine bodyPost_ret (results_ct rfl _ _ gb272 25 #[.int .i64 t274, .int .i64 (updI 0 a1 0 t275), .int .i64 (updI 1 a1 0 t276), .int .i64 (updI 2 a1 0 t277), .int .i64 (updI 3 a1 0 t278), .slice Ao27 t279.length co27] (0, 0) _ rfl (bp_ BK272) Try.underlying25 rfl (by kernel_rfl)) rfl ?_
        exact ⟨_, by first | rfl | (simp [errW_none, errW_some] <;> rfl) | (simp [*, errW_none, errW_some] <;> rfl), by (with_reducible repeat (first | apply Kd.R_alloc | apply Kd.R_drewN | apply Kd.R_drew)); exact Kd.R_mono (far6 gb272 (Kd.R_types HO281.out BK272.out (by decide)) (fun _ hk => hk.2)) (fun _ hk => trivial), by repeat (first | (with_reducible first | exact HB.out | apply below_alloc | apply pw_below_drewN | apply below_drew1 | refine below_set ?_ GE271.out | refine below_set ?_ GE272.out | refine below_set ?_ GE282.out) | exact HB.out)⟩
      ·rw [if_neg c16] at H
       exact absurd H (by simp)
     ·rw [if_neg c15] at H
      exact absurd H (by simp)
 ·replace c4 := Bool.eq_false_iff.mpr c4
  subst c4
  have H1 : (some (0, 0, 0, 0, 0, ([] : List (S43)), 1)) = some (r1, r2, r3, r4, r5, r6, r7) := by rw [if_neg (show ¬ (false = true) by decide)] at H; exact H
  clear H
  have H := H1
  clear H1
  simp only [Option.some.injEq, Prod.mk.injEq] at H
  obtain ⟨rfl, rfl, rfl, rfl, rfl, rfl, rfl⟩ := H
  go_enter Try.func15, Try.ntmps15
  go_wp2_with (first | ((with_reducible refine gate_dst (N := 2) rfl ?_); refine box_event ?hg (N := 2) ?hd (cs := #[.int .i64 a0_0, .int .i64 a0_1, .int .i64 a0_2, .int .i64 a0_3, .int .i64 a0_4, .slice A0_5 l0_5.length c0_5]) (t := 25) ?hr ?_; (case hd => rfl); (case hg => rfl); (case hr => first | (go_simp; done) | (go_simp; rfl)); intro gb271 hg w38 hbox hb; have n0_ := Aside0.mk (below_step bs_ hb); have n1_ := Aside0.mk (hbox); have n2_ := Aside0.mk ((by rw [hg]; exact (below_size bs_) : w.heap.size ≤ gb271)); have n3_ := Aside0.mk ((by rw [hg]; exact (below_size bs_) : w.heap.size ≤ gb271)); clear HB; have HB := n0_; have BK271 := n1_; have GW271 := n2_; have GE271 := n3_; clear n0_ n1_ n2_ n3_; clear hb hbox hg) | ((with_reducible refine gate_dst (N := 4) rfl ?_); refine box_event ?hg (N := 4) ?hd (cs := #[.int .i64 0, .int .i64 0, .int .i64 0, .int .i64 0, .int .i64 0, .slice none 0 0]) (t := 25) ?hr ?_; (case hd => rfl); (case hg => rfl); (case hr => first | (go_simp; done) | (go_simp; rfl)); intro gb272 hg w39 hbox hb; have n0_ := Aside0.mk (blk_below (bk_ BK271) hb); have n1_ := Aside0.mk (below_step bs_ hb); have n2_ := Aside0.mk (hbox); have n3_ := Aside0.mk ((by rw [hg]; exact (below_size bs_) : w.heap.size ≤ gb272)); have n4_ := Aside0.mk ((by rw [hg]; exact (below_size bs_) : w.heap.size ≤ gb272)); have n5_ := Aside0.mk ((by rw [hg]; exact Nat.ne_of_lt (blk_lt (bk_ BK271)) : gb271 ≠ gb272)); have n6_ := Aside0.mk ((by rw [hg]; exact Nat.ne_of_gt (blk_lt (bk_ BK271)) : gb272 ≠ gb271)); clear BK271 HB; have BK271 := n0_; have HB := n1_; have BK272 := n2_; have GW272 := n3_; have GE272 := n4_; have NB271_272 := n5_; have NB272_271 := n6_; clear n0_ n1_ n2_ n3_ n4_ n5_ n6_; clear hb hbox hg; have hnb40 := NB271_272.out; have hnc40 := NB272_271.out; obtain ⟨hcz41_0, hcz41_1, hcz41_2, hcz41_3, hcz41_4, hcz41_5, hfz41_0, hfz41_1, hfz41_2, hfz41_3, hfz41_4, hfz41_5⟩ := blk6 BK271) | ((with_reducible refine gate_callee (f := 24) rfl ?_); refine goesL_ (some 9) rfl rfl Try.func24 (by kernel_rfl) rfl #[.agg #[.int .i64 a0_0, .int .i64 a0_1, .int .i64 a0_2, .int .i64 a0_3, .int .i64 a0_4, .slice A0_5 l0_5.length c0_5]] rfl (by (try simp only [List.map_toArray, List.map_cons, List.map_nil]); first | done | rfl | (simp only [List.length_drop, List.length_take]; rfl)) ?_; (with_reducible refine (drydockref17_May.calls k a0_0 a0_1 a0_2 a0_3 a0_4 _ _ l0_5 false _ ?side1 ?side2 A3.out).mono ?_); (case side1 => repeat (first | exact (Kd.C_below HR0_5.out HB.out) | (with_reducible refine Kd.C_alloc ?_ _) | (with_reducible refine Kd.C_drewN ?_ _) | (with_reducible refine Kd.C_drew ?_))); (case side2 => exact HC0_5.out); rintro e w42 ⟨rfl, hb⟩; refine ⟨_, rfl, ?_⟩; have n0_ := Aside0.mk (blk_below (bk_ BK271) hb); have n1_ := Aside0.mk (blk_below (bk_ BK272) hb); have n2_ := Aside0.mk (below_step bs_ hb); clear BK271 BK272 HB; have BK271 := n0_; have BK272 := n1_; have HB := n2_; clear n0_ n1_ n2_; (try clear hb); (try clear hb2); (try clear hk); (try clear hi); obtain ⟨hcz43_0, hcz43_1, hcz43_2, hcz43_3, hcz43_4, hcz43_5, hfz43_0, hfz43_1, hfz43_2, hfz43_3, hfz43_4, hfz43_5⟩ := blk6 BK272))
  refine bodyPost_ret (results_ct rfl _ _ gb272 25 #[.int .i64 0, .int .i64 0, .int .i64 0, .int .i64 0, .int .i64 0, .slice none 0 0] (0, 0) _ rfl (bp_ BK272) Try.underlying25 rfl (by kernel_rfl)) rfl ?_
  exact ⟨_, by first | rfl | (simp [errW_none, errW_some] <;> rfl) | (simp [*, errW_none, errW_some] <;> rfl), by first | exact Kd.R_nil _ _ _ _ _ | exact Kd.N_nil _ _ _ _ _ | exact Kd.V_nil _ _ _ _ _ | exact Kd.Q_nil _ _ _ _ _ | exact Kd.S_nil _ _ _ _ _, by repeat (first | (with_reducible first | exact HB.out | apply below_alloc | apply pw_below_drewN | apply below_drew1 | refine below_set ?_ GE271.out | refine below_set ?_ GE272.out) | exact HB.out)⟩

end Go.Proofs.Ytipnfcicpnmggaa.P
