-- Written by a program of this session over the kit's print of the translation. Lean checks it.
import Derived.Test.YtipnfcicpnmggaaPx0
import Derived.Test.YtipnfcicpnmggaaPx11
import Derived.Test.YtipnfcicpnmggaaPx12
import Derived.Test.YtipnfcicpnmggaaPx13
-- shorter
namespace Go.Proofs.Ytipnfcicpnmggaa.P
open Go.RowKit Go.Proofs.YtipnfcicpnmggaaW.PrintWords Go.Proofs.YtipnfcicpnmggaaW.PrintLast Go.Proofs.YtipnfcicpnmggaaW.PrintMore
attribute [local go_sem] max2_int min2_int max_two min_two max_three min_three max_four min_four   -- for this text's walks alone
set_option linter.unusedVariables false
set_option linter.unusedSimpArgs false

/-! ### drydockref17_Retire: function 17 -/
def drydockref17_Retire.j0 : Nat → Int → Bool → Int → Int → Int → Int → Int → List (S43) → Option (Int × Int × Int × Int × Int × (List (S43)) × Int)
  | 0, _, _, _, _, _, _, _, _ => none
  | k + 1, x1, x20, x284000, x284001, x284002, x284003, x284004, x284005 => if x20 = true then (some (0, 0, 0, 0, 0, ([] : List (S43)), 1)) else (if x284000 ≥ 1073741824 then (some (0, 0, 0, 0, 0, ([] : List (S43)), 2)) else (if (x284005.length : Int) ≥ 16 then (some (0, 0, 0, 0, 0, ([] : List (S43)), 4)) else ((drydockref17_Own.f x284000 x284001 x284002 x284003 x284004 x284005).bind fun bt287 => (if bt287.2.2.2.2.2.length < 8796093022208 then (some (wrap64 (x284000 + 1), bt287.2.1, bt287.2.2.1, bt287.2.2.2.1, bt287.2.2.2.2.1, (bt287.2.2.2.2.2 ++ [(⟨x1, x284000⟩ : S43)]), 0)) else (none)))))
def drydockref17_Retire.f (k : Nat) (a0_0 : Int) (a0_1 : Int) (a0_2 : Int) (a0_3 : Int) (a0_4 : Int) (l0_5 : List (S43)) (a1 : Int) : Option (Int × Int × Int × Int × Int × (List (S43)) × Int) := (drydockref17_May.f k a0_0 a0_1 a0_2 a0_3 a0_4 l0_5).bind fun t285 => (if t285 = true then (if a1 < 1 then (drydockref17_Retire.j0 k a1 true a0_0 a0_1 a0_2 a0_3 a0_4 l0_5) else ((drydockref17_has.f k a0_0 a0_1 a0_2 a0_3 a0_4 l0_5 a1).bind fun t286 => (drydockref17_Retire.j0 k a1 t286 a0_0 a0_1 a0_2 a0_3 a0_4 l0_5))) else (drydockref17_Retire.j0 k a1 true a0_0 a0_1 a0_2 a0_3 a0_4 l0_5))
theorem drydockref17_Retire.mono_l : ∀ k, (∀ y0 y1 y2 y3 y4 y5 y6 y7, LeO (drydockref17_Retire.j0 k y0 y1 y2 y3 y4 y5 y6 y7) (drydockref17_Retire.j0 (k + 1) y0 y1 y2 y3 y4 y5 y6 y7))
  | 0 => fun _ _ _ _ _ _ _ _ r h => by simp [drydockref17_Retire.j0] at h
  | k + 1 => by
    have ih0 := drydockref17_Retire.mono_l k
    · intro y0 y1 y2 y3 y4 y5 y6 y7
      unfold drydockref17_Retire.j0
      repeat' first
      | (with_reducible exact ih0 _ _ _ _ _ _ _ _)
      | (with_reducible exact drydockref17_May.mono _ _ _ _ _ _ _)
      | (with_reducible exact drydockref17_has.mono _ _ _ _ _ _ _ _)
      | (with_reducible exact LeO.refl _)
      | (with_reducible exact LeO.none _)
      | (with_reducible refine LeO.ite ?_ ?_)
      | (with_reducible refine LeO.bind ?_ (fun _ => ?_))
      | exact ih0 _ _ _ _ _ _ _ _
      | exact drydockref17_May.mono _ _ _ _ _ _ _
      | exact drydockref17_has.mono _ _ _ _ _ _ _ _
      | exact LeO.none _
      | refine LeO.ite ?_ ?_
      | refine LeO.bind ?_ (fun _ => ?_)
theorem drydockref17_Retire.mono : ∀ a0 a1 a2 a3 a4 a5 a6 k, LeO (drydockref17_Retire.f k a0 a1 a2 a3 a4 a5 a6) (drydockref17_Retire.f (k + 1) a0 a1 a2 a3 a4 a5 a6) := by
 intro a0 a1 a2 a3 a4 a5 a6 k
 have ih0 := drydockref17_Retire.mono_l k
 unfold drydockref17_Retire.f
 repeat' first
  | (with_reducible exact ih0 _ _ _ _ _ _ _ _)
  | (with_reducible exact drydockref17_May.mono _ _ _ _ _ _ _)
  | (with_reducible exact drydockref17_has.mono _ _ _ _ _ _ _ _)
  | (with_reducible exact LeO.refl _)
  | (with_reducible exact LeO.none _)
  | (with_reducible refine LeO.ite ?_ ?_)
  | (with_reducible refine LeO.bind ?_ (fun _ => ?_))
  | exact ih0 _ _ _ _ _ _ _ _
  | exact drydockref17_May.mono _ _ _ _ _ _ _
  | exact drydockref17_has.mono _ _ _ _ _ _ _ _
  | exact LeO.none _
  | refine LeO.ite ?_ ?_
  | refine LeO.bind ?_ (fun _ => ?_)
set_option maxHeartbeats 8000000 in
set_option maxRecDepth 100000 in
theorem drydockref17_Retire.calls (k : Nat) (a0_0 : Int) (a0_1 : Int) (a0_2 : Int) (a0_3 : Int) (a0_4 : Int) (A0_5 : Option Addr) (c0_5 : Nat) (l0_5 : List (S43)) (a1 : Int) (r1 : Int) (r2 : Int) (r3 : Int) (r4 : Int) (r5 : Int) (r6 : List (S43)) (r7 : Int) (w : World) (hr0_5 : Kd.C k43 w A0_5 l0_5.length l0_5) (hc0_5 : l0_5.length ≤ c0_5) (h : drydockref17_Retire.f k a0_0 a0_1 a0_2 a0_3 a0_4 l0_5 a1 = some (r1, r2, r3, r4, r5, r6, r7)) :
    Calls Try.prog 17 #[.agg #[.int .i64 a0_0, .int .i64 a0_1, .int .i64 a0_2, .int .i64 a0_3, .int .i64 a0_4, .slice A0_5 l0_5.length c0_5], .int .i64 a1] w fun e w' => ∃ v5_ : Value, e = .returned (.tuple #[.agg #[.int .i64 r1, .int .i64 r2, .int .i64 r3, .int .i64 r4, .int .i64 r5, v5_], .int .i64 r7]) ∧ Kd.R k43 43 w' w.heap.size (fun _ => True) v5_ r6 ∧ Below w.heap.size w w' := by
 have hu25 := Try.underlying25
 have hu43 := Try.underlying43
 have HR0_5 := Aside0.mk hr0_5
 have HC0_5 := Aside0.mk hc0_5
 clear hr0_5 hc0_5
 have HB := Aside0.mk (Below.refl w.heap.size w)
 have H : ((drydockref17_May.f k a0_0 a0_1 a0_2 a0_3 a0_4 l0_5).bind fun t285 => (if t285 = true then (if a1 < 1 then (drydockref17_Retire.j0 k a1 true a0_0 a0_1 a0_2 a0_3 a0_4 l0_5) else ((drydockref17_has.f k a0_0 a0_1 a0_2 a0_3 a0_4 l0_5 a1).bind fun t286 => (drydockref17_Retire.j0 k a1 t286 a0_0 a0_1 a0_2 a0_3 a0_4 l0_5))) else (drydockref17_Retire.j0 k a1 true a0_0 a0_1 a0_2 a0_3 a0_4 l0_5))) = some (r1, r2, r3, r4, r5, r6, r7) := h
 clear h
 replace H := Option.bind_eq_some_iff.mp H
 obtain ⟨t285, A30, H⟩ := H
 replace H : (if t285 = true then (if a1 < 1 then (drydockref17_Retire.j0 k a1 true a0_0 a0_1 a0_2 a0_3 a0_4 l0_5) else ((drydockref17_has.f k a0_0 a0_1 a0_2 a0_3 a0_4 l0_5 a1).bind fun t286 => (drydockref17_Retire.j0 k a1 t286 a0_0 a0_1 a0_2 a0_3 a0_4 l0_5))) else (drydockref17_Retire.j0 k a1 true a0_0 a0_1 a0_2 a0_3 a0_4 l0_5)) = some (r1, r2, r3, r4, r5, r6, r7) := H
 have A3 := Aside0.mk A30
 clear A30
 have HC4 := Aside0.mk H
 clear H
 go_enter Try.func17, Try.ntmps17
 go_upto_region 2 with (first | ((with_reducible refine gate_dst (N := 2) rfl ?_); refine box_event ?hg (N := 2) ?hd (cs := #[.int .i64 a0_0, .int .i64 a0_1, .int .i64 a0_2, .int .i64 a0_3, .int .i64 a0_4, .slice A0_5 l0_5.length c0_5]) (t := 25) ?hr ?_; (case hd => rfl); (case hg => rfl); (case hr => first | (go_simp; done) | (go_simp; rfl)); intro gb283 hg w5 hbox hb; have n0_ := Aside0.mk (below_step bs_ hb); have n1_ := Aside0.mk (hbox); have n2_ := Aside0.mk ((by rw [hg]; exact (below_size bs_) : w.heap.size ≤ gb283)); have n3_ := Aside0.mk ((by rw [hg]; exact (below_size bs_) : w.heap.size ≤ gb283)); clear HB; have HB := n0_; have BK283 := n1_; have GW283 := n2_; have GE283 := n3_; clear n0_ n1_ n2_ n3_; clear hb hbox hg) | ((with_reducible refine gate_dst (N := 4) rfl ?_); refine box_event ?hg (N := 4) ?hd (cs := #[.int .i64 0, .int .i64 0, .int .i64 0, .int .i64 0, .int .i64 0, .slice none 0 0]) (t := 25) ?hr ?_; (case hd => rfl); (case hg => rfl); (case hr => first | (go_simp; done) | (go_simp; rfl)); intro gb284 hg w6 hbox hb; have n0_ := Aside0.mk (blk_below (bk_ BK283) hb); have n1_ := Aside0.mk (below_step bs_ hb); have n2_ := Aside0.mk (hbox); have n3_ := Aside0.mk ((by rw [hg]; exact (below_size bs_) : w.heap.size ≤ gb284)); have n4_ := Aside0.mk ((by rw [hg]; exact (below_size bs_) : w.heap.size ≤ gb284)); have n5_ := Aside0.mk ((by rw [hg]; exact Nat.ne_of_lt (blk_lt (bk_ BK283)) : gb283 ≠ gb284)); have n6_ := Aside0.mk ((by rw [hg]; exact Nat.ne_of_gt (blk_lt (bk_ BK283)) : gb284 ≠ gb283)); clear BK283 HB; have BK283 := n0_; have HB := n1_; have BK284 := n2_; have GW284 := n3_; have GE284 := n4_; have NB283_284 := n5_; have NB284_283 := n6_; clear n0_ n1_ n2_ n3_ n4_ n5_ n6_; clear hb hbox hg; have hnb7 := NB283_284.out; have hnc7 := NB284_283.out; obtain ⟨hcz8_0, hcz8_1, hcz8_2, hcz8_3, hcz8_4, hcz8_5, hfz8_0, hfz8_1, hfz8_2, hfz8_3, hfz8_4, hfz8_5⟩ := blk6 BK283) | ((with_reducible refine gate_callee (f := 24) rfl ?_); refine goesL_ (some 9) rfl rfl Try.func24 (by kernel_rfl) rfl #[.agg #[.int .i64 a0_0, .int .i64 a0_1, .int .i64 a0_2, .int .i64 a0_3, .int .i64 a0_4, .slice A0_5 l0_5.length c0_5]] rfl (by (try simp only [List.map_toArray, List.map_cons, List.map_nil]); first | done | rfl | (simp only [List.length_drop, List.length_take]; rfl)) ?_; (with_reducible refine (drydockref17_May.calls k a0_0 a0_1 a0_2 a0_3 a0_4 _ _ l0_5 t285 _ ?side1 ?side2 A3.out).mono ?_); (case side1 => repeat (first | exact (Kd.C_below HR0_5.out HB.out) | (with_reducible refine Kd.C_alloc ?_ _) | (with_reducible refine Kd.C_drewN ?_ _) | (with_reducible refine Kd.C_drew ?_))); (case side2 => exact HC0_5.out); rintro e w9 ⟨rfl, hb⟩; refine ⟨_, rfl, ?_⟩; have n0_ := Aside0.mk (blk_below (bk_ BK283) hb); have n1_ := Aside0.mk (blk_below (bk_ BK284) hb); have n2_ := Aside0.mk (below_step bs_ hb); clear BK283 BK284 HB; have BK283 := n0_; have BK284 := n1_; have HB := n2_; clear n0_ n1_ n2_; (try clear hb); (try clear hb2); (try clear hk); (try clear hi)))
 (try simp only [Act.put, List.setIfInBounds_toArray, List.set_cons_zero, List.set_cons_succ])
 go_cut [20] (fun v20 wc => ∃ (kq : Nat) (x20_3 : Bool), v20 = .bool x20_3 ∧ Aside0 (drydockref17_Retire.j0 kq a1 x20_3 a0_0 a0_1 a0_2 a0_3 a0_4 l0_5 = some (r1, r2, r3, r4, r5, r6, r7)) ∧ Aside0 (kq ≤ k) ∧ Aside0 (wc.heap[gb283]? = some (.cells #[.int .i64 a0_0, .int .i64 a0_1, .int .i64 a0_2, .int .i64 a0_3, .int .i64 a0_4, (.slice A0_5 l0_5.length c0_5)] 25 (0, 0))) ∧ Aside0 (wc.heap[gb284]? = some (.cells #[.int .i64 0, .int .i64 0, .int .i64 0, .int .i64 0, .int .i64 0, (.slice none 0 0)] 25 (0, 0))) ∧ Aside0 (Below w.heap.size w wc))
 case first =>
  have H := HC4.out
  clear HC4
  by_cases c10 : t285 = true
  ·subst c10
   have H1 : (if a1 < 1 then (drydockref17_Retire.j0 k a1 true a0_0 a0_1 a0_2 a0_3 a0_4 l0_5) else ((drydockref17_has.f k a0_0 a0_1 a0_2 a0_3 a0_4 l0_5 a1).bind fun t286 => (drydockref17_Retire.j0 k a1 t286 a0_0 a0_1 a0_2 a0_3 a0_4 l0_5))) = some (r1, r2, r3, r4, r5, r6, r7) := by rw [if_pos rfl] at H; exact H
   clear H
   have H := H1
   clear H1
   by_cases c11 : a1 < 1
   ·rw [if_pos c11] at H
    have c11b0 : decide (a1 < 1) = true := decide_eq_true c11
    clear c11
    (first | rw [c11b0] | (simp only [i64_w, i32_w]; rw [c11b0]) | skip)
    have H' := Aside0.mk H
    clear H
    go_wp2
    go_meet
    case rel => exact ⟨_, (true), eq_, H', ⟨by first | omega | exact Nat.le_refl _⟩, ⟨bk_ BK283⟩, ⟨bk_ BK284⟩, ⟨bs_⟩⟩
   ·rw [if_neg c11] at H
    have c11b0 : decide (a1 < 1) = false := decide_eq_false c11
    clear c11
    (first | rw [c11b0] | (simp only [i64_w, i32_w]; rw [c11b0]) | skip)
    replace H := Option.bind_eq_some_iff.mp H
    obtain ⟨t286, A120, H⟩ := H
    replace H : (drydockref17_Retire.j0 k a1 t286 a0_0 a0_1 a0_2 a0_3 a0_4 l0_5) = some (r1, r2, r3, r4, r5, r6, r7) := H
    have A12 := Aside0.mk A120
    clear A120
    have H' := Aside0.mk H
    clear H
    have hnb13 := NB283_284.out
    have hnc13 := NB284_283.out
    obtain ⟨hcz14_0, hcz14_1, hcz14_2, hcz14_3, hcz14_4, hcz14_5, hfz14_0, hfz14_1, hfz14_2, hfz14_3, hfz14_4, hfz14_5⟩ := blk6 BK283
    go_wp2_with (first | (go_at_call 28; (with_reducible refine (drydockref17_has.calls k a0_0 a0_1 a0_2 a0_3 a0_4 _ _ l0_5 a1 t286 _ ?side1 ?side2 A12.out).mono ?_); (case side1 => repeat (first | exact (Kd.C_below HR0_5.out HB.out) | (with_reducible refine Kd.C_alloc ?_ _) | (with_reducible refine Kd.C_drewN ?_ _) | (with_reducible refine Kd.C_drew ?_))); (case side2 => exact HC0_5.out); rintro e w15 ⟨rfl, hb⟩; have n0_ := Aside0.mk (blk_below (bk_ BK283) hb); have n1_ := Aside0.mk (blk_below (bk_ BK284) hb); have n2_ := Aside0.mk (below_step bs_ hb); clear BK283 BK284 HB; have BK283 := n0_; have BK284 := n1_; have HB := n2_; clear n0_ n1_ n2_; (try clear hb); (try clear hb2); (try clear hk); (try clear hi)))
    go_meet
    case rel => exact ⟨_, (t286), eq_, H', ⟨by first | omega | exact Nat.le_refl _⟩, ⟨bk_ BK283⟩, ⟨bk_ BK284⟩, ⟨bs_⟩⟩
  ·replace c10 := Bool.eq_false_iff.mpr c10
   subst c10
   have H1 : (drydockref17_Retire.j0 k a1 true a0_0 a0_1 a0_2 a0_3 a0_4 l0_5) = some (r1, r2, r3, r4, r5, r6, r7) := by rw [if_neg (show ¬ (false = true) by decide)] at H; exact H
   clear H
   have H := H1
   clear H1
   have H' := Aside0.mk H
   clear H
   go_wp2
   go_meet
   case rel => exact ⟨_, (true), eq_, H', ⟨by first | omega | exact Nat.le_refl _⟩, ⟨bk_ BK283⟩, ⟨bk_ BK284⟩, ⟨bs_⟩⟩
 case rest =>
  clear HC4
  obtain ⟨kq, x20_3, rfl, HA, HJ3, BK283, BK284, HB⟩ := hcut
  cases kq with
  | zero => exact absurd HA.out (by simp [drydockref17_Retire.j0])
  | succ kj3 =>
   have H := HA.out
   clear HA
   simp only [drydockref17_Retire.j0] at H
   by_cases c16 : x20_3 = true
   ·subst c16
    have H1 : (some (0, 0, 0, 0, 0, ([] : List (S43)), 1)) = some (r1, r2, r3, r4, r5, r6, r7) := by rw [if_pos rfl] at H; exact H
    clear H
    have H := H1
    clear H1
    simp only [Option.some.injEq, Prod.mk.injEq] at H
    obtain ⟨rfl, rfl, rfl, rfl, rfl, rfl, rfl⟩ := H
    have hnb17 := NB284_283.out
    have hnc17 := NB283_284.out
    obtain ⟨hcz18_0, hcz18_1, hcz18_2, hcz18_3, hcz18_4, hcz18_5, hfz18_0, hfz18_1, hfz18_2, hfz18_3, hfz18_4, hfz18_5⟩ := blk6 BK284
    go_wp2
    refine bodyPost_ret (results_ct rfl _ _ gb284 25 #[.int .i64 0, .int .i64 0, .int .i64 0, .int .i64 0, .int .i64 0, .slice none 0 0] (0, 0) _ rfl (bp_ BK284) Try.underlying25 rfl (by kernel_rfl)) rfl ?_
    exact ⟨_, by first | rfl | (simp [errW_none, errW_some] <;> rfl) | (simp [*, errW_none, errW_some] <;> rfl), by first | exact Kd.R_nil _ _ _ _ _ | exact Kd.N_nil _ _ _ _ _ | exact Kd.V_nil _ _ _ _ _ | exact Kd.Q_nil _ _ _ _ _ | exact Kd.S_nil _ _ _ _ _, by repeat (first | (with_reducible first | exact HB.out | apply below_alloc | apply pw_below_drewN | apply below_drew1 | refine below_set ?_ GE283.out | refine below_set ?_ GE284.out) | exact HB.out)⟩
   ·replace c16 := Bool.eq_false_iff.mpr c16
    subst c16
    have H1 : (if a0_0 ≥ 1073741824 then (some (0, 0, 0, 0, 0, ([] : List (S43)), 2)) else (if (l0_5.length : Int) ≥ 16 then (some (0, 0, 0, 0, 0, ([] : List (S43)), 4)) else ((drydockref17_Own.f a0_0 a0_1 a0_2 a0_3 a0_4 l0_5).bind fun bt287 => (if bt287.2.2.2.2.2.length < 8796093022208 then (some (wrap64 (a0_0 + 1), bt287.2.1, bt287.2.2.1, bt287.2.2.2.1, bt287.2.2.2.2.1, (bt287.2.2.2.2.2 ++ [(⟨a1, a0_0⟩ : S43)]), 0)) else (none))))) = some (r1, r2, r3, r4, r5, r6, r7) := by rw [if_neg (show ¬ (false = true) by decide)] at H; exact H
    clear H
    have H := H1
    clear H1
    by_cases c19 : a0_0 ≥ 1073741824
    ·rw [if_pos c19] at H
     have c19b0 : decide (1073741824 ≤ a0_0) = true := decide_eq_true c19
     clear c19
     simp only [Option.some.injEq, Prod.mk.injEq] at H
     obtain ⟨rfl, rfl, rfl, rfl, rfl, rfl, rfl⟩ := H
     have hnb20 := NB283_284.out
     have hnc20 := NB284_283.out
     obtain ⟨hcz21_0, hcz21_1, hcz21_2, hcz21_3, hcz21_4, hcz21_5, hfz21_0, hfz21_1, hfz21_2, hfz21_3, hfz21_4, hfz21_5⟩ := blk6 BK283
     obtain ⟨hcz22_0, hcz22_1, hcz22_2, hcz22_3, hcz22_4, hcz22_5, hfz22_0, hfz22_1, hfz22_2, hfz22_3, hfz22_4, hfz22_5⟩ := blk6 BK284
     go_wp2
     refine bodyPost_ret (results_ct rfl _ _ gb284 25 #[.int .i64 0, .int .i64 0, .int .i64 0, .int .i64 0, .int .i64 0, .slice none 0 0] (0, 0) _ rfl (bp_ BK284) Try.underlying25 rfl (by kernel_rfl)) rfl ?_
     exact ⟨_, by first | rfl | (simp [errW_none, errW_some] <;> rfl) | (simp [*, errW_none, errW_some] <;> rfl), by first | exact Kd.R_nil _ _ _ _ _ | exact Kd.N_nil _ _ _ _ _ | exact Kd.V_nil _ _ _ _ _ | exact Kd.Q_nil _ _ _ _ _ | exact Kd.S_nil _ _ _ _ _, by repeat (first | (with_reducible first | exact HB.out | apply below_alloc | apply pw_below_drewN | apply below_drew1 | refine below_set ?_ GE283.out | refine below_set ?_ GE284.out) | exact HB.out)⟩
    ·rw [if_neg c19] at H
     have c19b0 : decide (1073741824 ≤ a0_0) = false := decide_eq_false c19
     clear c19
     by_cases c23 : (l0_5.length : Int) ≥ 16
     ·rw [if_pos c23] at H
      have c23b0 : decide (16 ≤ (l0_5.length : Int)) = true := decide_eq_true c23
      have c23b1 : decide (16 ≤ l0_5.length) = true := decide_eq_true (by omega)
      clear c23
      simp only [Option.some.injEq, Prod.mk.injEq] at H
      obtain ⟨rfl, rfl, rfl, rfl, rfl, rfl, rfl⟩ := H
      have hnb24 := NB283_284.out
      have hnc24 := NB284_283.out
      obtain ⟨hcz25_0, hcz25_1, hcz25_2, hcz25_3, hcz25_4, hcz25_5, hfz25_0, hfz25_1, hfz25_2, hfz25_3, hfz25_4, hfz25_5⟩ := blk6 BK283
      obtain ⟨hcz26_0, hcz26_1, hcz26_2, hcz26_3, hcz26_4, hcz26_5, hfz26_0, hfz26_1, hfz26_2, hfz26_3, hfz26_4, hfz26_5⟩ := blk6 BK284
      go_wp2
      refine bodyPost_ret (results_ct rfl _ _ gb284 25 #[.int .i64 0, .int .i64 0, .int .i64 0, .int .i64 0, .int .i64 0, .slice none 0 0] (0, 0) _ rfl (bp_ BK284) Try.underlying25 rfl (by kernel_rfl)) rfl ?_
      exact ⟨_, by first | rfl | (simp [errW_none, errW_some] <;> rfl) | (simp [*, errW_none, errW_some] <;> rfl), by first | exact Kd.R_nil _ _ _ _ _ | exact Kd.N_nil _ _ _ _ _ | exact Kd.V_nil _ _ _ _ _ | exact Kd.Q_nil _ _ _ _ _ | exact Kd.S_nil _ _ _ _ _, by repeat (first | (with_reducible first | exact HB.out | apply below_alloc | apply pw_below_drewN | apply below_drew1 | refine below_set ?_ GE283.out | refine below_set ?_ GE284.out) | exact HB.out)⟩
     ·rw [if_neg c23] at H
      have c23b0 : decide (16 ≤ (l0_5.length : Int)) = false := decide_eq_false c23
      have c23b1 : decide (16 ≤ l0_5.length) = false := decide_eq_false (by omega)
      clear c23
      replace H := Option.bind_eq_some_iff.mp H
      obtain ⟨⟨t287, t288, t289, t290, t291, t292⟩, A270, H⟩ := H
      replace H : (if t292.length < 8796093022208 then (some (wrap64 (a0_0 + 1), t288, t289, t290, t291, (t292 ++ [(⟨a1, a0_0⟩ : S43)]), 0)) else (none)) = some (r1, r2, r3, r4, r5, r6, r7) := H
      have A27 := Aside0.mk A270
      clear A270
      by_cases c28 : t292.length < 8796093022208
      ·rw [if_pos c28] at H
       have LMc28 := Aside0.mk c28
       clear c28
       obtain ⟨y296, hy296⟩ : ∃ y_ : List (S43), y_ = (t292 ++ [(⟨a1, a0_0⟩ : S43)]) := ⟨_, rfl⟩
       replace H : (some (wrap64 (a0_0 + 1), t288, t289, t290, t291, y296, 0)) = some (r1, r2, r3, r4, r5, r6, r7) := by first | (rw [hy296]; with_reducible exact H) | (have H2_ := (Option.bind_some _ _).symm.trans H; rw [hy296]; with_reducible exact H2_) | (have H2_ := (Option.bind_some _ _).symm.trans H; with_reducible exact H2_) | with_reducible exact H | (rw [hy296]; exact H) | exact H
       have Ny296 := Aside0.mk hy296
       clear hy296
       simp only [Option.some.injEq, Prod.mk.injEq] at H
       obtain ⟨rfl, rfl, rfl, rfl, rfl, rfl, rfl⟩ := H
       have hnb29 := NB283_284.out
       have hnc29 := NB284_283.out
       obtain ⟨hcz30_0, hcz30_1, hcz30_2, hcz30_3, hcz30_4, hcz30_5, hfz30_0, hfz30_1, hfz30_2, hfz30_3, hfz30_4, hfz30_5⟩ := blk6 BK283
       go_wp2_with (first | ((with_reducible refine gate_callee (f := 10) rfl ?_); refine goesL_ (some 32) rfl rfl Try.func10 (by kernel_rfl) rfl #[.agg #[.int .i64 a0_0, .int .i64 a0_1, .int .i64 a0_2, .int .i64 a0_3, .int .i64 a0_4, .slice A0_5 l0_5.length c0_5]] rfl (by (try simp only [List.map_toArray, List.map_cons, List.map_nil]); first | done | rfl | (simp only [List.length_drop, List.length_take]; rfl)) ?_; (with_reducible refine (drydockref17_Own.calls a0_0 a0_1 a0_2 a0_3 a0_4 _ _ l0_5 t287 t288 t289 t290 t291 t292 _ ?side1 ?side2 A27.out).mono ?_); (case side1 => repeat (first | exact (Kd.C_below HR0_5.out HB.out) | (with_reducible refine Kd.C_alloc ?_ _) | (with_reducible refine Kd.C_drewN ?_ _) | (with_reducible refine Kd.C_drew ?_))); (case side2 => exact HC0_5.out); rintro e w31 ⟨v293, rfl, ho0, hb⟩; refine ⟨_, rfl, ?_⟩; have n0_ := Aside0.mk (Kd.R_lower ho0 (below_size bs_)); have n1_ := Aside0.mk (blk_below (bk_ BK283) hb); have n2_ := Aside0.mk (blk_below (bk_ BK284) hb); have n3_ := Aside0.mk (below_step bs_ hb); clear BK283 BK284 HB; have HO294 := n0_; have BK283 := n1_; have BK284 := n2_; have HB := n3_; clear n0_ n1_ n2_ n3_; (try clear hb); (try clear hb2); (try clear hk); (try clear hi); (try clear ho0); obtain ⟨Ao32, co32, eo32⟩ := Kd.R_slice HO294.out; subst eo32) | ((with_reducible refine gate_dst (N := 7) rfl ?_); refine box_event ?hg (N := 7) ?hd (cs := #[.int .i64 0, .int .i64 0, .int .i64 0, .int .i64 0, .int .i64 0, .slice none 0 0]) (t := 25) ?hr ?_; (case hd => rfl); (case hg => rfl); (case hr => first | (go_simp; done) | (go_simp; rfl)); intro gb295 hg w33 hbox hb; have n0_ := Aside0.mk (Kd.R_below (rk_ HO294) hb); have n1_ := Aside0.mk (blk_below (bk_ BK283) hb); have n2_ := Aside0.mk (blk_below (bk_ BK284) hb); have n3_ := Aside0.mk (below_step bs_ hb); have n4_ := Aside0.mk (hbox); have n5_ := Aside0.mk ((by rw [hg]; exact (below_size bs_) : w.heap.size ≤ gb295)); have n6_ := Aside0.mk ((by rw [hg]; exact (below_size bs_) : w.heap.size ≤ gb295)); have n7_ := Aside0.mk ((by rw [hg]; exact Nat.ne_of_lt (blk_lt (bk_ BK283)) : gb283 ≠ gb295)); have n8_ := Aside0.mk ((by rw [hg]; exact Nat.ne_of_gt (blk_lt (bk_ BK283)) : gb295 ≠ gb283)); have n9_ := Aside0.mk ((by rw [hg]; exact Nat.ne_of_lt (blk_lt (bk_ BK284)) : gb284 ≠ gb295)); have n10_ := Aside0.mk ((by rw [hg]; exact Nat.ne_of_gt (blk_lt (bk_ BK284)) : gb295 ≠ gb284)); clear HO294 BK283 BK284 HB; have HO294 := n0_; have BK283 := n1_; have BK284 := n2_; have HB := n3_; have BK295 := n4_; have GW295 := n5_; have GE295 := n6_; have NB283_295 := n7_; have NB295_283 := n8_; have NB284_295 := n9_; have NB295_284 := n10_; clear n0_ n1_ n2_ n3_ n4_ n5_ n6_ n7_ n8_ n9_ n10_; clear hb hbox hg; have hnb34 := NB295_283.out; have hnc34 := NB283_295.out; have hnb35 := NB295_284.out; have hnc35 := NB284_295.out; obtain ⟨hcz36_0, hcz36_1, hcz36_2, hcz36_3, hcz36_4, hcz36_5, hfz36_0, hfz36_1, hfz36_2, hfz36_3, hfz36_4, hfz36_5⟩ := blk6 BK295; obtain ⟨hcz37_0, hcz37_1, hcz37_2, hcz37_3, hcz37_4, hcz37_5, hfz37_0, hfz37_1, hfz37_2, hfz37_3, hfz37_4, hfz37_5⟩ := blk6 BK283) | ((with_reducible refine gate_builtin (b := .append) (xs := #[.tmp 34, .tmp 39]) rfl ?_); at_builtin; refine Kd.R_append k43 (w0 := w) w.heap.size rfl (.tmp 34) (.tmp 39) 23 43 (.agg #[(.int .i64 0), (.int .i64 0)]) 16 rfl Try.underlying23 info43 rfl (by decide) (by omega) (.slice Ao32 t292.length co32) t292 (⟨a1, a0_0⟩ : S43) [.int .i64 a1, .int .i64 a0_0] (fun _ => True) (fun _ => False) rfl (by first | (go_simp; done) | (go_simp; rfl)) ?aP (fun _ hk => hk.elim) ?aF ?aO ?aB ?aS ?aL ?_; (case aP => exact k43_mkM _ _ _ (⟨a1, a0_0⟩ : S43)); (case aB => exact bs_); (case aF => exact (fun _ _ => trivial)); (case aO => exact (by (with_reducible repeat (first | apply Kd.R_alloc | apply Kd.R_drewN | apply Kd.R_drew)); exact Kd.R_mono (far6 gb295 (Kd.R_types HO294.out BK295.out (by decide)) (fun _ hk => hk.2)) (fun _ hk => trivial))); (case aS => exact (below_size bs_)); (case aL => have := LMc28.out; omega); intro v297 w38 ho hb hg hat; rw [← Ny296.out] at ho; have n0_ := Aside0.mk (blk_grown (g := gb283) (o := .cells #[.int .i64 a0_0, .int .i64 a0_1, .int .i64 a0_2, .int .i64 a0_3, .int .i64 a0_4, .slice A0_5 l0_5.length c0_5] 25 (0, 0)) (bf_ BK283) hg (Kd.R_ne HO294.out BK283.out (by decide))); have n1_ := Aside0.mk (blk_grown (g := gb284) (o := .cells #[.int .i64 0, .int .i64 0, .int .i64 0, .int .i64 0, .int .i64 0, .slice none 0 0] 25 (0, 0)) (bf_ BK284) hg (Kd.R_ne HO294.out BK284.out (by decide))); have n2_ := Aside0.mk (blk_grown (g := gb295) (o := .cells #[.int .i64 t287, .int .i64 t288, .int .i64 t289, .int .i64 t290, .int .i64 t291, .slice Ao32 t292.length co32] 25 (0, 0)) (bp_ BK295) hg (Kd.R_ne HO294.out BK295.out (by decide))); have n3_ := Aside0.mk (hb); have n4_ := Aside0.mk (ho); clear BK283 BK284 BK295 HB HO294; have BK283 := n0_; have BK284 := n1_; have BK295 := n2_; have HB := n3_; have HO298 := n4_; clear n0_ n1_ n2_ n3_ n4_; clear ho hb hg hat; obtain ⟨Ao39, co39, eo39⟩ := Kd.R_slice HO298.out; subst eo39; obtain ⟨hcz40_0, hcz40_1, hcz40_2, hcz40_3, hcz40_4, hcz40_5, hfz40_0, hfz40_1, hfz40_2, hfz40_3, hfz40_4, hfz40_5⟩ := blk6 BK295; obtain ⟨hcz41_0, hcz41_1, hcz41_2, hcz41_3, hcz41_4, hcz41_5, hfz41_0, hfz41_1, hfz41_2, hfz41_3, hfz41_4, hfz41_5⟩ := blk6 BK283; obtain ⟨hcz42_0, hcz42_1, hcz42_2, hcz42_3, hcz42_4, hcz42_5, hfz42_0, hfz42_1, hfz42_2, hfz42_3, hfz42_4, hfz42_5⟩ := blk6 BK284))
       refine bodyPost_ret (results_ct rfl _ _ gb284 25 #[.int .i64 (wrap64 (a0_0 + 1)), .int .i64 t288, .int .i64 t289, .int .i64 t290, .int .i64 t291, .slice Ao39 y296.length co39] (0, 0) _ rfl (bp_ BK284) Try.underlying25 rfl (by kernel_rfl)) rfl ?_
       exact ⟨_, by first | rfl | (simp [errW_none, errW_some] <;> rfl) | (simp [*, errW_none, errW_some] <;> rfl), by (with_reducible repeat (first | apply Kd.R_alloc | apply Kd.R_drewN | apply Kd.R_drew)); exact Kd.R_mono (far6 gb284 (Kd.R_far (p := ⟨gb295, 0, none⟩) (Kd.R_far (p := ⟨gb295, 5, none⟩) (Kd.R_types (Kd.R_types HO298.out BK295.out (by decide)) BK284.out (by decide)) (fun _ hk => hk.1.2) (.slice Ao39 y296.length co39)) (fun _ hk => hk.1.2) (.int .i64 (wrap64 (a0_0 + 1)))) (fun _ hk => hk.2)) (fun _ hk => trivial), by repeat (first | (with_reducible first | exact HB.out | apply below_alloc | apply pw_below_drewN | apply below_drew1 | refine below_set ?_ GE283.out | refine below_set ?_ GE284.out | refine below_set ?_ GE295.out) | exact HB.out)⟩
      ·rw [if_neg c28] at H
       exact absurd H (by simp)

end Go.Proofs.Ytipnfcicpnmggaa.P
