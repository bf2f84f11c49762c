-- Written by a program of this session over the kit's print of the translation. Lean checks it.
import Derived.Test.YtipnfcicpnmggaaPx0
import Derived.Test.YtipnfcicpnmggaaPx11
import Derived.Test.YtipnfcicpnmggaaPx13
import Derived.Test.YtipnfcicpnmggaaSel
-- shorter
namespace Go.Proofs.Ytipnfcicpnmggaa.P
open Go.RowKit Go.Proofs.YtipnfcicpnmggaaW.PrintWords Go.Proofs.YtipnfcicpnmggaaW.PrintLast Go.Proofs.YtipnfcicpnmggaaW.PrintMore
attribute [local go_sem] max2_int min2_int max_two min_two max_three min_three max_four min_four   -- for this text's walks alone
set_option linter.unusedVariables false
set_option linter.unusedSimpArgs false

/-! ### drydockref17_Enter: function 12 -/
def drydockref17_Enter.j0 : Nat → Int → Bool → Int → Int → Int → Int → Int → List (S43) → Option (Int × Int × Int × Int × Int × (List (S43)) × Int)
  | 0, _, _, _, _, _, _, _, _ => none
  | k + 1, x1, x18, x256000, x256001, x256002, x256003, x256004, x256005 => if x18 = true then (some (0, 0, 0, 0, 0, ([] : List (S43)), 3)) else (if 0 ≤ x1 then (if x1 < 4 then (if (sel4I x256001 x256002 x256003 x256004 x1) > 0 then (some (0, 0, 0, 0, 0, ([] : List (S43)), 11)) else ((drydockref17_Own.f x256000 x256001 x256002 x256003 x256004 x256005).bind fun bt258 => (some (bt258.1, updI 0 x1 x256000 bt258.2.1, updI 1 x1 x256000 bt258.2.2.1, updI 2 x1 x256000 bt258.2.2.2.1, updI 3 x1 x256000 bt258.2.2.2.2.1, bt258.2.2.2.2.2, 0)))) else (none)) else (none))
def drydockref17_Enter.f (k : Nat) (a0_0 : Int) (a0_1 : Int) (a0_2 : Int) (a0_3 : Int) (a0_4 : Int) (l0_5 : List (S43)) (a1 : Int) : Option (Int × Int × Int × Int × Int × (List (S43)) × Int) := (drydockref17_May.f k a0_0 a0_1 a0_2 a0_3 a0_4 l0_5).bind fun t257 => (if t257 = true then (if a1 < 0 then (drydockref17_Enter.j0 k a1 true a0_0 a0_1 a0_2 a0_3 a0_4 l0_5) else (drydockref17_Enter.j0 k a1 (decide (a1 > 3)) a0_0 a0_1 a0_2 a0_3 a0_4 l0_5)) else (some (0, 0, 0, 0, 0, ([] : List (S43)), 1)))
theorem drydockref17_Enter.mono_l : ∀ k, (∀ y0 y1 y2 y3 y4 y5 y6 y7, LeO (drydockref17_Enter.j0 k y0 y1 y2 y3 y4 y5 y6 y7) (drydockref17_Enter.j0 (k + 1) y0 y1 y2 y3 y4 y5 y6 y7))
  | 0 => fun _ _ _ _ _ _ _ _ r h => by simp [drydockref17_Enter.j0] at h
  | k + 1 => by
    have ih0 := drydockref17_Enter.mono_l k
    · intro y0 y1 y2 y3 y4 y5 y6 y7
      unfold drydockref17_Enter.j0
      repeat' first
      | (with_reducible exact ih0 _ _ _ _ _ _ _ _)
      | (with_reducible exact drydockref17_May.mono _ _ _ _ _ _ _)
      | (with_reducible exact LeO.refl _)
      | (with_reducible exact LeO.none _)
      | (with_reducible refine LeO.ite ?_ ?_)
      | (with_reducible refine LeO.bind ?_ (fun _ => ?_))
      | exact ih0 _ _ _ _ _ _ _ _
      | exact drydockref17_May.mono _ _ _ _ _ _ _
      | exact LeO.none _
      | refine LeO.ite ?_ ?_
      | refine LeO.bind ?_ (fun _ => ?_)
theorem drydockref17_Enter.mono : ∀ a0 a1 a2 a3 a4 a5 a6 k, LeO (drydockref17_Enter.f k a0 a1 a2 a3 a4 a5 a6) (drydockref17_Enter.f (k + 1) a0 a1 a2 a3 a4 a5 a6) := by
 intro a0 a1 a2 a3 a4 a5 a6 k
 have ih0 := drydockref17_Enter.mono_l k
 unfold drydockref17_Enter.f
 repeat' first
  | (with_reducible exact ih0 _ _ _ _ _ _ _ _)
  | (with_reducible exact drydockref17_May.mono _ _ _ _ _ _ _)
  | (with_reducible exact LeO.refl _)
  | (with_reducible exact LeO.none _)
  | (with_reducible refine LeO.ite ?_ ?_)
  | (with_reducible refine LeO.bind ?_ (fun _ => ?_))
  | exact ih0 _ _ _ _ _ _ _ _
  | exact drydockref17_May.mono _ _ _ _ _ _ _
  | exact LeO.none _
  | refine LeO.ite ?_ ?_
  | refine LeO.bind ?_ (fun _ => ?_)
set_option maxHeartbeats 8000000 in
set_option maxRecDepth 100000 in
theorem drydockref17_Enter.calls (k : Nat) (a0_0 : Int) (a0_1 : Int) (a0_2 : Int) (a0_3 : Int) (a0_4 : Int) (A0_5 : Option Addr) (c0_5 : Nat) (l0_5 : List (S43)) (a1 : Int) (r1 : Int) (r2 : Int) (r3 : Int) (r4 : Int) (r5 : Int) (r6 : List (S43)) (r7 : Int) (w : World) (hr0_5 : Kd.C k43 w A0_5 l0_5.length l0_5) (hc0_5 : l0_5.length ≤ c0_5) (h : drydockref17_Enter.f k a0_0 a0_1 a0_2 a0_3 a0_4 l0_5 a1 = some (r1, r2, r3, r4, r5, r6, r7)) :
    Calls Try.prog 12 #[.agg #[.int .i64 a0_0, .int .i64 a0_1, .int .i64 a0_2, .int .i64 a0_3, .int .i64 a0_4, .slice A0_5 l0_5.length c0_5], .int .i64 a1] w fun e w' => ∃ v5_ : Value, e = .returned (.tuple #[.agg #[.int .i64 r1, .int .i64 r2, .int .i64 r3, .int .i64 r4, .int .i64 r5, v5_], .int .i64 r7]) ∧ Kd.R k43 43 w' w.heap.size (fun _ => True) v5_ r6 ∧ Below w.heap.size w w' := by
 have hu25 := Try.underlying25
 have HR0_5 := Aside0.mk hr0_5
 have HC0_5 := Aside0.mk hc0_5
 clear hr0_5 hc0_5
 have HB := Aside0.mk (Below.refl w.heap.size w)
 have H : ((drydockref17_May.f k a0_0 a0_1 a0_2 a0_3 a0_4 l0_5).bind fun t257 => (if t257 = true then (if a1 < 0 then (drydockref17_Enter.j0 k a1 true a0_0 a0_1 a0_2 a0_3 a0_4 l0_5) else (drydockref17_Enter.j0 k a1 (decide (a1 > 3)) a0_0 a0_1 a0_2 a0_3 a0_4 l0_5)) else (some (0, 0, 0, 0, 0, ([] : List (S43)), 1)))) = some (r1, r2, r3, r4, r5, r6, r7) := h
 clear h
 replace H := Option.bind_eq_some_iff.mp H
 obtain ⟨t257, A30, H⟩ := H
 replace H : (if t257 = true then (if a1 < 0 then (drydockref17_Enter.j0 k a1 true a0_0 a0_1 a0_2 a0_3 a0_4 l0_5) else (drydockref17_Enter.j0 k a1 (decide (a1 > 3)) a0_0 a0_1 a0_2 a0_3 a0_4 l0_5)) else (some (0, 0, 0, 0, 0, ([] : List (S43)), 1))) = some (r1, r2, r3, r4, r5, r6, r7) := H
 have A3 := Aside0.mk A30
 clear A30
 by_cases c4 : t257 = true
 ·subst c4
  have H1 : (if a1 < 0 then (drydockref17_Enter.j0 k a1 true a0_0 a0_1 a0_2 a0_3 a0_4 l0_5) else (drydockref17_Enter.j0 k a1 (decide (a1 > 3)) a0_0 a0_1 a0_2 a0_3 a0_4 l0_5)) = some (r1, r2, r3, r4, r5, r6, r7) := by rw [if_pos rfl] at H; exact H
  clear H
  have H := H1
  clear H1
  have HC5 := Aside0.mk H
  clear H
  go_enter Try.func12, Try.ntmps12
  go_upto_region 4 with (first | ((with_reducible refine gate_dst (N := 2) rfl ?_); refine box_event ?hg (N := 2) ?hd (cs := #[.int .i64 a0_0, .int .i64 a0_1, .int .i64 a0_2, .int .i64 a0_3, .int .i64 a0_4, .slice A0_5 l0_5.length c0_5]) (t := 25) ?hr ?_; (case hd => rfl); (case hg => rfl); (case hr => first | (go_simp; done) | (go_simp; rfl)); intro gb255 hg w6 hbox hb; have n0_ := Aside0.mk (below_step bs_ hb); have n1_ := Aside0.mk (hbox); have n2_ := Aside0.mk ((by rw [hg]; exact (below_size bs_) : w.heap.size ≤ gb255)); have n3_ := Aside0.mk ((by rw [hg]; exact (below_size bs_) : w.heap.size ≤ gb255)); clear HB; have HB := n0_; have BK255 := n1_; have GW255 := n2_; have GE255 := n3_; clear n0_ n1_ n2_ n3_; clear hb hbox hg) | ((with_reducible refine gate_dst (N := 4) rfl ?_); refine box_event ?hg (N := 4) ?hd (cs := #[.int .i64 0, .int .i64 0, .int .i64 0, .int .i64 0, .int .i64 0, .slice none 0 0]) (t := 25) ?hr ?_; (case hd => rfl); (case hg => rfl); (case hr => first | (go_simp; done) | (go_simp; rfl)); intro gb256 hg w7 hbox hb; have n0_ := Aside0.mk (blk_below (bk_ BK255) hb); have n1_ := Aside0.mk (below_step bs_ hb); have n2_ := Aside0.mk (hbox); have n3_ := Aside0.mk ((by rw [hg]; exact (below_size bs_) : w.heap.size ≤ gb256)); have n4_ := Aside0.mk ((by rw [hg]; exact (below_size bs_) : w.heap.size ≤ gb256)); have n5_ := Aside0.mk ((by rw [hg]; exact Nat.ne_of_lt (blk_lt (bk_ BK255)) : gb255 ≠ gb256)); have n6_ := Aside0.mk ((by rw [hg]; exact Nat.ne_of_gt (blk_lt (bk_ BK255)) : gb256 ≠ gb255)); clear BK255 HB; have BK255 := n0_; have HB := n1_; have BK256 := n2_; have GW256 := n3_; have GE256 := n4_; have NB255_256 := n5_; have NB256_255 := n6_; clear n0_ n1_ n2_ n3_ n4_ n5_ n6_; clear hb hbox hg; have hnb8 := NB255_256.out; have hnc8 := NB256_255.out; obtain ⟨hcz9_0, hcz9_1, hcz9_2, hcz9_3, hcz9_4, hcz9_5, hfz9_0, hfz9_1, hfz9_2, hfz9_3, hfz9_4, hfz9_5⟩ := blk6 BK255) | ((with_reducible refine gate_callee (f := 24) rfl ?_); refine goesL_ (some 9) rfl rfl Try.func24 (by kernel_rfl) rfl #[.agg #[.int .i64 a0_0, .int .i64 a0_1, .int .i64 a0_2, .int .i64 a0_3, .int .i64 a0_4, .slice A0_5 l0_5.length c0_5]] rfl (by (try simp only [List.map_toArray, List.map_cons, List.map_nil]); first | done | rfl | (simp only [List.length_drop, List.length_take]; rfl)) ?_; (with_reducible refine (drydockref17_May.calls k a0_0 a0_1 a0_2 a0_3 a0_4 _ _ l0_5 true _ ?side1 ?side2 A3.out).mono ?_); (case side1 => repeat (first | exact (Kd.C_below HR0_5.out HB.out) | (with_reducible refine Kd.C_alloc ?_ _) | (with_reducible refine Kd.C_drewN ?_ _) | (with_reducible refine Kd.C_drew ?_))); (case side2 => exact HC0_5.out); rintro e w10 ⟨rfl, hb⟩; refine ⟨_, rfl, ?_⟩; have n0_ := Aside0.mk (blk_below (bk_ BK255) hb); have n1_ := Aside0.mk (blk_below (bk_ BK256) hb); have n2_ := Aside0.mk (below_step bs_ hb); clear BK255 BK256 HB; have BK255 := n0_; have BK256 := n1_; have HB := n2_; clear n0_ n1_ n2_; (try clear hb); (try clear hb2); (try clear hk); (try clear hi)))
  (try simp only [Act.put, List.setIfInBounds_toArray, List.set_cons_zero, List.set_cons_succ])
  go_cut [18] (fun v18 wc => ∃ (kq : Nat) (x18_4 : Bool), v18 = .bool x18_4 ∧ Aside0 (drydockref17_Enter.j0 kq a1 x18_4 a0_0 a0_1 a0_2 a0_3 a0_4 l0_5 = some (r1, r2, r3, r4, r5, r6, r7)) ∧ Aside0 (kq ≤ k) ∧ Aside0 (wc.heap[gb255]? = some (.cells #[.int .i64 a0_0, .int .i64 a0_1, .int .i64 a0_2, .int .i64 a0_3, .int .i64 a0_4, (.slice A0_5 l0_5.length c0_5)] 25 (0, 0))) ∧ Aside0 (wc.heap[gb256]? = some (.cells #[.int .i64 0, .int .i64 0, .int .i64 0, .int .i64 0, .int .i64 0, (.slice none 0 0)] 25 (0, 0))) ∧ Aside0 (Below w.heap.size w wc))
  case first =>
   have H := HC5.out
   clear HC5
   by_cases c11 : a1 < 0
   ·rw [if_pos c11] at H
    have c11b0 : decide (a1 < 0) = true := decide_eq_true c11
    clear c11
    (first | rw [c11b0] | (simp only [i64_w, i32_w]; rw [c11b0]) | skip)
    have H' := Aside0.mk H
    clear H
    go_wp2
    go_meet
    case rel => exact ⟨_, (true), eq_, H', ⟨by first | omega | exact Nat.le_refl _⟩, ⟨bk_ BK255⟩, ⟨bk_ BK256⟩, ⟨bs_⟩⟩
   ·rw [if_neg c11] at H
    have c11b0 : decide (a1 < 0) = false := decide_eq_false c11
    clear c11
    (first | rw [c11b0] | (simp only [i64_w, i32_w]; rw [c11b0]) | skip)
    have H' := Aside0.mk H
    clear H
    go_wp2
    go_meet
    case rel => exact ⟨_, (decide (a1 > 3)), eq_, H', ⟨by first | omega | exact Nat.le_refl _⟩, ⟨bk_ BK255⟩, ⟨bk_ BK256⟩, ⟨bs_⟩⟩
  case rest =>
   clear HC5
   try clear c4
   obtain ⟨kq, x18_4, rfl, HA, HJ4, BK255, BK256, HB⟩ := hcut
   cases kq with
   | zero => exact absurd HA.out (by simp [drydockref17_Enter.j0])
   | succ kj4 =>
    have H := HA.out
    clear HA
    simp only [drydockref17_Enter.j0] at H
    by_cases c12 : x18_4 = true
    ·subst c12
     have H1 : (some (0, 0, 0, 0, 0, ([] : List (S43)), 3)) = some (r1, r2, r3, r4, r5, r6, r7) := by rw [if_pos rfl] at H; exact H
     clear H
     have H := H1
     clear H1
     simp only [Option.some.injEq, Prod.mk.injEq] at H
     obtain ⟨rfl, rfl, rfl, rfl, rfl, rfl, rfl⟩ := H
     have hnb13 := NB256_255.out
     have hnc13 := NB255_256.out
     obtain ⟨hcz14_0, hcz14_1, hcz14_2, hcz14_3, hcz14_4, hcz14_5, hfz14_0, hfz14_1, hfz14_2, hfz14_3, hfz14_4, hfz14_5⟩ := blk6 BK256
     go_wp2
     refine bodyPost_ret (results_ct rfl _ _ gb256 25 #[.int .i64 0, .int .i64 0, .int .i64 0, .int .i64 0, .int .i64 0, .slice none 0 0] (0, 0) _ rfl (bp_ BK256) Try.underlying25 rfl (by kernel_rfl)) rfl ?_
     exact ⟨_, by first | rfl | (simp [errW_none, errW_some] <;> rfl) | (simp [*, errW_none, errW_some] <;> rfl), by first | exact Kd.R_nil _ _ _ _ _ | exact Kd.N_nil _ _ _ _ _ | exact Kd.V_nil _ _ _ _ _ | exact Kd.Q_nil _ _ _ _ _ | exact Kd.S_nil _ _ _ _ _, by repeat (first | (with_reducible first | exact HB.out | apply below_alloc | apply pw_below_drewN | apply below_drew1 | refine below_set ?_ GE255.out | refine below_set ?_ GE256.out) | exact HB.out)⟩
    ·replace c12 := Bool.eq_false_iff.mpr c12
     subst c12
     have H1 : (if 0 ≤ a1 then (if a1 < 4 then (if (sel4I a0_1 a0_2 a0_3 a0_4 a1) > 0 then (some (0, 0, 0, 0, 0, ([] : List (S43)), 11)) else ((drydockref17_Own.f a0_0 a0_1 a0_2 a0_3 a0_4 l0_5).bind fun bt258 => (some (bt258.1, updI 0 a1 a0_0 bt258.2.1, updI 1 a1 a0_0 bt258.2.2.1, updI 2 a1 a0_0 bt258.2.2.2.1, updI 3 a1 a0_0 bt258.2.2.2.2.1, bt258.2.2.2.2.2, 0)))) else (none)) else (none)) = some (r1, r2, r3, r4, r5, r6, r7) := by rw [if_neg (show ¬ (false = true) by decide)] at H; exact H
     clear H
     have H := H1
     clear H1
     by_cases c15 : 0 ≤ a1
     ·rw [if_pos c15] at H
      have c15b0 : decide (0 ≤ a1) = true := decide_eq_true c15
      clear c15
      by_cases c16 : a1 < 4
      ·rw [if_pos c16] at H
       have c16b0 : decide (a1 < 4) = true := decide_eq_true c16
       clear c16
       by_cases c17 : (sel4I a0_1 a0_2 a0_3 a0_4 a1) > 0
       ·rw [if_pos c17] at H
        have c17b0 : decide (0 < (sel4I a0_1 a0_2 a0_3 a0_4 a1)) = true := decide_eq_true c17
        clear c17
        simp only [Option.some.injEq, Prod.mk.injEq] at H
        obtain ⟨rfl, rfl, rfl, rfl, rfl, rfl, rfl⟩ := H
        have hnb18 := NB255_256.out
        have hnc18 := NB256_255.out
        obtain ⟨hcz19_0, hcz19_1, hcz19_2, hcz19_3, hcz19_4, hcz19_5, hfz19_0, hfz19_1, hfz19_2, hfz19_3, hfz19_4, hfz19_5⟩ := blk6 BK255
        have pz20 : (0 ≤ (a1 : Int)) = True := eq_true (of_decide_eq_true (by first | (with_reducible assumption) | assumption))
        have qz20 : ((a1 : Int) < 4) = True := eq_true (of_decide_eq_true (by first | (with_reducible assumption) | assumption))
        have hcz20_v : wc.cell? ⟨gb255, 1 + (a1).toNat, none⟩ = some (.int .i64 (sel4I a0_1 a0_2 a0_3 a0_4 a1)) := (blk_sel4I BK255.out rfl rfl rfl rfl (of_eq_true pz20) (of_eq_true qz20))
        obtain ⟨hcz21_0, hcz21_1, hcz21_2, hcz21_3, hcz21_4, hcz21_5, hfz21_0, hfz21_1, hfz21_2, hfz21_3, hfz21_4, hfz21_5⟩ := blk6 BK256
        go_wp2
        refine bodyPost_ret (results_ct rfl _ _ gb256 25 #[.int .i64 0, .int .i64 0, .int .i64 0, .int .i64 0, .int .i64 0, .slice none 0 0] (0, 0) _ rfl (bp_ BK256) Try.underlying25 rfl (by kernel_rfl)) rfl ?_
        exact ⟨_, by first | rfl | (simp [errW_none, errW_some] <;> rfl) | (simp [*, errW_none, errW_some] <;> rfl), by first | exact Kd.R_nil _ _ _ _ _ | exact Kd.N_nil _ _ _ _ _ | exact Kd.V_nil _ _ _ _ _ | exact Kd.Q_nil _ _ _ _ _ | exact Kd.S_nil _ _ _ _ _, by repeat (first | (with_reducible first | exact HB.out | apply below_alloc | apply pw_below_drewN | apply below_drew1 | refine below_set ?_ GE255.out | refine below_set ?_ GE256.out) | exact HB.out)⟩
       ·rw [if_neg c17] at H
        have c17b0 : decide (0 < (sel4I a0_1 a0_2 a0_3 a0_4 a1)) = false := decide_eq_false c17
        clear c17
        replace H := Option.bind_eq_some_iff.mp H
        obtain ⟨⟨t258, t259, t260, t261, t262, t263⟩, A220, H⟩ := H
        replace H : (some (t258, updI 0 a1 a0_0 t259, updI 1 a1 a0_0 t260, updI 2 a1 a0_0 t261, updI 3 a1 a0_0 t262, t263, 0)) = some (r1, r2, r3, r4, r5, r6, r7) := H
        have A22 := Aside0.mk A220
        clear A220
        simp only [Option.some.injEq, Prod.mk.injEq] at H
        obtain ⟨rfl, rfl, rfl, rfl, rfl, rfl, rfl⟩ := H
        have hnb23 := NB255_256.out
        have hnc23 := NB256_255.out
        obtain ⟨hcz24_0, hcz24_1, hcz24_2, hcz24_3, hcz24_4, hcz24_5, hfz24_0, hfz24_1, hfz24_2, hfz24_3, hfz24_4, hfz24_5⟩ := blk6 BK255
        have pz25 : (0 ≤ (a1 : Int)) = True := eq_true (of_decide_eq_true (by first | (with_reducible assumption) | assumption))
        have qz25 : ((a1 : Int) < 4) = True := eq_true (of_decide_eq_true (by first | (with_reducible assumption) | assumption))
        have hcz25_v : wc.cell? ⟨gb255, 1 + (a1).toNat, none⟩ = some (.int .i64 (sel4I a0_1 a0_2 a0_3 a0_4 a1)) := (blk_sel4I BK255.out rfl rfl rfl rfl (of_eq_true pz25) (of_eq_true qz25))
        go_wp2_with (first | ((with_reducible refine gate_callee (f := 10) rfl ?_); refine goesL_ (some 27) rfl rfl Try.func10 (by kernel_rfl) rfl #[.agg #[.int .i64 a0_0, .int .i64 a0_1, .int .i64 a0_2, .int .i64 a0_3, .int .i64 a0_4, .slice A0_5 l0_5.length c0_5]] rfl (by (try simp only [List.map_toArray, List.map_cons, List.map_nil]); first | done | rfl | (simp only [List.length_drop, List.length_take]; rfl)) ?_; (with_reducible refine (drydockref17_Own.calls a0_0 a0_1 a0_2 a0_3 a0_4 _ _ l0_5 t258 t259 t260 t261 t262 t263 _ ?side1 ?side2 A22.out).mono ?_); (case side1 => repeat (first | exact (Kd.C_below HR0_5.out HB.out) | (with_reducible refine Kd.C_alloc ?_ _) | (with_reducible refine Kd.C_drewN ?_ _) | (with_reducible refine Kd.C_drew ?_))); (case side2 => exact HC0_5.out); rintro e w26 ⟨v264, rfl, ho0, hb⟩; refine ⟨_, rfl, ?_⟩; have n0_ := Aside0.mk (Kd.R_lower ho0 (below_size bs_)); have n1_ := Aside0.mk (blk_below (bk_ BK255) hb); have n2_ := Aside0.mk (blk_below (bk_ BK256) hb); have n3_ := Aside0.mk (below_step bs_ hb); clear BK255 BK256 HB; have HO265 := n0_; have BK255 := n1_; have BK256 := n2_; have HB := n3_; clear n0_ n1_ n2_ n3_; (try clear hb); (try clear hb2); (try clear hk); (try clear hi); (try clear ho0); obtain ⟨Ao27, co27, eo27⟩ := Kd.R_slice HO265.out; subst eo27) | ((with_reducible refine gate_dst (N := 7) rfl ?_); refine box_event ?hg (N := 7) ?hd (cs := #[.int .i64 0, .int .i64 0, .int .i64 0, .int .i64 0, .int .i64 0, .slice none 0 0]) (t := 25) ?hr ?_; (case hd => rfl); (case hg => rfl); (case hr => first | (go_simp; done) | (go_simp; rfl)); intro gb266 hg w28 hbox hb; have n0_ := Aside0.mk (Kd.R_below (rk_ HO265) hb); have n1_ := Aside0.mk (blk_below (bk_ BK255) hb); have n2_ := Aside0.mk (blk_below (bk_ BK256) hb); have n3_ := Aside0.mk (below_step bs_ hb); have n4_ := Aside0.mk (hbox); have n5_ := Aside0.mk ((by rw [hg]; exact (below_size bs_) : w.heap.size ≤ gb266)); have n6_ := Aside0.mk ((by rw [hg]; exact (below_size bs_) : w.heap.size ≤ gb266)); have n7_ := Aside0.mk ((by rw [hg]; exact Nat.ne_of_lt (blk_lt (bk_ BK255)) : gb255 ≠ gb266)); have n8_ := Aside0.mk ((by rw [hg]; exact Nat.ne_of_gt (blk_lt (bk_ BK255)) : gb266 ≠ gb255)); have n9_ := Aside0.mk ((by rw [hg]; exact Nat.ne_of_lt (blk_lt (bk_ BK256)) : gb256 ≠ gb266)); have n10_ := Aside0.mk ((by rw [hg]; exact Nat.ne_of_gt (blk_lt (bk_ BK256)) : gb266 ≠ gb256)); clear HO265 BK255 BK256 HB; have HO265 := n0_; have BK255 := n1_; have BK256 := n2_; have HB := n3_; have BK266 := n4_; have GW266 := n5_; have GE266 := n6_; have NB255_266 := n7_; have NB266_255 := n8_; have NB256_266 := n9_; have NB266_256 := n10_; clear n0_ n1_ n2_ n3_ n4_ n5_ n6_ n7_ n8_ n9_ n10_; clear hb hbox hg; have hnb29 := NB266_255.out; have hnc29 := NB255_266.out; have hnb30 := NB266_256.out; have hnc30 := NB256_266.out; obtain ⟨hcz31_0, hcz31_1, hcz31_2, hcz31_3, hcz31_4, hcz31_5, hfz31_0, hfz31_1, hfz31_2, hfz31_3, hfz31_4, hfz31_5⟩ := blk6 BK266) | ((with_reducible refine gate_store (t := 25) (p := 7) rfl ?_); refine store_event (t := 25) (p := 7) (v := ?vo_w32) (w1 := ((((((w28.setCell ⟨gb266, 0, none⟩ (.int .i64 t258)).setCell ⟨gb266, 1, none⟩ (.int .i64 t259)).setCell ⟨gb266, 2, none⟩ (.int .i64 t260)).setCell ⟨gb266, 3, none⟩ (.int .i64 t261)).setCell ⟨gb266, 4, none⟩ (.int .i64 t262)).setCell ⟨gb266, 5, none⟩ (.slice Ao27 t263.length co27))) ?hg ?ho ?hn ?hr ?_; (case ho => rfl); (case hg => rfl); (case hn => rfl); (case hr => first | (go_simp; done) | (go_simp; rfl)); intro w32 hw; have n0_ : Aside0 (Kd.R k43 43 w32 w.heap.size (fun _ => True) (.slice Ao27 t263.length co27) t263) := ⟨(by rw [hw]; exact (by (with_reducible repeat (first | apply Kd.R_alloc | apply Kd.R_drewN | apply Kd.R_drew)); exact Kd.R_mono (far6 gb266 (Kd.R_types HO265.out BK266.out (by decide)) (fun _ hk => hk.2)) (fun _ hk => trivial)))⟩; have n1_ : Aside0 (w32.heap[gb255]? = some (.cells #[.int .i64 a0_0, .int .i64 a0_1, .int .i64 a0_2, .int .i64 a0_3, .int .i64 a0_4, .slice A0_5 l0_5.length c0_5] 25 (0, 0))) := ⟨(by rw [hw]; exact (bf_ BK255))⟩; have n2_ : Aside0 (w32.heap[gb256]? = some (.cells #[.int .i64 0, .int .i64 0, .int .i64 0, .int .i64 0, .int .i64 0, .slice none 0 0] 25 (0, 0))) := ⟨(by rw [hw]; exact (bf_ BK256))⟩; have n3_ : Aside0 (w32.heap[gb266]? = some (.cells #[.int .i64 t258, .int .i64 t259, .int .i64 t260, .int .i64 t261, .int .i64 t262, .slice Ao27 t263.length co27] 25 (0, 0))) := ⟨(by rw [hw]; exact (bp_ BK266))⟩; have n4_ : Aside0 (Below w.heap.size w w32) := ⟨(by rw [hw]; exact bs_)⟩; clear hw HO265 BK255 BK256 BK266 HB; have HO265 := n0_; have BK255 := n1_; have BK256 := n2_; have BK266 := n3_; have HB := n4_; clear n0_ n1_ n2_ n3_ n4_; obtain ⟨hcz33_0, hcz33_1, hcz33_2, hcz33_3, hcz33_4, hcz33_5, hfz33_0, hfz33_1, hfz33_2, hfz33_3, hfz33_4, hfz33_5⟩ := blk6 BK255; obtain ⟨hcz34_0, hcz34_1, hcz34_2, hcz34_3, hcz34_4, hcz34_5, hfz34_0, hfz34_1, hfz34_2, hfz34_3, hfz34_4, hfz34_5⟩ := blk6 BK266; have pz35 : (0 ≤ (a1 : Int)) = True := eq_true (of_decide_eq_true (by first | (with_reducible assumption) | assumption)); have qz35 : ((a1 : Int) < 4) = True := eq_true (of_decide_eq_true (by first | (with_reducible assumption) | assumption)); have hcz35_v : w32.cell? ⟨gb266, 1 + (a1).toNat, none⟩ = some (.int .i64 (sel4I t259 t260 t261 t262 a1)) := (blk_sel4I BK266.out rfl rfl rfl rfl (of_eq_true pz35) (of_eq_true qz35)); have hfz35_v := blk_frozen BK266.out (1 + (a1).toNat)) | ((with_reducible refine gate_store (t := 3) (p := 32) rfl ?_); refine store_event (t := 3) (p := 32) (v := ?vo_w36) (w1 := (w32.setCell ⟨gb266, 1 + (a1).toNat, none⟩ (.int .i64 a0_0))) ?hg ?ho ?hn ?hr ?_; (case ho => rfl); (case hg => rfl); (case hn => rfl); (case hr => first | (go_simp; done) | (go_simp; rfl)); intro w36 hw; have n0_ : Aside0 (Kd.R k43 43 w36 w.heap.size (fun _ => True) (.slice Ao27 t263.length co27) t263) := ⟨(by rw [hw]; exact (by (with_reducible repeat (first | apply Kd.R_alloc | apply Kd.R_drewN | apply Kd.R_drew)); exact Kd.R_mono (Kd.R_far (p := ⟨gb266, 1 + (a1).toNat, none⟩) (Kd.R_types HO265.out BK266.out (by decide)) (fun _ hk => hk.2) (.int .i64 a0_0)) (fun _ hk => trivial)))⟩; have n1_ : Aside0 (w36.heap[gb255]? = some (.cells #[.int .i64 a0_0, .int .i64 a0_1, .int .i64 a0_2, .int .i64 a0_3, .int .i64 a0_4, .slice A0_5 l0_5.length c0_5] 25 (0, 0))) := ⟨(by rw [hw]; exact (bf_ BK255))⟩; have n2_ : Aside0 (w36.heap[gb256]? = some (.cells #[.int .i64 0, .int .i64 0, .int .i64 0, .int .i64 0, .int .i64 0, .slice none 0 0] 25 (0, 0))) := ⟨(by rw [hw]; exact (bf_ BK256))⟩; have n3_ : Aside0 (w36.heap[gb266]? = some (.cells #[.int .i64 t258, .int .i64 (updI 0 a1 a0_0 t259), .int .i64 (updI 1 a1 a0_0 t260), .int .i64 (updI 2 a1 a0_0 t261), .int .i64 (updI 3 a1 a0_0 t262), .slice Ao27 t263.length co27] 25 (0, 0))) := ⟨(by rw [hw]; exact (by (with_reducible repeat (first | refine blk_drewN ?_ _ | refine blk_drew ?_ | refine blk_alloc ?_ _)); refine blk_upd4I (cs := #[.int .i64 t258, .int .i64 t259, .int .i64 t260, .int .i64 t261, .int .i64 t262, .slice Ao27 t263.length co27]) ?_ rfl rfl rfl rfl (of_eq_true pz35) (of_eq_true qz35) rfl; (with_reducible repeat (first | refine blk_drewN ?_ _ | refine blk_drew ?_ | refine blk_alloc ?_ _)); exact BK266.out))⟩; have n4_ : Aside0 (Below w.heap.size w w36) := ⟨(by rw [hw]; exact bs_)⟩; clear hw HO265 BK255 BK256 BK266 HB; have HO265 := n0_; have BK255 := n1_; have BK256 := n2_; have BK266 := n3_; have HB := n4_; clear n0_ n1_ n2_ n3_ n4_; obtain ⟨hcz37_0, hcz37_1, hcz37_2, hcz37_3, hcz37_4, hcz37_5, hfz37_0, hfz37_1, hfz37_2, hfz37_3, hfz37_4, hfz37_5⟩ := blk6 BK266; obtain ⟨hcz38_0, hcz38_1, hcz38_2, hcz38_3, hcz38_4, hcz38_5, hfz38_0, hfz38_1, hfz38_2, hfz38_3, hfz38_4, hfz38_5⟩ := blk6 BK256))
        refine bodyPost_ret (results_ct rfl _ _ gb256 25 #[.int .i64 t258, .int .i64 (updI 0 a1 a0_0 t259), .int .i64 (updI 1 a1 a0_0 t260), .int .i64 (updI 2 a1 a0_0 t261), .int .i64 (updI 3 a1 a0_0 t262), .slice Ao27 t263.length co27] (0, 0) _ rfl (bp_ BK256) Try.underlying25 rfl (by kernel_rfl)) rfl ?_
        exact ⟨_, by first | rfl | (simp [errW_none, errW_some] <;> rfl) | (simp [*, errW_none, errW_some] <;> rfl), by (with_reducible repeat (first | apply Kd.R_alloc | apply Kd.R_drewN | apply Kd.R_drew)); exact Kd.R_mono (far6 gb256 (Kd.R_types HO265.out BK256.out (by decide)) (fun _ hk => hk.2)) (fun _ hk => trivial), by repeat (first | (with_reducible first | exact HB.out | apply below_alloc | apply pw_below_drewN | apply below_drew1 | refine below_set ?_ GE255.out | refine below_set ?_ GE256.out | refine below_set ?_ GE266.out) | exact HB.out)⟩
      ·rw [if_neg c16] at H
       exact absurd H (by simp)
     ·rw [if_neg c15] at H
      exact absurd H (by simp)
 ·replace c4 := Bool.eq_false_iff.mpr c4
  subst c4
  have H1 : (some (0, 0, 0, 0, 0, ([] : List (S43)), 1)) = some (r1, r2, r3, r4, r5, r6, r7) := by rw [if_neg (show ¬ (false = true) by decide)] at H; exact H
  clear H
  have H := H1
  clear H1
  simp only [Option.some.injEq, Prod.mk.injEq] at H
  obtain ⟨rfl, rfl, rfl, rfl, rfl, rfl, rfl⟩ := H
  go_enter Try.func12, Try.ntmps12
  go_wp2_with (first | ((with_reducible refine gate_dst (N := 2) rfl ?_); refine box_event ?hg (N := 2) ?hd (cs := #[.int .i64 a0_0, .int .i64 a0_1, .int .i64 a0_2, .int .i64 a0_3, .int .i64 a0_4, .slice A0_5 l0_5.length c0_5]) (t := 25) ?hr ?_; (case hd => rfl); (case hg => rfl); (case hr => first | (go_simp; done) | (go_simp; rfl)); intro gb255 hg w39 hbox hb; have n0_ := Aside0.mk (below_step bs_ hb); have n1_ := Aside0.mk (hbox); have n2_ := Aside0.mk ((by rw [hg]; exact (below_size bs_) : w.heap.size ≤ gb255)); have n3_ := Aside0.mk ((by rw [hg]; exact (below_size bs_) : w.heap.size ≤ gb255)); clear HB; have HB := n0_; have BK255 := n1_; have GW255 := n2_; have GE255 := n3_; clear n0_ n1_ n2_ n3_; clear hb hbox hg) | ((with_reducible refine gate_dst (N := 4) rfl ?_); refine box_event ?hg (N := 4) ?hd (cs := #[.int .i64 0, .int .i64 0, .int .i64 0, .int .i64 0, .int .i64 0, .slice none 0 0]) (t := 25) ?hr ?_; (case hd => rfl); (case hg => rfl); (case hr => first | (go_simp; done) | (go_simp; rfl)); intro gb256 hg w40 hbox hb; have n0_ := Aside0.mk (blk_below (bk_ BK255) hb); have n1_ := Aside0.mk (below_step bs_ hb); have n2_ := Aside0.mk (hbox); have n3_ := Aside0.mk ((by rw [hg]; exact (below_size bs_) : w.heap.size ≤ gb256)); have n4_ := Aside0.mk ((by rw [hg]; exact (below_size bs_) : w.heap.size ≤ gb256)); have n5_ := Aside0.mk ((by rw [hg]; exact Nat.ne_of_lt (blk_lt (bk_ BK255)) : gb255 ≠ gb256)); have n6_ := Aside0.mk ((by rw [hg]; exact Nat.ne_of_gt (blk_lt (bk_ BK255)) : gb256 ≠ gb255)); clear BK255 HB; have BK255 := n0_; have HB := n1_; have BK256 := n2_; have GW256 := n3_; have GE256 := n4_; have NB255_256 := n5_; have NB256_255 := n6_; clear n0_ n1_ n2_ n3_ n4_ n5_ n6_; clear hb hbox hg; have hnb41 := NB255_256.out; have hnc41 := NB256_255.out; obtain ⟨hcz42_0, hcz42_1, hcz42_2, hcz42_3, hcz42_4, hcz42_5, hfz42_0, hfz42_1, hfz42_2, hfz42_3, hfz42_4, hfz42_5⟩ := blk6 BK255) | ((with_reducible refine gate_callee (f := 24) rfl ?_); refine goesL_ (some 9) rfl rfl Try.func24 (by kernel_rfl) rfl #[.agg #[.int .i64 a0_0, .int .i64 a0_1, .int .i64 a0_2, .int .i64 a0_3, .int .i64 a0_4, .slice A0_5 l0_5.length c0_5]] rfl (by (try simp only [List.map_toArray, List.map_cons, List.map_nil]); first | done | rfl | (simp only [List.length_drop, List.length_take]; rfl)) ?_; (with_reducible refine (drydockref17_May.calls k a0_0 a0_1 a0_2 a0_3 a0_4 _ _ l0_5 false _ ?side1 ?side2 A3.out).mono ?_); (case side1 => repeat (first | exact (Kd.C_below HR0_5.out HB.out) | (with_reducible refine Kd.C_alloc ?_ _) | (with_reducible refine Kd.C_drewN ?_ _) | (with_reducible refine Kd.C_drew ?_))); (case side2 => exact HC0_5.out); rintro e w43 ⟨rfl, hb⟩; refine ⟨_, rfl, ?_⟩; have n0_ := Aside0.mk (blk_below (bk_ BK255) hb); have n1_ := Aside0.mk (blk_below (bk_ BK256) hb); have n2_ := Aside0.mk (below_step bs_ hb); clear BK255 BK256 HB; have BK255 := n0_; have BK256 := n1_; have HB := n2_; clear n0_ n1_ n2_; (try clear hb); (try clear hb2); (try clear hk); (try clear hi); obtain ⟨hcz44_0, hcz44_1, hcz44_2, hcz44_3, hcz44_4, hcz44_5, hfz44_0, hfz44_1, hfz44_2, hfz44_3, hfz44_4, hfz44_5⟩ := blk6 BK256))
  refine bodyPost_ret (results_ct rfl _ _ gb256 25 #[.int .i64 0, .int .i64 0, .int .i64 0, .int .i64 0, .int .i64 0, .slice none 0 0] (0, 0) _ rfl (bp_ BK256) Try.underlying25 rfl (by kernel_rfl)) rfl ?_
  exact ⟨_, by first | rfl | (simp [errW_none, errW_some] <;> rfl) | (simp [*, errW_none, errW_some] <;> rfl), by first | exact Kd.R_nil _ _ _ _ _ | exact Kd.N_nil _ _ _ _ _ | exact Kd.V_nil _ _ _ _ _ | exact Kd.Q_nil _ _ _ _ _ | exact Kd.S_nil _ _ _ _ _, by repeat (first | (with_reducible first | exact HB.out | apply below_alloc | apply pw_below_drewN | apply below_drew1 | refine below_set ?_ GE255.out | refine below_set ?_ GE256.out) | exact HB.out)⟩

end Go.Proofs.Ytipnfcicpnmggaa.P
