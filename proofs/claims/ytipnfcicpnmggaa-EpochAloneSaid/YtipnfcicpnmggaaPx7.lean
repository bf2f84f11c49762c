-- Written by a program of this session over the kit's print of the translation. Lean checks it.
import Derived.Test.YtipnfcicpnmggaaPx0
import Derived.Test.YtipnfcicpnmggaaPx5
import Derived.Test.YtipnfcicpnmggaaHFind
import Derived.Test.YtipnfcicpnmggaaHOwn
-- shorter
namespace Go.Proofs.Ytipnfcicpnmggaa.P
open Go.RowKit Go.Proofs.YtipnfcicpnmggaaW.PrintWords Go.Proofs.YtipnfcicpnmggaaW.PrintLast Go.Proofs.YtipnfcicpnmggaaW.PrintMore
attribute [local go_sem] max2_int min2_int max_two min_two max_three min_three max_four min_four   -- for this text's walks alone
set_option linter.unusedVariables false
set_option linter.unusedSimpArgs false

/-! ### epoch_Retire: function 16 -/
def epoch_Retire.j0 : Nat → Int → Bool → Int → Int → Int → Int → Int → List (S43) → Option (Int × Int × Int × Int × Int × (List (S43)) × Int)
  | 0, _, _, _, _, _, _, _, _ => none
  | k + 1, x1, x6, x143000, x143001, x143002, x143003, x143004, x143005 => if x6 = true then (some (0, 0, 0, 0, 0, ([] : List (S43)), 1)) else (if x143000 = 1073741824 then (some (0, 0, 0, 0, 0, ([] : List (S43)), 2)) else (if (x143005.length : Int) = 16 then (some (0, 0, 0, 0, 0, ([] : List (S43)), 4)) else ((epoch_own.f x143000 x143001 x143002 x143003 x143004 x143005).bind fun bt146 => (if bt146.2.2.2.2.2.length < 8796093022208 then (some (wrap64 (bt146.1 + 1), bt146.2.1, bt146.2.2.1, bt146.2.2.2.1, bt146.2.2.2.2.1, (bt146.2.2.2.2.2 ++ [(⟨x1, bt146.1⟩ : S43)]), 0)) else (none)))))
def epoch_Retire.f (k : Nat) (a0_0 : Int) (a0_1 : Int) (a0_2 : Int) (a0_3 : Int) (a0_4 : Int) (l0_5 : List (S43)) (a1 : Int) : Option (Int × Int × Int × Int × Int × (List (S43)) × Int) := (epoch_May.f k a0_0 a0_1 a0_2 a0_3 a0_4 l0_5).bind fun t144 => (if t144 = true then (if a1 < 1 then (epoch_Retire.j0 k a1 (decide (a1 < 1)) a0_0 a0_1 a0_2 a0_3 a0_4 l0_5) else ((epoch_find.f a0_0 a0_1 a0_2 a0_3 a0_4 l0_5 a1).bind fun t145 => (epoch_Retire.j0 k a1 (decide (t145 ≥ 0)) a0_0 a0_1 a0_2 a0_3 a0_4 l0_5))) else (epoch_Retire.j0 k a1 (!t144) a0_0 a0_1 a0_2 a0_3 a0_4 l0_5))
theorem epoch_Retire.mono_l : ∀ k, (∀ y0 y1 y2 y3 y4 y5 y6 y7, LeO (epoch_Retire.j0 k y0 y1 y2 y3 y4 y5 y6 y7) (epoch_Retire.j0 (k + 1) y0 y1 y2 y3 y4 y5 y6 y7))
  | 0 => fun _ _ _ _ _ _ _ _ r h => by simp [epoch_Retire.j0] at h
  | k + 1 => by
    have ih0 := epoch_Retire.mono_l k
    · intro y0 y1 y2 y3 y4 y5 y6 y7
      unfold epoch_Retire.j0
      repeat' first
      | (with_reducible exact ih0 _ _ _ _ _ _ _ _)
      | (with_reducible exact epoch_May.mono _ _ _ _ _ _ _)
      | (with_reducible exact LeO.refl _)
      | (with_reducible exact LeO.none _)
      | (with_reducible refine LeO.ite ?_ ?_)
      | (with_reducible refine LeO.bind ?_ (fun _ => ?_))
      | exact ih0 _ _ _ _ _ _ _ _
      | exact epoch_May.mono _ _ _ _ _ _ _
      | exact LeO.none _
      | refine LeO.ite ?_ ?_
      | refine LeO.bind ?_ (fun _ => ?_)
theorem epoch_Retire.mono : ∀ a0 a1 a2 a3 a4 a5 a6 k, LeO (epoch_Retire.f k a0 a1 a2 a3 a4 a5 a6) (epoch_Retire.f (k + 1) a0 a1 a2 a3 a4 a5 a6) := by
 intro a0 a1 a2 a3 a4 a5 a6 k
 have ih0 := epoch_Retire.mono_l k
 unfold epoch_Retire.f
 repeat' first
  | (with_reducible exact ih0 _ _ _ _ _ _ _ _)
  | (with_reducible exact epoch_May.mono _ _ _ _ _ _ _)
  | (with_reducible exact LeO.refl _)
  | (with_reducible exact LeO.none _)
  | (with_reducible refine LeO.ite ?_ ?_)
  | (with_reducible refine LeO.bind ?_ (fun _ => ?_))
  | exact ih0 _ _ _ _ _ _ _ _
  | exact epoch_May.mono _ _ _ _ _ _ _
  | exact LeO.none _
  | refine LeO.ite ?_ ?_
  | refine LeO.bind ?_ (fun _ => ?_)
set_option maxHeartbeats 8000000 in
set_option maxRecDepth 100000 in
theorem epoch_Retire.calls (k : Nat) (a0_0 : Int) (a0_1 : Int) (a0_2 : Int) (a0_3 : Int) (a0_4 : Int) (A0_5 : Option Addr) (c0_5 : Nat) (l0_5 : List (S43)) (a1 : Int) (r1 : Int) (r2 : Int) (r3 : Int) (r4 : Int) (r5 : Int) (r6 : List (S43)) (r7 : Int) (w : World) (hr0_5 : Kd.C k43 w A0_5 l0_5.length l0_5) (hc0_5 : l0_5.length ≤ c0_5) (h : epoch_Retire.f k a0_0 a0_1 a0_2 a0_3 a0_4 l0_5 a1 = some (r1, r2, r3, r4, r5, r6, r7)) :
    Calls Try.prog 16 #[.agg #[.int .i64 a0_0, .int .i64 a0_1, .int .i64 a0_2, .int .i64 a0_3, .int .i64 a0_4, .slice A0_5 l0_5.length c0_5], .int .i64 a1] w fun e w' => ∃ v5_ : Value, e = .returned (.tuple #[.agg #[.int .i64 r1, .int .i64 r2, .int .i64 r3, .int .i64 r4, .int .i64 r5, v5_], .int .i64 r7]) ∧ Kd.R k43 43 w' w.heap.size (fun _ => True) v5_ r6 ∧ Below w.heap.size w w' := by
 have hu25 := Try.underlying25
 have hu43 := Try.underlying43
 have HR0_5 := Aside0.mk hr0_5
 have HC0_5 := Aside0.mk hc0_5
 clear hr0_5 hc0_5
 have HB := Aside0.mk (Below.refl w.heap.size w)
 have H : ((epoch_May.f k a0_0 a0_1 a0_2 a0_3 a0_4 l0_5).bind fun t144 => (if t144 = true then (if a1 < 1 then (epoch_Retire.j0 k a1 (decide (a1 < 1)) a0_0 a0_1 a0_2 a0_3 a0_4 l0_5) else ((epoch_find.f a0_0 a0_1 a0_2 a0_3 a0_4 l0_5 a1).bind fun t145 => (epoch_Retire.j0 k a1 (decide (t145 ≥ 0)) a0_0 a0_1 a0_2 a0_3 a0_4 l0_5))) else (epoch_Retire.j0 k a1 (!t144) a0_0 a0_1 a0_2 a0_3 a0_4 l0_5))) = some (r1, r2, r3, r4, r5, r6, r7) := h
 clear h
 replace H := Option.bind_eq_some_iff.mp H
 obtain ⟨t144, A30, H⟩ := H
 replace H : (if t144 = true then (if a1 < 1 then (epoch_Retire.j0 k a1 (decide (a1 < 1)) a0_0 a0_1 a0_2 a0_3 a0_4 l0_5) else ((epoch_find.f a0_0 a0_1 a0_2 a0_3 a0_4 l0_5 a1).bind fun t145 => (epoch_Retire.j0 k a1 (decide (t145 ≥ 0)) a0_0 a0_1 a0_2 a0_3 a0_4 l0_5))) else (epoch_Retire.j0 k a1 (!t144) a0_0 a0_1 a0_2 a0_3 a0_4 l0_5)) = some (r1, r2, r3, r4, r5, r6, r7) := H
 have A3 := Aside0.mk A30
 clear A30
 have HC4 := Aside0.mk H
 clear H
 go_enter Try.func16, Try.ntmps16
 go_upto_if 6 with (first | ((with_reducible refine gate_dst (N := 2) rfl ?_); refine box_event ?hg (N := 2) ?hd (cs := #[.int .i64 a0_0, .int .i64 a0_1, .int .i64 a0_2, .int .i64 a0_3, .int .i64 a0_4, .slice A0_5 l0_5.length c0_5]) (t := 25) ?hr ?_; (case hd => rfl); (case hg => rfl); (case hr => first | (go_simp; done) | (go_simp; rfl)); intro gb142 hg w5 hbox hb; have n0_ := Aside0.mk (below_step bs_ hb); have n1_ := Aside0.mk (hbox); have n2_ := Aside0.mk ((by rw [hg]; exact (below_size bs_) : w.heap.size ≤ gb142)); have n3_ := Aside0.mk ((by rw [hg]; exact (below_size bs_) : w.heap.size ≤ gb142)); clear HB; have HB := n0_; have BK142 := n1_; have GW142 := n2_; have GE142 := n3_; clear n0_ n1_ n2_ n3_; clear hb hbox hg) | ((with_reducible refine gate_dst (N := 4) rfl ?_); refine box_event ?hg (N := 4) ?hd (cs := #[.int .i64 0, .int .i64 0, .int .i64 0, .int .i64 0, .int .i64 0, .slice none 0 0]) (t := 25) ?hr ?_; (case hd => rfl); (case hg => rfl); (case hr => first | (go_simp; done) | (go_simp; rfl)); intro gb143 hg w6 hbox hb; have n0_ := Aside0.mk (blk_below (bk_ BK142) hb); have n1_ := Aside0.mk (below_step bs_ hb); have n2_ := Aside0.mk (hbox); have n3_ := Aside0.mk ((by rw [hg]; exact (below_size bs_) : w.heap.size ≤ gb143)); have n4_ := Aside0.mk ((by rw [hg]; exact (below_size bs_) : w.heap.size ≤ gb143)); have n5_ := Aside0.mk ((by rw [hg]; exact Nat.ne_of_lt (blk_lt (bk_ BK142)) : gb142 ≠ gb143)); have n6_ := Aside0.mk ((by rw [hg]; exact Nat.ne_of_gt (blk_lt (bk_ BK142)) : gb143 ≠ gb142)); clear BK142 HB; have BK142 := n0_; have HB := n1_; have BK143 := n2_; have GW143 := n3_; have GE143 := n4_; have NB142_143 := n5_; have NB143_142 := n6_; clear n0_ n1_ n2_ n3_ n4_ n5_ n6_; clear hb hbox hg; have hnb7 := NB142_143.out; have hnc7 := NB143_142.out; obtain ⟨hcz8_0, hcz8_1, hcz8_2, hcz8_3, hcz8_4, hcz8_5, hfz8_0, hfz8_1, hfz8_2, hfz8_3, hfz8_4, hfz8_5⟩ := blk6 BK142) | ((with_reducible refine gate_callee (f := 23) rfl ?_); refine goesL_ (some 8) rfl rfl Try.func23 (by kernel_rfl) rfl #[.agg #[.int .i64 a0_0, .int .i64 a0_1, .int .i64 a0_2, .int .i64 a0_3, .int .i64 a0_4, .slice A0_5 l0_5.length c0_5]] rfl (by (try simp only [List.map_toArray, List.map_cons, List.map_nil]); first | done | rfl | (simp only [List.length_drop, List.length_take]; rfl)) ?_; (with_reducible refine (epoch_May.calls k a0_0 a0_1 a0_2 a0_3 a0_4 _ _ l0_5 t144 _ ?side1 ?side2 A3.out).mono ?_); (case side1 => repeat (first | exact (Kd.C_below HR0_5.out HB.out) | (with_reducible refine Kd.C_alloc ?_ _) | (with_reducible refine Kd.C_drewN ?_ _) | (with_reducible refine Kd.C_drew ?_))); (case side2 => exact HC0_5.out); rintro e w9 ⟨rfl, hb⟩; refine ⟨_, rfl, ?_⟩; have n0_ := Aside0.mk (blk_below (bk_ BK142) hb); have n1_ := Aside0.mk (blk_below (bk_ BK143) hb); have n2_ := Aside0.mk (below_step bs_ hb); clear BK142 BK143 HB; have BK142 := n0_; have BK143 := n1_; have HB := n2_; clear n0_ n1_ n2_; (try clear hb); (try clear hb2); (try clear hk); (try clear hi)))
 (try simp only [Act.put, List.setIfInBounds_toArray, List.set_cons_zero, List.set_cons_succ])
 go_cut [6] (fun v6 wc => ∃ (kq : Nat) (x6_3 : Bool), v6 = .bool x6_3 ∧ Aside0 (epoch_Retire.j0 kq a1 x6_3 a0_0 a0_1 a0_2 a0_3 a0_4 l0_5 = some (r1, r2, r3, r4, r5, r6, r7)) ∧ Aside0 (kq ≤ k) ∧ Aside0 (wc.heap[gb142]? = some (.cells #[.int .i64 a0_0, .int .i64 a0_1, .int .i64 a0_2, .int .i64 a0_3, .int .i64 a0_4, (.slice A0_5 l0_5.length c0_5)] 25 (0, 0))) ∧ Aside0 (wc.heap[gb143]? = some (.cells #[.int .i64 0, .int .i64 0, .int .i64 0, .int .i64 0, .int .i64 0, (.slice none 0 0)] 25 (0, 0))) ∧ Aside0 (Below w.heap.size w wc))
 case first =>
  have H := HC4.out
  clear HC4
  by_cases c10 : t144 = true
  ·subst c10
   have H1 : (if a1 < 1 then (epoch_Retire.j0 k a1 (decide (a1 < 1)) a0_0 a0_1 a0_2 a0_3 a0_4 l0_5) else ((epoch_find.f a0_0 a0_1 a0_2 a0_3 a0_4 l0_5 a1).bind fun t145 => (epoch_Retire.j0 k a1 (decide (t145 ≥ 0)) a0_0 a0_1 a0_2 a0_3 a0_4 l0_5))) = some (r1, r2, r3, r4, r5, r6, r7) := by rw [if_pos rfl] at H; exact H
   clear H
   have H := H1
   clear H1
   by_cases c11 : a1 < 1
   ·rw [if_pos c11] at H
    have c11b0 : decide (a1 < 1) = true := decide_eq_true c11
    clear c11
    (first | rw [c11b0] | (simp only [i64_w, i32_w]; rw [c11b0]) | skip)
    have H' := Aside0.mk H
    clear H
    go_wp2
    go_meet
    case rel => exact ⟨_, (decide (a1 < 1)), eq_, H', ⟨by first | omega | exact Nat.le_refl _⟩, ⟨bk_ BK142⟩, ⟨bk_ BK143⟩, ⟨bs_⟩⟩
   ·rw [if_neg c11] at H
    have c11b0 : decide (a1 < 1) = false := decide_eq_false c11
    clear c11
    (first | rw [c11b0] | (simp only [i64_w, i32_w]; rw [c11b0]) | skip)
    replace H := Option.bind_eq_some_iff.mp H
    obtain ⟨t145, A120, H⟩ := H
    replace H : (epoch_Retire.j0 k a1 (decide (t145 ≥ 0)) a0_0 a0_1 a0_2 a0_3 a0_4 l0_5) = some (r1, r2, r3, r4, r5, r6, r7) := H
    have A12 := Aside0.mk A120
    clear A120
    have H' := Aside0.mk H
    clear H
    have hnb13 := NB142_143.out
    have hnc13 := NB143_142.out
    obtain ⟨hcz14_0, hcz14_1, hcz14_2, hcz14_3, hcz14_4, hcz14_5, hfz14_0, hfz14_1, hfz14_2, hfz14_3, hfz14_4, hfz14_5⟩ := blk6 BK142
    go_wp2_with (first | ((with_reducible refine gate_callee (f := 26) rfl ?_); refine goesL_ (some 14) rfl rfl Try.func26 (by kernel_rfl) rfl #[.agg #[.int .i64 a0_0, .int .i64 a0_1, .int .i64 a0_2, .int .i64 a0_3, .int .i64 a0_4, .slice A0_5 l0_5.length c0_5], .int .i64 a1] rfl (by (try simp only [List.map_toArray, List.map_cons, List.map_nil]); first | done | rfl | (simp only [List.length_drop, List.length_take]; rfl)) ?_; (with_reducible refine (epoch_find.calls a0_0 a0_1 a0_2 a0_3 a0_4 _ _ l0_5 a1 t145 _ ?side1 ?side2 A12.out).mono ?_); (case side1 => repeat (first | exact (Kd.C_below HR0_5.out HB.out) | (with_reducible refine Kd.C_alloc ?_ _) | (with_reducible refine Kd.C_drewN ?_ _) | (with_reducible refine Kd.C_drew ?_))); (case side2 => exact HC0_5.out); rintro e w15 ⟨rfl, hb⟩; refine ⟨_, rfl, ?_⟩; have n0_ := Aside0.mk (blk_below (bk_ BK142) hb); have n1_ := Aside0.mk (blk_below (bk_ BK143) hb); have n2_ := Aside0.mk (below_step bs_ hb); clear BK142 BK143 HB; have BK142 := n0_; have BK143 := n1_; have HB := n2_; clear n0_ n1_ n2_; (try clear hb); (try clear hb2); (try clear hk); (try clear hi)))
    go_meet
    case rel => exact ⟨_, (decide (t145 ≥ 0)), eq_, H', ⟨by first | omega | exact Nat.le_refl _⟩, ⟨bk_ BK142⟩, ⟨bk_ BK143⟩, ⟨bs_⟩⟩
  ·replace c10 := Bool.eq_false_iff.mpr c10
   subst c10
   have H1 : (epoch_Retire.j0 k a1 (!false) a0_0 a0_1 a0_2 a0_3 a0_4 l0_5) = some (r1, r2, r3, r4, r5, r6, r7) := by rw [if_neg (show ¬ (false = true) by decide)] at H; exact H
   clear H
   have H := H1
   clear H1
   have H' := Aside0.mk H
   clear H
   go_wp2
   go_meet
   case rel => exact ⟨_, (!false), eq_, H', ⟨by first | omega | exact Nat.le_refl _⟩, ⟨bk_ BK142⟩, ⟨bk_ BK143⟩, ⟨bs_⟩⟩
 case rest =>
  clear HC4
  obtain ⟨kq, x6_3, rfl, HA, HJ3, BK142, BK143, HB⟩ := hcut
  cases kq with
  | zero => exact absurd HA.out (by simp [epoch_Retire.j0])
  | succ kj3 =>
   have H := HA.out
   clear HA
   simp only [epoch_Retire.j0] at H
   by_cases c16 : x6_3 = true
   ·subst c16
    have H1 : (some (0, 0, 0, 0, 0, ([] : List (S43)), 1)) = some (r1, r2, r3, r4, r5, r6, r7) := by rw [if_pos rfl] at H; exact H
    clear H
    have H := H1
    clear H1
    simp only [Option.some.injEq, Prod.mk.injEq] at H
    obtain ⟨rfl, rfl, rfl, rfl, rfl, rfl, rfl⟩ := H
    have hnb17 := NB143_142.out
    have hnc17 := NB142_143.out
    obtain ⟨hcz18_0, hcz18_1, hcz18_2, hcz18_3, hcz18_4, hcz18_5, hfz18_0, hfz18_1, hfz18_2, hfz18_3, hfz18_4, hfz18_5⟩ := blk6 BK143
    go_wp2
    refine bodyPost_ret (results_ct rfl _ _ gb143 25 #[.int .i64 0, .int .i64 0, .int .i64 0, .int .i64 0, .int .i64 0, .slice none 0 0] (0, 0) _ rfl (bp_ BK143) Try.underlying25 rfl (by kernel_rfl)) rfl ?_
    exact ⟨_, by first | rfl | (simp [errW_none, errW_some] <;> rfl) | (simp [*, errW_none, errW_some] <;> rfl), by first | exact Kd.R_nil _ _ _ _ _ | exact Kd.N_nil _ _ _ _ _ | exact Kd.V_nil _ _ _ _ _ | exact Kd.Q_nil _ _ _ _ _ | exact Kd.S_nil _ _ _ _ _, by repeat (first | (with_reducible first | exact HB.out | apply below_alloc | apply pw_below_drewN | apply below_drew1 | refine below_set ?_ GE142.out | refine below_set ?_ GE143.out) | exact HB.out)⟩
   ·replace c16 := Bool.eq_false_iff.mpr c16
    subst c16
    have H1 : (if a0_0 = 1073741824 then (some (0, 0, 0, 0, 0, ([] : List (S43)), 2)) else (if (l0_5.length : Int) = 16 then (some (0, 0, 0, 0, 0, ([] : List (S43)), 4)) else ((epoch_own.f a0_0 a0_1 a0_2 a0_3 a0_4 l0_5).bind fun bt146 => (if bt146.2.2.2.2.2.length < 8796093022208 then (some (wrap64 (bt146.1 + 1), bt146.2.1, bt146.2.2.1, bt146.2.2.2.1, bt146.2.2.2.2.1, (bt146.2.2.2.2.2 ++ [(⟨a1, bt146.1⟩ : S43)]), 0)) else (none))))) = some (r1, r2, r3, r4, r5, r6, r7) := by rw [if_neg (show ¬ (false = true) by decide)] at H; exact H
    clear H
    have H := H1
    clear H1
    by_cases c19 : a0_0 = 1073741824
    ·rw [if_pos c19] at H
     have c19b0 : (a0_0 == 1073741824) = true := beq_iff_eq.mpr c19
     have c19b1 : (a0_0 != 1073741824) = false := bne_eq_false_iff_eq.mpr c19
     clear c19
     simp only [Option.some.injEq, Prod.mk.injEq] at H
     obtain ⟨rfl, rfl, rfl, rfl, rfl, rfl, rfl⟩ := H
     have hnb20 := NB142_143.out
     have hnc20 := NB143_142.out
     obtain ⟨hcz21_0, hcz21_1, hcz21_2, hcz21_3, hcz21_4, hcz21_5, hfz21_0, hfz21_1, hfz21_2, hfz21_3, hfz21_4, hfz21_5⟩ := blk6 BK142
     obtain ⟨hcz22_0, hcz22_1, hcz22_2, hcz22_3, hcz22_4, hcz22_5, hfz22_0, hfz22_1, hfz22_2, hfz22_3, hfz22_4, hfz22_5⟩ := blk6 BK143
     go_wp2
     refine bodyPost_ret (results_ct rfl _ _ gb143 25 #[.int .i64 0, .int .i64 0, .int .i64 0, .int .i64 0, .int .i64 0, .slice none 0 0] (0, 0) _ rfl (bp_ BK143) Try.underlying25 rfl (by kernel_rfl)) rfl ?_
     exact ⟨_, by first | rfl | (simp [errW_none, errW_some] <;> rfl) | (simp [*, errW_none, errW_some] <;> rfl), by first | exact Kd.R_nil _ _ _ _ _ | exact Kd.N_nil _ _ _ _ _ | exact Kd.V_nil _ _ _ _ _ | exact Kd.Q_nil _ _ _ _ _ | exact Kd.S_nil _ _ _ _ _, by repeat (first | (with_reducible first | exact HB.out | apply below_alloc | apply pw_below_drewN | apply below_drew1 | refine below_set ?_ GE142.out | refine below_set ?_ GE143.out) | exact HB.out)⟩
    ·rw [if_neg c19] at H
     have c19b0 : (a0_0 == 1073741824) = false := beq_eq_false_iff_ne.mpr c19
     have c19b1 : (a0_0 != 1073741824) = true := bne_iff_ne.mpr c19
     by_cases c23 : (l0_5.length : Int) = 16
     ·rw [if_pos c23] at H
      have c23b0 : ((l0_5.length : Int) == 16) = true := beq_iff_eq.mpr c23
      have c23b1 : ((l0_5.length : Int) != 16) = false := bne_eq_false_iff_eq.mpr c23
      clear c23
      simp only [Option.some.injEq, Prod.mk.injEq] at H
      obtain ⟨rfl, rfl, rfl, rfl, rfl, rfl, rfl⟩ := H
      have hnb24 := NB142_143.out
      have hnc24 := NB143_142.out
      obtain ⟨hcz25_0, hcz25_1, hcz25_2, hcz25_3, hcz25_4, hcz25_5, hfz25_0, hfz25_1, hfz25_2, hfz25_3, hfz25_4, hfz25_5⟩ := blk6 BK142
      obtain ⟨hcz26_0, hcz26_1, hcz26_2, hcz26_3, hcz26_4, hcz26_5, hfz26_0, hfz26_1, hfz26_2, hfz26_3, hfz26_4, hfz26_5⟩ := blk6 BK143
      go_wp2
      refine bodyPost_ret (results_ct rfl _ _ gb143 25 #[.int .i64 0, .int .i64 0, .int .i64 0, .int .i64 0, .int .i64 0, .slice none 0 0] (0, 0) _ rfl (bp_ BK143) Try.underlying25 rfl (by kernel_rfl)) rfl ?_
      exact ⟨_, by first | rfl | (simp [errW_none, errW_some] <;> rfl) | (simp [*, errW_none, errW_some] <;> rfl), by first | exact Kd.R_nil _ _ _ _ _ | exact Kd.N_nil _ _ _ _ _ | exact Kd.V_nil _ _ _ _ _ | exact Kd.Q_nil _ _ _ _ _ | exact Kd.S_nil _ _ _ _ _, by repeat (first | (with_reducible first | exact HB.out | apply below_alloc | apply pw_below_drewN | apply below_drew1 | refine below_set ?_ GE142.out | refine below_set ?_ GE143.out) | exact HB.out)⟩
     ·rw [if_neg c23] at H
      have c23b0 : ((l0_5.length : Int) == 16) = false := beq_eq_false_iff_ne.mpr c23
      have c23b1 : ((l0_5.length : Int) != 16) = true := bne_iff_ne.mpr c23
      replace H := Option.bind_eq_some_iff.mp H
      obtain ⟨⟨t146, t147, t148, t149, t150, t151⟩, A270, H⟩ := H
      replace H : (if t151.length < 8796093022208 then (some (wrap64 (t146 + 1), t147, t148, t149, t150, (t151 ++ [(⟨a1, t146⟩ : S43)]), 0)) else (none)) = some (r1, r2, r3, r4, r5, r6, r7) := H
      have A27 := Aside0.mk A270
      clear A270
      by_cases c28 : t151.length < 8796093022208
      ·rw [if_pos c28] at H
       have LMc28 := Aside0.mk c28
       clear c28
       obtain ⟨y154, hy154⟩ : ∃ y_ : List (S43), y_ = (t151 ++ [(⟨a1, t146⟩ : S43)]) := ⟨_, rfl⟩
       replace H : (some (wrap64 (t146 + 1), t147, t148, t149, t150, y154, 0)) = some (r1, r2, r3, r4, r5, r6, r7) := by first | (rw [hy154]; with_reducible exact H) | (have H2_ := (Option.bind_some _ _).symm.trans H; rw [hy154]; with_reducible exact H2_) | (have H2_ := (Option.bind_some _ _).symm.trans H; with_reducible exact H2_) | with_reducible exact H | (rw [hy154]; exact H) | exact H
       have Ny154 := Aside0.mk hy154
       clear hy154
       simp only [Option.some.injEq, Prod.mk.injEq] at H
       obtain ⟨rfl, rfl, rfl, rfl, rfl, rfl, rfl⟩ := H
       have hnb29 := NB142_143.out
       have hnc29 := NB143_142.out
       obtain ⟨hcz30_0, hcz30_1, hcz30_2, hcz30_3, hcz30_4, hcz30_5, hfz30_0, hfz30_1, hfz30_2, hfz30_3, hfz30_4, hfz30_5⟩ := blk6 BK142
       go_wp2_with (first | ((with_reducible refine gate_callee (f := 27) rfl ?_); refine goesL_ (some 29) rfl rfl Try.func27 (by kernel_rfl) rfl #[.agg #[.int .i64 a0_0, .int .i64 a0_1, .int .i64 a0_2, .int .i64 a0_3, .int .i64 a0_4, .slice A0_5 l0_5.length c0_5]] rfl (by (try simp only [List.map_toArray, List.map_cons, List.map_nil]); first | done | rfl | (simp only [List.length_drop, List.length_take]; rfl)) ?_; (with_reducible refine (epoch_own.calls a0_0 a0_1 a0_2 a0_3 a0_4 _ _ l0_5 t146 t147 t148 t149 t150 t151 _ ?side1 ?side2 A27.out).mono ?_); (case side1 => repeat (first | exact (Kd.C_below HR0_5.out HB.out) | (with_reducible refine Kd.C_alloc ?_ _) | (with_reducible refine Kd.C_drewN ?_ _) | (with_reducible refine Kd.C_drew ?_))); (case side2 => exact HC0_5.out); rintro e w31 ⟨v152, rfl, ho0, hb⟩; refine ⟨_, rfl, ?_⟩; have n0_ := Aside0.mk (Kd.R_lower ho0 (below_size bs_)); have n1_ := Aside0.mk (blk_below (bk_ BK142) hb); have n2_ := Aside0.mk (blk_below (bk_ BK143) hb); have n3_ := Aside0.mk (below_step bs_ hb); clear BK142 BK143 HB; have HO153 := n0_; have BK142 := n1_; have BK143 := n2_; have HB := n3_; clear n0_ n1_ n2_ n3_; (try clear hb); (try clear hb2); (try clear hk); (try clear hi); (try clear ho0); obtain ⟨Ao32, co32, eo32⟩ := Kd.R_slice HO153.out; subst eo32; obtain ⟨hcz33_0, hcz33_1, hcz33_2, hcz33_3, hcz33_4, hcz33_5, hfz33_0, hfz33_1, hfz33_2, hfz33_3, hfz33_4, hfz33_5⟩ := blk6 BK142) | ((with_reducible refine gate_builtin (b := .append) (xs := #[.tmp 31, .tmp 36]) rfl ?_); at_builtin; refine Kd.R_append k43 (w0 := w) w.heap.size rfl (.tmp 31) (.tmp 36) 23 43 (.agg #[(.int .i64 0), (.int .i64 0)]) 16 rfl Try.underlying23 info43 rfl (by decide) (by omega) (.slice Ao32 t151.length co32) t151 (⟨a1, t146⟩ : S43) [.int .i64 a1, .int .i64 t146] (fun _ => True) (fun _ => False) rfl (by first | (go_simp; done) | (go_simp; rfl)) ?aP (fun _ hk => hk.elim) ?aF ?aO ?aB ?aS ?aL ?_; (case aP => exact k43_mkM _ _ _ (⟨a1, t146⟩ : S43)); (case aB => exact bs_); (case aF => exact (fun _ _ => trivial)); (case aO => exact (by (with_reducible repeat (first | apply Kd.R_alloc | apply Kd.R_drewN | apply Kd.R_drew)); exact Kd.R_mono (far6 gb142 (Kd.R_types HO153.out BK142.out (by decide)) (fun _ hk => hk.2)) (fun _ hk => trivial))); (case aS => exact (below_size bs_)); (case aL => have := LMc28.out; omega); intro v155 w34 ho hb hg hat; rw [← Ny154.out] at ho; have n0_ := Aside0.mk (blk_grown (g := gb142) (o := .cells #[.int .i64 t146, .int .i64 t147, .int .i64 t148, .int .i64 t149, .int .i64 t150, .slice Ao32 t151.length co32] 25 (0, 0)) (bp_ BK142) hg (Kd.R_ne HO153.out BK142.out (by decide))); have n1_ := Aside0.mk (blk_grown (g := gb143) (o := .cells #[.int .i64 0, .int .i64 0, .int .i64 0, .int .i64 0, .int .i64 0, .slice none 0 0] 25 (0, 0)) (bf_ BK143) hg (Kd.R_ne HO153.out BK143.out (by decide))); have n2_ := Aside0.mk (hb); have n3_ := Aside0.mk (ho); clear BK142 BK143 HB HO153; have BK142 := n0_; have BK143 := n1_; have HB := n2_; have HO156 := n3_; clear n0_ n1_ n2_ n3_; clear ho hb hg hat; obtain ⟨Ao35, co35, eo35⟩ := Kd.R_slice HO156.out; subst eo35; obtain ⟨hcz36_0, hcz36_1, hcz36_2, hcz36_3, hcz36_4, hcz36_5, hfz36_0, hfz36_1, hfz36_2, hfz36_3, hfz36_4, hfz36_5⟩ := blk6 BK142; obtain ⟨hcz37_0, hcz37_1, hcz37_2, hcz37_3, hcz37_4, hcz37_5, hfz37_0, hfz37_1, hfz37_2, hfz37_3, hfz37_4, hfz37_5⟩ := blk6 BK143))
       refine bodyPost_ret (results_ct rfl _ _ gb143 25 #[.int .i64 (wrap64 (t146 + 1)), .int .i64 t147, .int .i64 t148, .int .i64 t149, .int .i64 t150, .slice Ao35 y154.length co35] (0, 0) _ rfl (bp_ BK143) Try.underlying25 rfl (by kernel_rfl)) rfl ?_
       exact ⟨_, by first | rfl | (simp [errW_none, errW_some] <;> rfl) | (simp [*, errW_none, errW_some] <;> rfl), by (with_reducible repeat (first | apply Kd.R_alloc | apply Kd.R_drewN | apply Kd.R_drew)); exact Kd.R_mono (far6 gb143 (Kd.R_far (p := ⟨gb142, 0, none⟩) (Kd.R_far (p := ⟨gb142, 5, none⟩) (Kd.R_types (Kd.R_types HO156.out BK142.out (by decide)) BK143.out (by decide)) (fun _ hk => hk.1.2) (.slice Ao35 y154.length co35)) (fun _ hk => hk.1.2) (.int .i64 (wrap64 (t146 + 1)))) (fun _ hk => hk.2)) (fun _ hk => trivial), by repeat (first | (with_reducible first | exact HB.out | apply below_alloc | apply pw_below_drewN | apply below_drew1 | refine below_set ?_ GE142.out | refine below_set ?_ GE143.out) | exact HB.out)⟩
      ·rw [if_neg c28] at H
       exact absurd H (by simp)

end Go.Proofs.Ytipnfcicpnmggaa.P
