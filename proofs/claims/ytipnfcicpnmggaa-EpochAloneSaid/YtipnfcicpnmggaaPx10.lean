-- Written by a program of this session over the kit's print of the translation. Lean checks it.
import Derived.Test.YtipnfcicpnmggaaPx0
import Derived.Test.YtipnfcicpnmggaaPx5
import Derived.Test.YtipnfcicpnmggaaPx9
import Derived.Test.YtipnfcicpnmggaaHOwn
-- shorter
namespace Go.Proofs.Ytipnfcicpnmggaa.P
open Go.RowKit Go.Proofs.YtipnfcicpnmggaaW.PrintWords Go.Proofs.YtipnfcicpnmggaaW.PrintLast Go.Proofs.YtipnfcicpnmggaaW.PrintMore
attribute [local go_sem] max2_int min2_int max_two min_two max_three min_three max_four min_four   -- for this text's walks alone
set_option linter.unusedVariables false
set_option linter.unusedSimpArgs false

/-! ### epoch_Clear: function 18 -/
def epoch_Clear.l0 : Nat → List Int → List (S43) → List (S43) → Int → Int → Int → Int → Int → Int → Int → List (S43) → Option (Int × Int × Int × Int × Int × (List (S43)) × List Int)
  | 0, _, _, _, _, _, _, _, _, _, _, _ => none
  | k + 1, x4, x5, x14, x15, x16, x162000, x162001, x162002, x162003, x162004, x162005 => if x16 < x15 then (if 0 ≤ x16 then (if x16 < (x14.length : Int) then ((epoch_ready.f k x162000 x162001 x162002 x162003 x162004 x162005 ((rd_T43 x14 x16).f0) ((rd_T43 x14 x16).f1)).bind fun t174 => (if t174 = true then (if x4.length < 17592186044416 then (epoch_Clear.l0 k (x4 ++ [(rd_T43 x14 x16).f0]) x5 x14 x15 (wrap64 (x16 + 1)) x162000 x162001 x162002 x162003 x162004 x162005) else (none)) else (if x5.length < 8796093022208 then (epoch_Clear.l0 k x4 (x5 ++ [(⟨(rd_T43 x14 x16).f0, (rd_T43 x14 x16).f1⟩ : S43)]) x14 x15 (wrap64 (x16 + 1)) x162000 x162001 x162002 x162003 x162004 x162005) else (none)))) else (none)) else (none)) else (some (x162000, x162001, x162002, x162003, x162004, x5, x4))
def epoch_Clear.f (k : Nat) (a0_0 : Int) (a0_1 : Int) (a0_2 : Int) (a0_3 : Int) (a0_4 : Int) (l0_5 : List (S43)) : Option (Int × Int × Int × Int × Int × (List (S43)) × List Int) := (epoch_May.f k a0_0 a0_1 a0_2 a0_3 a0_4 l0_5).bind fun t163 => (if t163 = true then (epoch_Clear.l0 k ([] : List Int) ([] : List (S43)) l0_5 (l0_5.length : Int) 0 a0_0 a0_1 a0_2 a0_3 a0_4 l0_5) else ((epoch_own.f a0_0 a0_1 a0_2 a0_3 a0_4 l0_5).bind fun bt164 => (some (bt164.1, bt164.2.1, bt164.2.2.1, bt164.2.2.2.1, bt164.2.2.2.2.1, bt164.2.2.2.2.2, ([] : List Int)))))
theorem epoch_Clear.mono_l : ∀ k, (∀ y0 y1 y2 y3 y4 y5 y6 y7 y8 y9 y10, LeO (epoch_Clear.l0 k y0 y1 y2 y3 y4 y5 y6 y7 y8 y9 y10) (epoch_Clear.l0 (k + 1) y0 y1 y2 y3 y4 y5 y6 y7 y8 y9 y10))
  | 0 => fun _ _ _ _ _ _ _ _ _ _ _ r h => by simp [epoch_Clear.l0] at h
  | k + 1 => by
    have ih0 := epoch_Clear.mono_l k
    · intro y0 y1 y2 y3 y4 y5 y6 y7 y8 y9 y10
      unfold epoch_Clear.l0
      repeat' first
      | (with_reducible exact ih0 _ _ _ _ _ _ _ _ _ _ _)
      | (with_reducible exact epoch_May.mono _ _ _ _ _ _ _)
      | (with_reducible exact epoch_ready.mono _ _ _ _ _ _ _ _ _)
      | (with_reducible exact LeO.refl _)
      | (with_reducible exact LeO.none _)
      | (with_reducible refine LeO.ite ?_ ?_)
      | (with_reducible refine LeO.bind ?_ (fun _ => ?_))
      | exact ih0 _ _ _ _ _ _ _ _ _ _ _
      | exact epoch_May.mono _ _ _ _ _ _ _
      | exact epoch_ready.mono _ _ _ _ _ _ _ _ _
      | exact LeO.none _
      | refine LeO.ite ?_ ?_
      | refine LeO.bind ?_ (fun _ => ?_)
theorem epoch_Clear.mono : ∀ a0 a1 a2 a3 a4 a5 k, LeO (epoch_Clear.f k a0 a1 a2 a3 a4 a5) (epoch_Clear.f (k + 1) a0 a1 a2 a3 a4 a5) := by
 intro a0 a1 a2 a3 a4 a5 k
 have ih0 := epoch_Clear.mono_l k
 unfold epoch_Clear.f
 repeat' first
  | (with_reducible exact ih0 _ _ _ _ _ _ _ _ _ _ _)
  | (with_reducible exact epoch_May.mono _ _ _ _ _ _ _)
  | (with_reducible exact epoch_ready.mono _ _ _ _ _ _ _ _ _)
  | (with_reducible exact LeO.refl _)
  | (with_reducible exact LeO.none _)
  | (with_reducible refine LeO.ite ?_ ?_)
  | (with_reducible refine LeO.bind ?_ (fun _ => ?_))
  | exact ih0 _ _ _ _ _ _ _ _ _ _ _
  | exact epoch_May.mono _ _ _ _ _ _ _
  | exact epoch_ready.mono _ _ _ _ _ _ _ _ _
  | exact LeO.none _
  | refine LeO.ite ?_ ?_
  | refine LeO.bind ?_ (fun _ => ?_)
set_option maxHeartbeats 8000000 in
set_option maxRecDepth 100000 in
theorem epoch_Clear.calls (k : Nat) (a0_0 : Int) (a0_1 : Int) (a0_2 : Int) (a0_3 : Int) (a0_4 : Int) (A0_5 : Option Addr) (c0_5 : Nat) (l0_5 : List (S43)) (r1 : Int) (r2 : Int) (r3 : Int) (r4 : Int) (r5 : Int) (r6 : List (S43)) (r7 : List Int) (w : World) (hr0_5 : Kd.C k43 w A0_5 l0_5.length l0_5) (hc0_5 : l0_5.length ≤ c0_5) (h : epoch_Clear.f k a0_0 a0_1 a0_2 a0_3 a0_4 l0_5 = some (r1, r2, r3, r4, r5, r6, r7)) :
    Calls Try.prog 18 #[.agg #[.int .i64 a0_0, .int .i64 a0_1, .int .i64 a0_2, .int .i64 a0_3, .int .i64 a0_4, .slice A0_5 l0_5.length c0_5]] w fun e w' => ∃ v5_ v6_ : Value, e = .returned (.tuple #[.agg #[.int .i64 r1, .int .i64 r2, .int .i64 r3, .int .i64 r4, .int .i64 r5, v5_], v6_]) ∧ Kd.R k43 43 w' w.heap.size (fun _ => True) v5_ r6 ∧ Kd.R (Kd.int .i64) 3 w' w.heap.size (fun _ => True) v6_ r7 ∧ Below w.heap.size w w' := by
 have hu25 := Try.underlying25
 have hu43 := Try.underlying43
 have HR0_5 := Aside0.mk hr0_5
 have HC0_5 := Aside0.mk hc0_5
 clear hr0_5 hc0_5
 have HB := Aside0.mk (Below.refl w.heap.size w)
 have H : ((epoch_May.f k a0_0 a0_1 a0_2 a0_3 a0_4 l0_5).bind fun t163 => (if t163 = true then (epoch_Clear.l0 k ([] : List Int) ([] : List (S43)) l0_5 (l0_5.length : Int) 0 a0_0 a0_1 a0_2 a0_3 a0_4 l0_5) else ((epoch_own.f a0_0 a0_1 a0_2 a0_3 a0_4 l0_5).bind fun bt164 => (some (bt164.1, bt164.2.1, bt164.2.2.1, bt164.2.2.2.1, bt164.2.2.2.2.1, bt164.2.2.2.2.2, ([] : List Int)))))) = some (r1, r2, r3, r4, r5, r6, r7) := h
 clear h
 replace H := Option.bind_eq_some_iff.mp H
 obtain ⟨t163, A20, H⟩ := H
 replace H : (if t163 = true then (epoch_Clear.l0 k ([] : List Int) ([] : List (S43)) l0_5 (l0_5.length : Int) 0 a0_0 a0_1 a0_2 a0_3 a0_4 l0_5) else ((epoch_own.f a0_0 a0_1 a0_2 a0_3 a0_4 l0_5).bind fun bt164 => (some (bt164.1, bt164.2.1, bt164.2.2.1, bt164.2.2.2.1, bt164.2.2.2.2.1, bt164.2.2.2.2.2, ([] : List Int))))) = some (r1, r2, r3, r4, r5, r6, r7) := H
 have A2 := Aside0.mk A20
 clear A20
 by_cases c3 : t163 = true
 ·subst c3
  have H1 : (epoch_Clear.l0 k ([] : List Int) ([] : List (S43)) l0_5 (l0_5.length : Int) 0 a0_0 a0_1 a0_2 a0_3 a0_4 l0_5) = some (r1, r2, r3, r4, r5, r6, r7) := by rw [if_pos rfl] at H; exact H
  clear H
  have H := H1
  clear H1
  have H' := Aside0.mk H
  clear H
  go_enter Try.func18, Try.ntmps18
  go_wp2_with (first | ((with_reducible refine gate_dst (N := 1) rfl ?_); refine box_event ?hg (N := 1) ?hd (cs := #[.int .i64 a0_0, .int .i64 a0_1, .int .i64 a0_2, .int .i64 a0_3, .int .i64 a0_4, .slice A0_5 l0_5.length c0_5]) (t := 25) ?hr ?_; (case hd => rfl); (case hg => rfl); (case hr => first | (go_simp; done) | (go_simp; rfl)); intro gb161 hg w4 hbox hb; have n0_ := Aside0.mk (below_step bs_ hb); have n1_ := Aside0.mk (hbox); have n2_ := Aside0.mk ((by rw [hg]; exact (below_size bs_) : w.heap.size ≤ gb161)); have n3_ := Aside0.mk ((by rw [hg]; exact (below_size bs_) : w.heap.size ≤ gb161)); clear HB; have HB := n0_; have BK161 := n1_; have GW161 := n2_; have GE161 := n3_; clear n0_ n1_ n2_ n3_; clear hb hbox hg) | ((with_reducible refine gate_dst (N := 2) rfl ?_); refine box_event ?hg (N := 2) ?hd (cs := #[.int .i64 0, .int .i64 0, .int .i64 0, .int .i64 0, .int .i64 0, .slice none 0 0]) (t := 25) ?hr ?_; (case hd => rfl); (case hg => rfl); (case hr => first | (go_simp; done) | (go_simp; rfl)); intro gb162 hg w5 hbox hb; have n0_ := Aside0.mk (blk_below (bk_ BK161) hb); have n1_ := Aside0.mk (below_step bs_ hb); have n2_ := Aside0.mk (hbox); have n3_ := Aside0.mk ((by rw [hg]; exact (below_size bs_) : w.heap.size ≤ gb162)); have n4_ := Aside0.mk ((by rw [hg]; exact (below_size bs_) : w.heap.size ≤ gb162)); have n5_ := Aside0.mk ((by rw [hg]; exact Nat.ne_of_lt (blk_lt (bk_ BK161)) : gb161 ≠ gb162)); have n6_ := Aside0.mk ((by rw [hg]; exact Nat.ne_of_gt (blk_lt (bk_ BK161)) : gb162 ≠ gb161)); clear BK161 HB; have BK161 := n0_; have HB := n1_; have BK162 := n2_; have GW162 := n3_; have GE162 := n4_; have NB161_162 := n5_; have NB162_161 := n6_; clear n0_ n1_ n2_ n3_ n4_ n5_ n6_; clear hb hbox hg; have hnb6 := NB161_162.out; have hnc6 := NB162_161.out; obtain ⟨hcz7_0, hcz7_1, hcz7_2, hcz7_3, hcz7_4, hcz7_5, hfz7_0, hfz7_1, hfz7_2, hfz7_3, hfz7_4, hfz7_5⟩ := blk6 BK161) | ((with_reducible refine gate_callee (f := 23) rfl ?_); refine goesL_ (some 9) rfl rfl Try.func23 (by kernel_rfl) rfl #[.agg #[.int .i64 a0_0, .int .i64 a0_1, .int .i64 a0_2, .int .i64 a0_3, .int .i64 a0_4, .slice A0_5 l0_5.length c0_5]] rfl (by (try simp only [List.map_toArray, List.map_cons, List.map_nil]); first | done | rfl | (simp only [List.length_drop, List.length_take]; rfl)) ?_; (with_reducible refine (epoch_May.calls k a0_0 a0_1 a0_2 a0_3 a0_4 _ _ l0_5 true _ ?side1 ?side2 A2.out).mono ?_); (case side1 => repeat (first | exact (Kd.C_below HR0_5.out HB.out) | (with_reducible refine Kd.C_alloc ?_ _) | (with_reducible refine Kd.C_drewN ?_ _) | (with_reducible refine Kd.C_drew ?_))); (case side2 => exact HC0_5.out); rintro e w8 ⟨rfl, hb⟩; refine ⟨_, rfl, ?_⟩; have n0_ := Aside0.mk (blk_below (bk_ BK161) hb); have n1_ := Aside0.mk (blk_below (bk_ BK162) hb); have n2_ := Aside0.mk (below_step bs_ hb); clear BK161 BK162 HB; have BK161 := n0_; have BK162 := n1_; have HB := n2_; clear n0_ n1_ n2_; (try clear hb); (try clear hb2); (try clear hk); (try clear hi); obtain ⟨hcz9_0, hcz9_1, hcz9_2, hcz9_3, hcz9_4, hcz9_5, hfz9_0, hfz9_1, hfz9_2, hfz9_3, hfz9_4, hfz9_5⟩ := blk6 BK161))
  go_loopg [4, 5, 16] k (fun kq v4 v5 v16 w' => ∃ (x4_1 : List Int) (x5_1 : List (S43)) (x16_1 : Int), v16 = .int .i64 x16_1 ∧ Aside0 (epoch_Clear.l0 kq x4_1 x5_1 l0_5 (l0_5.length : Int) x16_1 a0_0 a0_1 a0_2 a0_3 a0_4 l0_5 = some (r1, r2, r3, r4, r5, r6, r7)) ∧ Aside0 (kq ≤ k) ∧ Aside0 (Kd.R (Kd.int .i64) 3 w' w.heap.size (fun _ => True) v4 x4_1) ∧ Aside0 (Kd.R k43 43 w' w.heap.size (fun _ => True) v5 x5_1) ∧ Aside0 (w'.heap[gb161]? = some (.cells #[.int .i64 a0_0, .int .i64 a0_1, .int .i64 a0_2, .int .i64 a0_3, .int .i64 a0_4, (.slice A0_5 l0_5.length c0_5)] 25 (0, 0))) ∧ Aside0 (w'.heap[gb162]? = some (.cells #[.int .i64 0, .int .i64 0, .int .i64 0, .int .i64 0, .int .i64 0, (.slice none 0 0)] 25 (0, 0))) ∧ Aside0 (Below w.heap.size w w'))
  case atStart => exact ⟨(([] : List Int)), (([] : List (S43))), (0), eq_, H', ⟨Nat.le_refl _⟩, ⟨by first | exact Kd.R_nil _ _ _ _ _ | exact Kd.N_nil _ _ _ _ _ | exact Kd.V_nil _ _ _ _ _ | exact Kd.Q_nil _ _ _ _ _ | exact Kd.S_nil _ _ _ _ _⟩, ⟨by first | exact Kd.R_nil _ _ _ _ _ | exact Kd.N_nil _ _ _ _ _ | exact Kd.V_nil _ _ _ _ _ | exact Kd.Q_nil _ _ _ _ _ | exact Kd.S_nil _ _ _ _ _⟩, ⟨bk_ BK161⟩, ⟨bk_ BK162⟩, ⟨bs_⟩⟩
  case round =>
   clear H'
   try clear c3
   obtain ⟨x4_1, x5_1, x16_1, rfl, HA, HK1, HO_4, HO_5, BK161, BK162, HB⟩ := hrel
   cases gk with
   | zero => exact absurd HA.out (by simp [epoch_Clear.l0])
   | succ k1 =>
    have H := HA.out
    clear HA
    simp only [epoch_Clear.l0] at H
    by_cases c10 : x16_1 < (l0_5.length : Int)
    ·rw [if_pos c10] at H
     have c10b0 : decide (x16_1 < (l0_5.length : Int)) = true := decide_eq_true c10
     clear c10
     by_cases c11 : 0 ≤ x16_1
     ·rw [if_pos c11] at H
      have c11b0 : decide (0 ≤ x16_1) = true := decide_eq_true c11
      clear c11
      by_cases c12 : x16_1 < (l0_5.length : Int)
      ·rw [if_pos c12] at H
       have c12b0 : decide (x16_1 < (l0_5.length : Int)) = true := decide_eq_true c12
       clear c12
       replace H := Option.bind_eq_some_iff.mp H
       obtain ⟨t174, A130, H⟩ := H
       replace H : (if t174 = true then (if x4_1.length < 17592186044416 then (epoch_Clear.l0 k1 (x4_1 ++ [(rd_T43 l0_5 x16_1).f0]) x5_1 l0_5 (l0_5.length : Int) (wrap64 (x16_1 + 1)) a0_0 a0_1 a0_2 a0_3 a0_4 l0_5) else (none)) else (if x5_1.length < 8796093022208 then (epoch_Clear.l0 k1 x4_1 (x5_1 ++ [(⟨(rd_T43 l0_5 x16_1).f0, (rd_T43 l0_5 x16_1).f1⟩ : S43)]) l0_5 (l0_5.length : Int) (wrap64 (x16_1 + 1)) a0_0 a0_1 a0_2 a0_3 a0_4 l0_5) else (none))) = some (r1, r2, r3, r4, r5, r6, r7) := H
       have A13 := Aside0.mk A130
       clear A130
       by_cases c14 : t174 = true
       ·subst c14
        have H1 : (if x4_1.length < 17592186044416 then (epoch_Clear.l0 k1 (x4_1 ++ [(rd_T43 l0_5 x16_1).f0]) x5_1 l0_5 (l0_5.length : Int) (wrap64 (x16_1 + 1)) a0_0 a0_1 a0_2 a0_3 a0_4 l0_5) else (none)) = some (r1, r2, r3, r4, r5, r6, r7) := by rw [if_pos rfl] at H; exact H
        clear H
        have H := H1
        clear H1
        by_cases c15 : x4_1.length < 17592186044416
        ·rw [if_pos c15] at H
         have LMc15 := Aside0.mk c15
         clear c15
         obtain ⟨y175, hy175⟩ : ∃ y_ : List Int, y_ = (x4_1 ++ [(rd_T43 l0_5 x16_1).f0]) := ⟨_, rfl⟩
         replace H : (epoch_Clear.l0 k1 y175 x5_1 l0_5 (l0_5.length : Int) (wrap64 (x16_1 + 1)) a0_0 a0_1 a0_2 a0_3 a0_4 l0_5) = some (r1, r2, r3, r4, r5, r6, r7) := by first | (rw [hy175]; with_reducible exact H) | (have H2_ := (Option.bind_some _ _).symm.trans H; rw [hy175]; with_reducible exact H2_) | (have H2_ := (Option.bind_some _ _).symm.trans H; with_reducible exact H2_) | with_reducible exact H | (rw [hy175]; exact H) | exact H
         have Ny175 := Aside0.mk hy175
         clear hy175
         have H' := Aside0.mk H
         clear H
         have p172 : 0 ≤ (x16_1 : Int) := of_decide_eq_true (by first | (with_reducible assumption) | assumption)
         have q172 : x16_1 < (l0_5.length : Int) := of_decide_eq_true (by first | (with_reducible assumption) | assumption)
         obtain ⟨ad172, e172, hx172_0, hx172_1⟩ := at_T43 HR0_5.out x16_1 p172 q172
         cases e172
         replace hx172_0 := (HB.out.cell (World.block_lt_of_cell? w _ hx172_0)).trans hx172_0
         replace hx172_1 := (HB.out.cell (World.block_lt_of_cell? w _ hx172_1)).trans hx172_1
         replace p172 := eq_true p172
         replace q172 := eq_true q172
         go_wp2_with (first | ((with_reducible refine gate_dst (N := 7) rfl ?_); refine box_event ?hg (N := 7) ?hd (cs := #[.int .i64 0, .int .i64 0]) (t := 43) ?hr ?_; (case hd => rfl); (case hg => rfl); (case hr => first | (go_simp; done) | (go_simp; rfl)); intro gb173 hg w16 hbox hb; have n0_ := Aside0.mk (Kd.R_below (rk_ HO_4) hb); have n1_ := Aside0.mk (Kd.R_below (Kd.R_elderB (rk_ HO_5) gb173 (Nat.le_of_eq hg.symm)) hb); have n2_ := Aside0.mk (blk_below (bk_ BK161) hb); have n3_ := Aside0.mk (blk_below (bk_ BK162) hb); have n4_ := Aside0.mk (below_step bs_ hb); have n5_ := Aside0.mk (hbox); have n6_ := Aside0.mk ((by rw [hg]; exact (below_size bs_) : w.heap.size ≤ gb173)); have n7_ := Aside0.mk ((by rw [hg]; exact (below_size bs_) : w.heap.size ≤ gb173)); have n8_ := Aside0.mk ((by rw [hg]; exact Nat.ne_of_lt (blk_lt (bk_ BK161)) : gb161 ≠ gb173)); have n9_ := Aside0.mk ((by rw [hg]; exact Nat.ne_of_gt (blk_lt (bk_ BK161)) : gb173 ≠ gb161)); have n10_ := Aside0.mk ((by rw [hg]; exact Nat.ne_of_lt (blk_lt (bk_ BK162)) : gb162 ≠ gb173)); have n11_ := Aside0.mk ((by rw [hg]; exact Nat.ne_of_gt (blk_lt (bk_ BK162)) : gb173 ≠ gb162)); clear HO_4 HO_5 BK161 BK162 HB; have HO_4 := n0_; have HO_5 := n1_; have BK161 := n2_; have BK162 := n3_; have HB := n4_; have BK173 := n5_; have GW173 := n6_; have GE173 := n7_; have NB161_173 := n8_; have NB173_161 := n9_; have NB162_173 := n10_; have NB173_162 := n11_; clear n0_ n1_ n2_ n3_ n4_ n5_ n6_ n7_ n8_ n9_ n10_ n11_; clear hb hbox hg; have hnb17 := NB173_161.out; have hnc17 := NB161_173.out; have hnb18 := NB173_162.out; have hnc18 := NB162_173.out; obtain ⟨hcz19_0, hcz19_1, hfz19_0, hfz19_1⟩ := blk2 BK173; have hnb20 := NB161_162.out; have hnc20 := NB162_161.out; obtain ⟨hcz21_0, hcz21_1, hcz21_2, hcz21_3, hcz21_4, hcz21_5, hfz21_0, hfz21_1, hfz21_2, hfz21_3, hfz21_4, hfz21_5⟩ := blk6 BK161) | ((with_reducible refine gate_callee (f := 29) rfl ?_); refine goesL_ (some 22) rfl rfl Try.func29 (by kernel_rfl) rfl #[.agg #[.int .i64 a0_0, .int .i64 a0_1, .int .i64 a0_2, .int .i64 a0_3, .int .i64 a0_4, .slice (some ad172) l0_5.length c0_5], .agg #[.int .i64 ((rd_T43 l0_5 x16_1).f0), .int .i64 ((rd_T43 l0_5 x16_1).f1)]] rfl (by (try simp only [List.map_toArray, List.map_cons, List.map_nil]); first | done | rfl | (simp only [List.length_drop, List.length_take]; rfl)) ?_; (with_reducible refine (epoch_ready.calls k1 a0_0 a0_1 a0_2 a0_3 a0_4 _ _ l0_5 ((rd_T43 l0_5 x16_1).f0) ((rd_T43 l0_5 x16_1).f1) true _ ?side1 ?side2 A13.out).mono ?_); (case side1 => exact Kd.C_below HR0_5.out bs_); (case side2 => exact HC0_5.out); rintro e w22 ⟨rfl, hb⟩; refine ⟨_, rfl, ?_⟩; have n0_ := Aside0.mk (Kd.R_below (by (with_reducible repeat (first | apply Kd.R_alloc | apply Kd.R_drewN | apply Kd.R_drew)); exact (Kd.R_mono (far2 gb173 (Kd.R_types HO_4.out BK173.out (by decide)) (fun _ hk => hk.2)) (fun _ h_ => h_.1))) hb); have n1_ := Aside0.mk (Kd.R_below (by (with_reducible repeat (first | apply Kd.R_alloc | apply Kd.R_drewN | apply Kd.R_drew)); exact (Kd.R_mono (far2 gb173 (Kd.R_mono HO_5.out (fun k_ hk => (⟨hk, hk.2⟩ : _ ∧ k_ ≠ gb173))) (fun _ hk => hk.2)) (fun _ h_ => h_.1))) hb); have n2_ := Aside0.mk (blk_below (bf_ BK161) hb); have n3_ := Aside0.mk (blk_below (bf_ BK162) hb); have n4_ := Aside0.mk (blk_below (bp_ (o := .cells #[.int .i64 ((rd_T43 l0_5 x16_1).f0), .int .i64 ((rd_T43 l0_5 x16_1).f1)] 43 (0, 0)) BK173) hb); have n5_ := Aside0.mk (below_step bs_ hb); clear HO_4 HO_5 BK161 BK162 BK173 HB; have HO_4 := n0_; have HO_5 := n1_; have BK161 := n2_; have BK162 := n3_; have BK173 := n4_; have HB := n5_; clear n0_ n1_ n2_ n3_ n4_ n5_; (try clear hb); (try clear hb2); (try clear hk); (try clear hi); obtain ⟨hcz23_0, hcz23_1, hfz23_0, hfz23_1⟩ := blk2 BK173) | ((with_reducible refine gate_builtin (b := .append) (xs := #[.tmp 23, .tmp 26]) rfl ?_); at_builtin; refine Kd.R_append (Kd.int .i64) (w0 := w) w.heap.size rfl (.tmp 23) (.tmp 26) 32 3 (.int .i64 0) 8 rfl Try.underlying32 info3 rfl (by decide) (by omega) u4 x4_1 ((rd_T43 l0_5 x16_1).f0) [.int .i64 ((rd_T43 l0_5 x16_1).f0)] (fun _ => True) (fun _ => False) rfl rfl ?aP (fun _ hk => hk.elim) ?aF ?aO ?aB ?aS ?aL ?_; (case aP => exact rfl); (case aB => exact bs_); (case aF => exact (fun _ _ => trivial)); (case aO => exact (rk_ HO_4)); (case aS => exact (below_size bs_)); (case aL => have := LMc15.out; omega); intro v176 w24 ho hb hg hat; rw [← Ny175.out] at ho; have n0_ := Aside0.mk (Kd.R_over' (rk_ HO_5) (Kd.R_typed (rk_ HO_4)) (by decide) hg); have n1_ := Aside0.mk (blk_grown (g := gb161) (o := .cells #[.int .i64 a0_0, .int .i64 a0_1, .int .i64 a0_2, .int .i64 a0_3, .int .i64 a0_4, .slice (some ad172) l0_5.length c0_5] 25 (0, 0)) (by (with_reducible repeat (first | refine blk_drewN ?_ _ | refine blk_drew ?_ | refine blk_alloc ?_ _)); exact BK161.out) hg (Kd.R_ne HO_4.out BK161.out (by decide))); have n2_ := Aside0.mk (blk_grown (g := gb162) (o := .cells #[.int .i64 0, .int .i64 0, .int .i64 0, .int .i64 0, .int .i64 0, .slice none 0 0] 25 (0, 0)) (by (with_reducible repeat (first | refine blk_drewN ?_ _ | refine blk_drew ?_ | refine blk_alloc ?_ _)); exact BK162.out) hg (Kd.R_ne HO_4.out BK162.out (by decide))); have n3_ := Aside0.mk (blk_grown (g := gb173) (o := .cells #[.int .i64 ((rd_T43 l0_5 x16_1).f0), .int .i64 ((rd_T43 l0_5 x16_1).f1)] 43 (0, 0)) (by (with_reducible repeat (first | refine blk_drewN ?_ _ | refine blk_drew ?_ | refine blk_alloc ?_ _)); exact BK173.out) hg (Kd.R_ne HO_4.out BK173.out (by decide))); have n4_ := Aside0.mk (hb); have n5_ := Aside0.mk (ho); clear HO_5 BK161 BK162 BK173 HB HO_4; have HO_5 := n0_; have BK161 := n1_; have BK162 := n2_; have BK173 := n3_; have HB := n4_; have HO177 := n5_; clear n0_ n1_ n2_ n3_ n4_ n5_; clear ho hb hg hat))
         go_roundg k1
         case measure => have := HK1.out; omega
         case rel => exact ⟨(y175), (x5_1), (wrap64 (x16_1 + 1)), eq_, H', ⟨by have := HK1.out; omega⟩, ⟨by (with_reducible repeat (first | apply Kd.R_alloc | apply Kd.R_drewN | apply Kd.R_drew)); exact HO177.out⟩, ⟨by (with_reducible repeat (first | apply Kd.R_alloc | apply Kd.R_drewN | apply Kd.R_drew)); exact Kd.R_mono HO_5.out (fun _ hk => trivial)⟩, ⟨bk_ BK161⟩, ⟨bk_ BK162⟩, ⟨bs_⟩⟩
        ·rw [if_neg c15] at H
         exact absurd H (by simp)
       ·replace c14 := Bool.eq_false_iff.mpr c14
        subst c14
        have H1 : (if x5_1.length < 8796093022208 then (epoch_Clear.l0 k1 x4_1 (x5_1 ++ [(⟨(rd_T43 l0_5 x16_1).f0, (rd_T43 l0_5 x16_1).f1⟩ : S43)]) l0_5 (l0_5.length : Int) (wrap64 (x16_1 + 1)) a0_0 a0_1 a0_2 a0_3 a0_4 l0_5) else (none)) = some (r1, r2, r3, r4, r5, r6, r7) := by rw [if_neg (show ¬ (false = true) by decide)] at H; exact H
        clear H
        have H := H1
        clear H1
        by_cases c25 : x5_1.length < 8796093022208
        ·rw [if_pos c25] at H
         have LMc25 := Aside0.mk c25
         clear c25
         obtain ⟨y178, hy178⟩ : ∃ y_ : List (S43), y_ = (x5_1 ++ [(⟨(rd_T43 l0_5 x16_1).f0, (rd_T43 l0_5 x16_1).f1⟩ : S43)]) := ⟨_, rfl⟩
         replace H : (epoch_Clear.l0 k1 x4_1 y178 l0_5 (l0_5.length : Int) (wrap64 (x16_1 + 1)) a0_0 a0_1 a0_2 a0_3 a0_4 l0_5) = some (r1, r2, r3, r4, r5, r6, r7) := by first | (rw [hy178]; with_reducible exact H) | (have H2_ := (Option.bind_some _ _).symm.trans H; rw [hy178]; with_reducible exact H2_) | (have H2_ := (Option.bind_some _ _).symm.trans H; with_reducible exact H2_) | with_reducible exact H | (rw [hy178]; exact H) | exact H
         have Ny178 := Aside0.mk hy178
         clear hy178
         have H' := Aside0.mk H
         clear H
         have p172 : 0 ≤ (x16_1 : Int) := of_decide_eq_true (by first | (with_reducible assumption) | assumption)
         have q172 : x16_1 < (l0_5.length : Int) := of_decide_eq_true (by first | (with_reducible assumption) | assumption)
         obtain ⟨ad172, e172, hx172_0, hx172_1⟩ := at_T43 HR0_5.out x16_1 p172 q172
         cases e172
         replace hx172_0 := (HB.out.cell (World.block_lt_of_cell? w _ hx172_0)).trans hx172_0
         replace hx172_1 := (HB.out.cell (World.block_lt_of_cell? w _ hx172_1)).trans hx172_1
         replace p172 := eq_true p172
         replace q172 := eq_true q172
         go_wp2_with (first | ((with_reducible refine gate_dst (N := 7) rfl ?_); refine box_event ?hg (N := 7) ?hd (cs := #[.int .i64 0, .int .i64 0]) (t := 43) ?hr ?_; (case hd => rfl); (case hg => rfl); (case hr => first | (go_simp; done) | (go_simp; rfl)); intro gb173 hg w26 hbox hb; have n0_ := Aside0.mk (Kd.R_below (rk_ HO_4) hb); have n1_ := Aside0.mk (Kd.R_below (Kd.R_elderB (rk_ HO_5) gb173 (Nat.le_of_eq hg.symm)) hb); have n2_ := Aside0.mk (blk_below (bk_ BK161) hb); have n3_ := Aside0.mk (blk_below (bk_ BK162) hb); have n4_ := Aside0.mk (below_step bs_ hb); have n5_ := Aside0.mk (hbox); have n6_ := Aside0.mk ((by rw [hg]; exact (below_size bs_) : w.heap.size ≤ gb173)); have n7_ := Aside0.mk ((by rw [hg]; exact (below_size bs_) : w.heap.size ≤ gb173)); have n8_ := Aside0.mk ((by rw [hg]; exact Nat.ne_of_lt (blk_lt (bk_ BK161)) : gb161 ≠ gb173)); have n9_ := Aside0.mk ((by rw [hg]; exact Nat.ne_of_gt (blk_lt (bk_ BK161)) : gb173 ≠ gb161)); have n10_ := Aside0.mk ((by rw [hg]; exact Nat.ne_of_lt (blk_lt (bk_ BK162)) : gb162 ≠ gb173)); have n11_ := Aside0.mk ((by rw [hg]; exact Nat.ne_of_gt (blk_lt (bk_ BK162)) : gb173 ≠ gb162)); clear HO_4 HO_5 BK161 BK162 HB; have HO_4 := n0_; have HO_5 := n1_; have BK161 := n2_; have BK162 := n3_; have HB := n4_; have BK173 := n5_; have GW173 := n6_; have GE173 := n7_; have NB161_173 := n8_; have NB173_161 := n9_; have NB162_173 := n10_; have NB173_162 := n11_; clear n0_ n1_ n2_ n3_ n4_ n5_ n6_ n7_ n8_ n9_ n10_ n11_; clear hb hbox hg; have hnb27 := NB173_161.out; have hnc27 := NB161_173.out; have hnb28 := NB173_162.out; have hnc28 := NB162_173.out; obtain ⟨hcz29_0, hcz29_1, hfz29_0, hfz29_1⟩ := blk2 BK173; have hnb30 := NB161_162.out; have hnc30 := NB162_161.out; obtain ⟨hcz31_0, hcz31_1, hcz31_2, hcz31_3, hcz31_4, hcz31_5, hfz31_0, hfz31_1, hfz31_2, hfz31_3, hfz31_4, hfz31_5⟩ := blk6 BK161) | ((with_reducible refine gate_callee (f := 29) rfl ?_); refine goesL_ (some 22) rfl rfl Try.func29 (by kernel_rfl) rfl #[.agg #[.int .i64 a0_0, .int .i64 a0_1, .int .i64 a0_2, .int .i64 a0_3, .int .i64 a0_4, .slice (some ad172) l0_5.length c0_5], .agg #[.int .i64 ((rd_T43 l0_5 x16_1).f0), .int .i64 ((rd_T43 l0_5 x16_1).f1)]] rfl (by (try simp only [List.map_toArray, List.map_cons, List.map_nil]); first | done | rfl | (simp only [List.length_drop, List.length_take]; rfl)) ?_; (with_reducible refine (epoch_ready.calls k1 a0_0 a0_1 a0_2 a0_3 a0_4 _ _ l0_5 ((rd_T43 l0_5 x16_1).f0) ((rd_T43 l0_5 x16_1).f1) false _ ?side1 ?side2 A13.out).mono ?_); (case side1 => exact Kd.C_below HR0_5.out bs_); (case side2 => exact HC0_5.out); rintro e w32 ⟨rfl, hb⟩; refine ⟨_, rfl, ?_⟩; have n0_ := Aside0.mk (Kd.R_below (by (with_reducible repeat (first | apply Kd.R_alloc | apply Kd.R_drewN | apply Kd.R_drew)); exact (Kd.R_mono (far2 gb173 (Kd.R_types HO_4.out BK173.out (by decide)) (fun _ hk => hk.2)) (fun _ h_ => h_.1))) hb); have n1_ := Aside0.mk (Kd.R_below (by (with_reducible repeat (first | apply Kd.R_alloc | apply Kd.R_drewN | apply Kd.R_drew)); exact (Kd.R_mono (far2 gb173 (Kd.R_mono HO_5.out (fun k_ hk => (⟨hk, hk.2⟩ : _ ∧ k_ ≠ gb173))) (fun _ hk => hk.2)) (fun _ h_ => h_.1))) hb); have n2_ := Aside0.mk (blk_below (bf_ BK161) hb); have n3_ := Aside0.mk (blk_below (bf_ BK162) hb); have n4_ := Aside0.mk (blk_below (bp_ (o := .cells #[.int .i64 ((rd_T43 l0_5 x16_1).f0), .int .i64 ((rd_T43 l0_5 x16_1).f1)] 43 (0, 0)) BK173) hb); have n5_ := Aside0.mk (below_step bs_ hb); clear HO_4 HO_5 BK161 BK162 BK173 HB; have HO_4 := n0_; have HO_5 := n1_; have BK161 := n2_; have BK162 := n3_; have BK173 := n4_; have HB := n5_; clear n0_ n1_ n2_ n3_ n4_ n5_; (try clear hb); (try clear hb2); (try clear hk); (try clear hi); obtain ⟨hcz33_0, hcz33_1, hfz33_0, hfz33_1⟩ := blk2 BK173) | ((with_reducible refine gate_builtin (b := .append) (xs := #[.tmp 28, .tmp 30]) rfl ?_); at_builtin; refine Kd.R_append k43 (w0 := w) w.heap.size rfl (.tmp 28) (.tmp 30) 23 43 (.agg #[(.int .i64 0), (.int .i64 0)]) 16 rfl Try.underlying23 info43 rfl (by decide) (by omega) u5 x5_1 (⟨(rd_T43 l0_5 x16_1).f0, (rd_T43 l0_5 x16_1).f1⟩ : S43) [.int .i64 ((rd_T43 l0_5 x16_1).f0), .int .i64 ((rd_T43 l0_5 x16_1).f1)] (fun k_ => k_ ≠ gb173) (fun _ => False) rfl rfl ?aP (fun _ hk => hk.elim) ?aF ?aO ?aB ?aS ?aL ?_; (case aP => exact k43_mkM _ _ _ (⟨(rd_T43 l0_5 x16_1).f0, (rd_T43 l0_5 x16_1).f1⟩ : S43)); (case aB => exact bs_); (case aF => exact (fun k_ hk => Kd.freshB (g := gb173) (o := .cells #[.int .i64 ((rd_T43 l0_5 x16_1).f0), .int .i64 ((rd_T43 l0_5 x16_1).f1)] 43 (0, 0)) (by (with_reducible repeat (first | refine blk_drewN ?_ _ | refine blk_drew ?_ | refine blk_alloc ?_ _)); exact BK173.out) k_ hk)); (case aO => exact (by (with_reducible repeat (first | apply Kd.R_alloc | apply Kd.R_drewN | apply Kd.R_drew)); exact Kd.R_mono HO_5.out (fun _ hk => hk.2))); (case aS => exact (below_size bs_)); (case aL => have := LMc25.out; omega); intro v179 w34 ho hb hg hat; rw [← Ny178.out] at ho; have n0_ := Aside0.mk (Kd.R_over' (rk_ HO_4) (Kd.R_typed (rk_ HO_5)) (by decide) hg); have n1_ := Aside0.mk (blk_grown (g := gb161) (o := .cells #[.int .i64 a0_0, .int .i64 a0_1, .int .i64 a0_2, .int .i64 a0_3, .int .i64 a0_4, .slice (some ad172) l0_5.length c0_5] 25 (0, 0)) (by (with_reducible repeat (first | refine blk_drewN ?_ _ | refine blk_drew ?_ | refine blk_alloc ?_ _)); exact BK161.out) hg (Kd.R_ne HO_5.out BK161.out (by decide))); have n2_ := Aside0.mk (blk_grown (g := gb162) (o := .cells #[.int .i64 0, .int .i64 0, .int .i64 0, .int .i64 0, .int .i64 0, .slice none 0 0] 25 (0, 0)) (by (with_reducible repeat (first | refine blk_drewN ?_ _ | refine blk_drew ?_ | refine blk_alloc ?_ _)); exact BK162.out) hg (Kd.R_ne HO_5.out BK162.out (by decide))); have n3_ := Aside0.mk (blk_grown (g := gb173) (o := .cells #[.int .i64 ((rd_T43 l0_5 x16_1).f0), .int .i64 ((rd_T43 l0_5 x16_1).f1)] 43 (0, 0)) (by (with_reducible repeat (first | refine blk_drewN ?_ _ | refine blk_drew ?_ | refine blk_alloc ?_ _)); exact BK173.out) hg (Kd.R_away HO_5.out (fun _ hk => hk.2))); have n4_ := Aside0.mk (hb); have n5_ := Aside0.mk (ho); clear HO_4 BK161 BK162 BK173 HB HO_5; have HO_4 := n0_; have BK161 := n1_; have BK162 := n2_; have BK173 := n3_; have HB := n4_; have HO180 := n5_; clear n0_ n1_ n2_ n3_ n4_ n5_; clear ho hb hg hat))
         go_roundg k1
         case measure => have := HK1.out; omega
         case rel => exact ⟨(x4_1), (y178), (wrap64 (x16_1 + 1)), eq_, H', ⟨by have := HK1.out; omega⟩, ⟨by (with_reducible repeat (first | apply Kd.R_alloc | apply Kd.R_drewN | apply Kd.R_drew)); exact HO_4.out⟩, ⟨by (with_reducible repeat (first | apply Kd.R_alloc | apply Kd.R_drewN | apply Kd.R_drew)); exact Kd.R_mono HO180.out (fun _ hk => trivial)⟩, ⟨bk_ BK161⟩, ⟨bk_ BK162⟩, ⟨bs_⟩⟩
        ·rw [if_neg c25] at H
         exact absurd H (by simp)
      ·rw [if_neg c12] at H
       exact absurd H (by simp)
     ·rw [if_neg c11] at H
      exact absurd H (by simp)
    ·rw [if_neg c10] at H
     have c10b0 : decide (x16_1 < (l0_5.length : Int)) = false := decide_eq_false c10
     clear c10
     simp only [Option.some.injEq, Prod.mk.injEq] at H
     obtain ⟨rfl, rfl, rfl, rfl, rfl, rfl, rfl⟩ := H
     obtain ⟨Ao35, co35, eo35⟩ := Kd.R_slice HO_5.out
     subst eo35
     have hnb36 := NB161_162.out
     have hnc36 := NB162_161.out
     obtain ⟨hcz37_0, hcz37_1, hcz37_2, hcz37_3, hcz37_4, hcz37_5, hfz37_0, hfz37_1, hfz37_2, hfz37_3, hfz37_4, hfz37_5⟩ := blk6 BK161
     obtain ⟨hcz38_0, hcz38_1, hcz38_2, hcz38_3, hcz38_4, hcz38_5, hfz38_0, hfz38_1, hfz38_2, hfz38_3, hfz38_4, hfz38_5⟩ := blk6 BK162
     go_wp2
     refine bodyPost_ret (results_ct rfl _ _ gb162 25 #[.int .i64 a0_0, .int .i64 a0_1, .int .i64 a0_2, .int .i64 a0_3, .int .i64 a0_4, .slice Ao35 x5_1.length co35] (0, 0) _ rfl (bp_ BK162) Try.underlying25 rfl (by kernel_rfl)) rfl ?_
     exact ⟨_, _, by first | rfl | (simp [errW_none, errW_some] <;> rfl) | (simp [*, errW_none, errW_some] <;> rfl), by (with_reducible repeat (first | apply Kd.R_alloc | apply Kd.R_drewN | apply Kd.R_drew)); exact Kd.R_mono (far6 gb162 (Kd.R_far (p := ⟨gb161, 5, none⟩) (Kd.R_types (Kd.R_types HO_5.out BK161.out (by decide)) BK162.out (by decide)) (fun _ hk => hk.1.2) (.slice Ao35 x5_1.length co35)) (fun _ hk => hk.2)) (fun _ hk => trivial), by (with_reducible repeat (first | apply Kd.R_alloc | apply Kd.R_drewN | apply Kd.R_drew)); exact Kd.R_mono (far6 gb162 (Kd.R_far (p := ⟨gb161, 5, none⟩) (Kd.R_types (Kd.R_types HO_4.out BK161.out (by decide)) BK162.out (by decide)) (fun _ hk => hk.1.2) (.slice Ao35 x5_1.length co35)) (fun _ hk => hk.2)) (fun _ hk => trivial), by repeat (first | (with_reducible first | exact HB.out | apply below_alloc | apply pw_below_drewN | apply below_drew1 | refine below_set ?_ GE161.out | refine below_set ?_ GE162.out) | exact HB.out)⟩
 ·replace c3 := Bool.eq_false_iff.mpr c3
  subst c3
  have H1 : ((epoch_own.f a0_0 a0_1 a0_2 a0_3 a0_4 l0_5).bind fun bt164 => (some (bt164.1, bt164.2.1, bt164.2.2.1, bt164.2.2.2.1, bt164.2.2.2.2.1, bt164.2.2.2.2.2, ([] : List Int)))) = some (r1, r2, r3, r4, r5, r6, r7) := by rw [if_neg (show ¬ (false = true) by decide)] at H; exact H
  clear H
  have H := H1
  clear H1
  replace H := Option.bind_eq_some_iff.mp H
  obtain ⟨⟨t164, t165, t166, t167, t168, t169⟩, A390, H⟩ := H
  replace H : (some (t164, t165, t166, t167, t168, t169, ([] : List Int))) = some (r1, r2, r3, r4, r5, r6, r7) := H
  have A39 := Aside0.mk A390
  clear A390
  simp only [Option.some.injEq, Prod.mk.injEq] at H
  obtain ⟨rfl, rfl, rfl, rfl, rfl, rfl, rfl⟩ := H
  go_enter Try.func18, Try.ntmps18
  go_wp2_with (first | ((with_reducible refine gate_dst (N := 1) rfl ?_); refine box_event ?hg (N := 1) ?hd (cs := #[.int .i64 a0_0, .int .i64 a0_1, .int .i64 a0_2, .int .i64 a0_3, .int .i64 a0_4, .slice A0_5 l0_5.length c0_5]) (t := 25) ?hr ?_; (case hd => rfl); (case hg => rfl); (case hr => first | (go_simp; done) | (go_simp; rfl)); intro gb161 hg w40 hbox hb; have n0_ := Aside0.mk (below_step bs_ hb); have n1_ := Aside0.mk (hbox); have n2_ := Aside0.mk ((by rw [hg]; exact (below_size bs_) : w.heap.size ≤ gb161)); have n3_ := Aside0.mk ((by rw [hg]; exact (below_size bs_) : w.heap.size ≤ gb161)); clear HB; have HB := n0_; have BK161 := n1_; have GW161 := n2_; have GE161 := n3_; clear n0_ n1_ n2_ n3_; clear hb hbox hg) | ((with_reducible refine gate_dst (N := 2) rfl ?_); refine box_event ?hg (N := 2) ?hd (cs := #[.int .i64 0, .int .i64 0, .int .i64 0, .int .i64 0, .int .i64 0, .slice none 0 0]) (t := 25) ?hr ?_; (case hd => rfl); (case hg => rfl); (case hr => first | (go_simp; done) | (go_simp; rfl)); intro gb162 hg w41 hbox hb; have n0_ := Aside0.mk (blk_below (bk_ BK161) hb); have n1_ := Aside0.mk (below_step bs_ hb); have n2_ := Aside0.mk (hbox); have n3_ := Aside0.mk ((by rw [hg]; exact (below_size bs_) : w.heap.size ≤ gb162)); have n4_ := Aside0.mk ((by rw [hg]; exact (below_size bs_) : w.heap.size ≤ gb162)); have n5_ := Aside0.mk ((by rw [hg]; exact Nat.ne_of_lt (blk_lt (bk_ BK161)) : gb161 ≠ gb162)); have n6_ := Aside0.mk ((by rw [hg]; exact Nat.ne_of_gt (blk_lt (bk_ BK161)) : gb162 ≠ gb161)); clear BK161 HB; have BK161 := n0_; have HB := n1_; have BK162 := n2_; have GW162 := n3_; have GE162 := n4_; have NB161_162 := n5_; have NB162_161 := n6_; clear n0_ n1_ n2_ n3_ n4_ n5_ n6_; clear hb hbox hg; have hnb42 := NB161_162.out; have hnc42 := NB162_161.out; obtain ⟨hcz43_0, hcz43_1, hcz43_2, hcz43_3, hcz43_4, hcz43_5, hfz43_0, hfz43_1, hfz43_2, hfz43_3, hfz43_4, hfz43_5⟩ := blk6 BK161) | ((with_reducible refine gate_callee (f := 23) rfl ?_); refine goesL_ (some 9) rfl rfl Try.func23 (by kernel_rfl) rfl #[.agg #[.int .i64 a0_0, .int .i64 a0_1, .int .i64 a0_2, .int .i64 a0_3, .int .i64 a0_4, .slice A0_5 l0_5.length c0_5]] rfl (by (try simp only [List.map_toArray, List.map_cons, List.map_nil]); first | done | rfl | (simp only [List.length_drop, List.length_take]; rfl)) ?_; (with_reducible refine (epoch_May.calls k a0_0 a0_1 a0_2 a0_3 a0_4 _ _ l0_5 false _ ?side1 ?side2 A2.out).mono ?_); (case side1 => repeat (first | exact (Kd.C_below HR0_5.out HB.out) | (with_reducible refine Kd.C_alloc ?_ _) | (with_reducible refine Kd.C_drewN ?_ _) | (with_reducible refine Kd.C_drew ?_))); (case side2 => exact HC0_5.out); rintro e w44 ⟨rfl, hb⟩; refine ⟨_, rfl, ?_⟩; have n0_ := Aside0.mk (blk_below (bk_ BK161) hb); have n1_ := Aside0.mk (blk_below (bk_ BK162) hb); have n2_ := Aside0.mk (below_step bs_ hb); clear BK161 BK162 HB; have BK161 := n0_; have BK162 := n1_; have HB := n2_; clear n0_ n1_ n2_; (try clear hb); (try clear hb2); (try clear hk); (try clear hi); obtain ⟨hcz45_0, hcz45_1, hcz45_2, hcz45_3, hcz45_4, hcz45_5, hfz45_0, hfz45_1, hfz45_2, hfz45_3, hfz45_4, hfz45_5⟩ := blk6 BK161) | ((with_reducible refine gate_callee (f := 27) rfl ?_); refine goesL_ (some 12) rfl rfl Try.func27 (by kernel_rfl) rfl #[.agg #[.int .i64 a0_0, .int .i64 a0_1, .int .i64 a0_2, .int .i64 a0_3, .int .i64 a0_4, .slice A0_5 l0_5.length c0_5]] rfl (by (try simp only [List.map_toArray, List.map_cons, List.map_nil]); first | done | rfl | (simp only [List.length_drop, List.length_take]; rfl)) ?_; (with_reducible refine (epoch_own.calls a0_0 a0_1 a0_2 a0_3 a0_4 _ _ l0_5 t164 t165 t166 t167 t168 t169 _ ?side1 ?side2 A39.out).mono ?_); (case side1 => repeat (first | exact (Kd.C_below HR0_5.out HB.out) | (with_reducible refine Kd.C_alloc ?_ _) | (with_reducible refine Kd.C_drewN ?_ _) | (with_reducible refine Kd.C_drew ?_))); (case side2 => exact HC0_5.out); rintro e w46 ⟨v170, rfl, ho0, hb⟩; refine ⟨_, rfl, ?_⟩; have n0_ := Aside0.mk (Kd.R_lower ho0 (below_size bs_)); have n1_ := Aside0.mk (blk_below (bk_ BK161) hb); have n2_ := Aside0.mk (blk_below (bk_ BK162) hb); have n3_ := Aside0.mk (below_step bs_ hb); clear BK161 BK162 HB; have HO171 := n0_; have BK161 := n1_; have BK162 := n2_; have HB := n3_; clear n0_ n1_ n2_ n3_; (try clear hb); (try clear hb2); (try clear hk); (try clear hi); (try clear ho0); obtain ⟨Ao47, co47, eo47⟩ := Kd.R_slice HO171.out; subst eo47; obtain ⟨hcz48_0, hcz48_1, hcz48_2, hcz48_3, hcz48_4, hcz48_5, hfz48_0, hfz48_1, hfz48_2, hfz48_3, hfz48_4, hfz48_5⟩ := blk6 BK162))
  refine bodyPost_ret (results_ct rfl _ _ gb162 25 #[.int .i64 t164, .int .i64 t165, .int .i64 t166, .int .i64 t167, .int .i64 t168, .slice Ao47 t169.length co47] (0, 0) _ rfl (bp_ BK162) Try.underlying25 rfl (by kernel_rfl)) rfl ?_
  exact ⟨_, _, by first | rfl | (simp [errW_none, errW_some] <;> rfl) | (simp [*, errW_none, errW_some] <;> rfl), by (with_reducible repeat (first | apply Kd.R_alloc | apply Kd.R_drewN | apply Kd.R_drew)); exact Kd.R_mono (far6 gb162 (Kd.R_types HO171.out BK162.out (by decide)) (fun _ hk => hk.2)) (fun _ hk => trivial), by first | exact Kd.R_nil _ _ _ _ _ | exact Kd.N_nil _ _ _ _ _ | exact Kd.V_nil _ _ _ _ _ | exact Kd.Q_nil _ _ _ _ _ | exact Kd.S_nil _ _ _ _ _, by repeat (first | (with_reducible first | exact HB.out | apply below_alloc | apply pw_below_drewN | apply below_drew1 | refine below_set ?_ GE161.out | refine below_set ?_ GE162.out) | exact HB.out)⟩

/-! ### epoch_Ready: function 21 -/
def epoch_Ready.f (k : Nat) (a0_0 : Int) (a0_1 : Int) (a0_2 : Int) (a0_3 : Int) (a0_4 : Int) (l0_5 : List (S43)) : Option (List Int) := (epoch_Clear.f k a0_0 a0_1 a0_2 a0_3 a0_4 l0_5).bind fun bt182 => (some bt182.2.2.2.2.2.2)
theorem epoch_Ready.mono : ∀ a0 a1 a2 a3 a4 a5 k, LeO (epoch_Ready.f k a0 a1 a2 a3 a4 a5) (epoch_Ready.f (k + 1) a0 a1 a2 a3 a4 a5) := by
 intro a0 a1 a2 a3 a4 a5 k
 unfold epoch_Ready.f
 repeat' first
  | (with_reducible exact epoch_Clear.mono _ _ _ _ _ _ _)
  | (with_reducible exact LeO.refl _)
  | (with_reducible exact LeO.none _)
  | (with_reducible refine LeO.ite ?_ ?_)
  | (with_reducible refine LeO.bind ?_ (fun _ => ?_))
  | exact epoch_Clear.mono _ _ _ _ _ _ _
  | exact LeO.none _
  | refine LeO.ite ?_ ?_
  | refine LeO.bind ?_ (fun _ => ?_)
set_option maxHeartbeats 8000000 in
set_option maxRecDepth 100000 in
theorem epoch_Ready.calls (k : Nat) (a0_0 : Int) (a0_1 : Int) (a0_2 : Int) (a0_3 : Int) (a0_4 : Int) (A0_5 : Option Addr) (c0_5 : Nat) (l0_5 : List (S43)) (r : List Int) (w : World) (hr0_5 : Kd.C k43 w A0_5 l0_5.length l0_5) (hc0_5 : l0_5.length ≤ c0_5) (h : epoch_Ready.f k a0_0 a0_1 a0_2 a0_3 a0_4 l0_5 = some r) :
    Calls Try.prog 21 #[.agg #[.int .i64 a0_0, .int .i64 a0_1, .int .i64 a0_2, .int .i64 a0_3, .int .i64 a0_4, .slice A0_5 l0_5.length c0_5]] w fun e w' => ∃ v0_ : Value, e = .returned (v0_) ∧ Kd.R (Kd.int .i64) 3 w' w.heap.size (fun _ => True) v0_ r ∧ Below w.heap.size w w' := by
 have hu25 := Try.underlying25
 have HR0_5 := Aside0.mk hr0_5
 have HC0_5 := Aside0.mk hc0_5
 clear hr0_5 hc0_5
 have HB := Aside0.mk (Below.refl w.heap.size w)
 have H : ((epoch_Clear.f k a0_0 a0_1 a0_2 a0_3 a0_4 l0_5).bind fun bt182 => (some bt182.2.2.2.2.2.2)) = some r := h
 clear h
 replace H := Option.bind_eq_some_iff.mp H
 obtain ⟨⟨t182, t183, t184, t185, t186, t187, t190⟩, A20, H⟩ := H
 replace H : (some t190) = some r := H
 have A2 := Aside0.mk A20
 clear A20
 obtain rfl := Option.some.inj H
 go_enter Try.func21, Try.ntmps21
 go_wp2_with (first | ((with_reducible refine gate_dst (N := 1) rfl ?_); refine box_event ?hg (N := 1) ?hd (cs := #[.int .i64 a0_0, .int .i64 a0_1, .int .i64 a0_2, .int .i64 a0_3, .int .i64 a0_4, .slice A0_5 l0_5.length c0_5]) (t := 25) ?hr ?_; (case hd => rfl); (case hg => rfl); (case hr => first | (go_simp; done) | (go_simp; rfl)); intro gb181 hg w3 hbox hb; have n0_ := Aside0.mk (below_step bs_ hb); have n1_ := Aside0.mk (hbox); have n2_ := Aside0.mk ((by rw [hg]; exact (below_size bs_) : w.heap.size ≤ gb181)); have n3_ := Aside0.mk ((by rw [hg]; exact (below_size bs_) : w.heap.size ≤ gb181)); clear HB; have HB := n0_; have BK181 := n1_; have GW181 := n2_; have GE181 := n3_; clear n0_ n1_ n2_ n3_; clear hb hbox hg; obtain ⟨hcz4_0, hcz4_1, hcz4_2, hcz4_3, hcz4_4, hcz4_5, hfz4_0, hfz4_1, hfz4_2, hfz4_3, hfz4_4, hfz4_5⟩ := blk6 BK181) | ((with_reducible refine gate_callee (f := 18) rfl ?_); refine goesL_ (some 7) rfl rfl Try.func18 (by kernel_rfl) rfl #[.agg #[.int .i64 a0_0, .int .i64 a0_1, .int .i64 a0_2, .int .i64 a0_3, .int .i64 a0_4, .slice A0_5 l0_5.length c0_5]] rfl (by (try simp only [List.map_toArray, List.map_cons, List.map_nil]); first | done | rfl | (simp only [List.length_drop, List.length_take]; rfl)) ?_; (with_reducible refine (epoch_Clear.calls k a0_0 a0_1 a0_2 a0_3 a0_4 _ _ l0_5 t182 t183 t184 t185 t186 t187 t190 _ ?side1 ?side2 A2.out).mono ?_); (case side1 => repeat (first | exact (Kd.C_below HR0_5.out HB.out) | (with_reducible refine Kd.C_alloc ?_ _) | (with_reducible refine Kd.C_drewN ?_ _) | (with_reducible refine Kd.C_drew ?_))); (case side2 => exact HC0_5.out); rintro e w5 ⟨v188, v191, rfl, ho0, ho1, hb⟩; refine ⟨_, rfl, ?_⟩; have n0_ := Aside0.mk (Kd.R_lower ho0 (below_size bs_)); have n1_ := Aside0.mk (Kd.R_lower ho1 (below_size bs_)); have n2_ := Aside0.mk (blk_below (bk_ BK181) hb); have n3_ := Aside0.mk (below_step bs_ hb); clear BK181 HB; have HO189 := n0_; have HO192 := n1_; have BK181 := n2_; have HB := n3_; clear n0_ n1_ n2_ n3_; (try clear hb); (try clear hb2); (try clear hk); (try clear hi); (try clear ho0); (try clear ho1); obtain ⟨Ao6, co6, eo6⟩ := Kd.R_slice HO192.out; subst eo6; obtain ⟨Ao7, co7, eo7⟩ := Kd.R_slice HO189.out; subst eo7) | ((with_reducible refine gate_dst (N := 3) rfl ?_); refine box_event ?hg (N := 3) ?hd (cs := #[.int .i64 0, .int .i64 0, .int .i64 0, .int .i64 0, .int .i64 0, .slice none 0 0]) (t := 25) ?hr ?_; (case hd => rfl); (case hg => rfl); (case hr => first | (go_simp; done) | (go_simp; rfl)); intro gb193 hg w8 hbox hb; have n0_ := Aside0.mk (Kd.R_below (rk_ HO189) hb); have n1_ := Aside0.mk (Kd.R_below (rk_ HO192) hb); have n2_ := Aside0.mk (blk_below (bk_ BK181) hb); have n3_ := Aside0.mk (below_step bs_ hb); have n4_ := Aside0.mk (hbox); have n5_ := Aside0.mk ((by rw [hg]; exact (below_size bs_) : w.heap.size ≤ gb193)); have n6_ := Aside0.mk ((by rw [hg]; exact (below_size bs_) : w.heap.size ≤ gb193)); have n7_ := Aside0.mk ((by rw [hg]; exact Nat.ne_of_lt (blk_lt (bk_ BK181)) : gb181 ≠ gb193)); have n8_ := Aside0.mk ((by rw [hg]; exact Nat.ne_of_gt (blk_lt (bk_ BK181)) : gb193 ≠ gb181)); clear HO189 HO192 BK181 HB; have HO189 := n0_; have HO192 := n1_; have BK181 := n2_; have HB := n3_; have BK193 := n4_; have GW193 := n5_; have GE193 := n6_; have NB181_193 := n7_; have NB193_181 := n8_; clear n0_ n1_ n2_ n3_ n4_ n5_ n6_ n7_ n8_; clear hb hbox hg; have hnb9 := NB193_181.out; have hnc9 := NB181_193.out; obtain ⟨hcz10_0, hcz10_1, hcz10_2, hcz10_3, hcz10_4, hcz10_5, hfz10_0, hfz10_1, hfz10_2, hfz10_3, hfz10_4, hfz10_5⟩ := blk6 BK193))
 go_ret
 exact ⟨_, by first | rfl | (simp [errW_none, errW_some] <;> rfl) | (simp [*, errW_none, errW_some] <;> rfl), by (with_reducible repeat (first | apply Kd.R_alloc | apply Kd.R_drewN | apply Kd.R_drew)); exact Kd.R_mono (far6 gb193 (Kd.R_types HO192.out BK193.out (by decide)) (fun _ hk => hk.2)) (fun _ hk => trivial), by repeat (first | (with_reducible first | exact HB.out | apply below_alloc | apply pw_below_drewN | apply below_drew1 | refine below_set ?_ GE181.out | refine below_set ?_ GE193.out) | exact HB.out)⟩

end Go.Proofs.Ytipnfcicpnmggaa.P
