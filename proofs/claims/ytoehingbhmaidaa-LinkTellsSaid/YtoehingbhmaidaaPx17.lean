-- Written by a program of this session over the kit's print of the translation. Lean checks it.
import Derived.Test.YtoehingbhmaidaaPx0
import Derived.Test.YtoehingbhmaidaaPx9
import Derived.Test.YtoehingbhmaidaaPx11
-- shorter
namespace Go.Proofs.Ytoehingbhmaidaa.P
open Go.RowKit Go.Proofs.YtoehingbhmaidaaW.PrintWords Go.Proofs.YtoehingbhmaidaaW.PrintLast Go.Proofs.YtoehingbhmaidaaW.PrintMore
attribute [local go_sem] max2_int min2_int max_two min_two max_three min_three max_four min_four   -- for this text's walks alone
set_option linter.unusedVariables false
set_option linter.unusedSimpArgs false

theorem four_ {w : World} {g : Nat} {u v : Value} {t : TypeId} (h : w.heap[g]? = some (.cells #[u, v] t (0, 0))) (a b c d : Value) : ((((w.setCell ⟨g, 0, none⟩ a).setCell ⟨g, 1, none⟩ b).setCell ⟨g, 0, none⟩ c).setCell ⟨g, 1, none⟩ d).cell? ⟨g, 1, none⟩ = some d := by
 have hne : ∀ (W : World) (z : Value), (W.setCell ⟨g, 0, none⟩ z).cell? ⟨g, 1, none⟩ = W.cell? ⟨g, 1, none⟩ := fun W z => by
  have hn : (⟨g, 0, none⟩ : Addr) ≠ ⟨g, 1, none⟩ := fun e => by injection e with _ e2 _; cases e2
  exact World.cell?_setCell_other _ _ _ _ hn
 have h1 : w.cell? ⟨g, 1, none⟩ = some v := by simp [World.cell?, h]
 have h2 := (hne w a).trans h1
 have h3 : ((w.setCell ⟨g, 0, none⟩ a).setCell ⟨g, 1, none⟩ b).cell? ⟨g, 1, none⟩ = some b := World.cell?_setCell_same' _ _ _ (by rw [h2]; rfl)
 have h4 := (hne _ c).trans h3
 exact World.cell?_setCell_same' _ _ _ (by rw [h4]; rfl)
/-! ### drydockref16_Swap: function 18 -/
mutual
def drydockref16_Swap.j0 : Nat → Int → Int → Bool → Int → List (S26) → Int → Int → Option (Int × (List (S26)) × Int)
  | 0, _, _, _, _, _, _, _ => none
  | k + 1, x1, x3, x37, x230000, x230001, x231000, x231001 => if x37 = true then (some (0, ([] : List (S26)), 1)) else (drydockref16_Swap.l0 k x1 0 x230000 x230001 x231000 x231001 (wrap64 (x3 + 1)) ([] : List (S26)))
def drydockref16_Swap.l0 : Nat → Int → Int → Int → List (S26) → Int → Int → Int → List (S26) → Option (Int × (List (S26)) × Int)
  | 0, _, _, _, _, _, _, _, _ => none
  | k + 1, x1, x12, x230000, x230001, x231000, x231001, x236000, x236001 => if x12 < (x230001.length : Int) then (if 0 ≤ x12 then (if ((rd_T26 x230001 x12).f0) = x1 then (if x236001.length < 8796093022208 then (drydockref16_Swap.l0 k x1 (wrap64 (x12 + 1)) x230000 x230001 x231000 x231001 x236000 (x236001 ++ [(⟨x231000, x231001⟩ : S26)])) else (none)) else (if x236001.length < 8796093022208 then (drydockref16_Swap.l0 k x1 (wrap64 (x12 + 1)) x230000 x230001 x231000 x231001 x236000 (x236001 ++ [(⟨(rd_T26 x230001 x12).f0, (rd_T26 x230001 x12).f1⟩ : S26)])) else (none))) else (none)) else (some (x236000, x236001, 0))
end
def drydockref16_Swap.f (k : Nat) (a0_0 : Int) (l0_1 : List (S26)) (a1 : Int) (a2_0 : Int) (a2_1 : Int) (a3 : Int) : Option (Int × (List (S26)) × Int) := (drydockref16_why.f k a0_0 l0_1 a2_0 a2_1 a3).bind fun t232 => (if t232 = 0 then ((drydockref16_find.f k a0_0 l0_1 a1).bind fun t233 => (if t233 < 0 then (some (0, ([] : List (S26)), 3)) else (if a2_0 = a1 then (drydockref16_Swap.j0 k a1 a3 false a0_0 l0_1 a2_0 a2_1) else ((drydockref16_find.f k a0_0 l0_1 a2_0).bind fun t234 => (drydockref16_Swap.j0 k a1 a3 (decide (t234 ≥ 0)) a0_0 l0_1 a2_0 a2_1))))) else (some (0, ([] : List (S26)), t232)))
theorem drydockref16_Swap.mono_l : ∀ k, (∀ y0 y1 y2 y3 y4 y5 y6, LeO (drydockref16_Swap.j0 k y0 y1 y2 y3 y4 y5 y6) (drydockref16_Swap.j0 (k + 1) y0 y1 y2 y3 y4 y5 y6)) ∧ (∀ y0 y1 y2 y3 y4 y5 y6 y7, LeO (drydockref16_Swap.l0 k y0 y1 y2 y3 y4 y5 y6 y7) (drydockref16_Swap.l0 (k + 1) y0 y1 y2 y3 y4 y5 y6 y7))
  | 0 => ⟨fun _ _ _ _ _ _ _ r h => by simp [drydockref16_Swap.j0] at h, fun _ _ _ _ _ _ _ _ r h => by simp [drydockref16_Swap.l0] at h⟩
  | k + 1 => by
    obtain ⟨ih0, ih1⟩ := drydockref16_Swap.mono_l k
    refine ⟨?_, ?_⟩
    · intro y0 y1 y2 y3 y4 y5 y6
      unfold drydockref16_Swap.j0
      repeat' first
      | (with_reducible exact ih0 _ _ _ _ _ _ _)
      | (with_reducible exact ih1 _ _ _ _ _ _ _ _)
      | (with_reducible exact drydockref16_find.mono _ _ _ _)
      | (with_reducible exact drydockref16_why.mono _ _ _ _ _ _)
      | (with_reducible exact LeO.refl _)
      | (with_reducible exact LeO.none _)
      | (with_reducible refine LeO.ite ?_ ?_)
      | (with_reducible refine LeO.bind ?_ (fun _ => ?_))
      | exact ih0 _ _ _ _ _ _ _
      | exact ih1 _ _ _ _ _ _ _ _
      | exact drydockref16_find.mono _ _ _ _
      | exact drydockref16_why.mono _ _ _ _ _ _
      | exact LeO.none _
      | refine LeO.ite ?_ ?_
      | refine LeO.bind ?_ (fun _ => ?_)
    · intro y0 y1 y2 y3 y4 y5 y6 y7
      unfold drydockref16_Swap.l0
      repeat' first
      | (with_reducible exact ih0 _ _ _ _ _ _ _)
      | (with_reducible exact ih1 _ _ _ _ _ _ _ _)
      | (with_reducible exact drydockref16_find.mono _ _ _ _)
      | (with_reducible exact drydockref16_why.mono _ _ _ _ _ _)
      | (with_reducible exact LeO.refl _)
      | (with_reducible exact LeO.none _)
      | (with_reducible refine LeO.ite ?_ ?_)
      | (with_reducible refine LeO.bind ?_ (fun _ => ?_))
      | exact ih0 _ _ _ _ _ _ _
      | exact ih1 _ _ _ _ _ _ _ _
      | exact drydockref16_find.mono _ _ _ _
      | exact drydockref16_why.mono _ _ _ _ _ _
      | exact LeO.none _
      | refine LeO.ite ?_ ?_
      | refine LeO.bind ?_ (fun _ => ?_)
theorem drydockref16_Swap.mono : ∀ a0 a1 a2 a3 a4 a5 k, LeO (drydockref16_Swap.f k a0 a1 a2 a3 a4 a5) (drydockref16_Swap.f (k + 1) a0 a1 a2 a3 a4 a5) := by
 intro a0 a1 a2 a3 a4 a5 k
 obtain ⟨ih0, ih1⟩ := drydockref16_Swap.mono_l k
 unfold drydockref16_Swap.f
 repeat' first
  | (with_reducible exact ih0 _ _ _ _ _ _ _)
  | (with_reducible exact ih1 _ _ _ _ _ _ _ _)
  | (with_reducible exact drydockref16_find.mono _ _ _ _)
  | (with_reducible exact drydockref16_why.mono _ _ _ _ _ _)
  | (with_reducible exact LeO.refl _)
  | (with_reducible exact LeO.none _)
  | (with_reducible refine LeO.ite ?_ ?_)
  | (with_reducible refine LeO.bind ?_ (fun _ => ?_))
  | exact ih0 _ _ _ _ _ _ _
  | exact ih1 _ _ _ _ _ _ _ _
  | exact drydockref16_find.mono _ _ _ _
  | exact drydockref16_why.mono _ _ _ _ _ _
  | exact LeO.none _
  | refine LeO.ite ?_ ?_
  | refine LeO.bind ?_ (fun _ => ?_)
set_option maxHeartbeats 8000000 in
set_option maxRecDepth 100000 in
theorem drydockref16_Swap.calls (k : Nat) (a0_0 : Int) (A0_1 : Option Addr) (c0_1 : Nat) (l0_1 : List (S26)) (a1 : Int) (a2_0 : Int) (a2_1 : Int) (a3 : Int) (r1 : Int) (r2 : List (S26)) (r3 : Int) (w : World) (hr0_1 : Kd.C k26 w A0_1 l0_1.length l0_1) (hc0_1 : l0_1.length ≤ c0_1) (h : drydockref16_Swap.f k a0_0 l0_1 a1 a2_0 a2_1 a3 = some (r1, r2, r3)) :
    Calls Try.prog 18 #[.agg #[.int .i64 a0_0, .slice A0_1 l0_1.length c0_1], .int .i64 a1, .agg #[.int .i64 a2_0, .int .i64 a2_1], .int .i64 a3] w fun e w' => ∃ v1_ : Value, e = .returned (.tuple #[.agg #[.int .i64 r1, v1_], .int .i64 r3]) ∧ Kd.R k26 26 w' w.heap.size (fun _ => True) v1_ r2 ∧ Below w.heap.size w w' := by
 have hu24 := Try.underlying24
 have hu26 := Try.underlying26
 have HR0_1 := Aside0.mk hr0_1
 have HC0_1 := Aside0.mk hc0_1
 clear hr0_1 hc0_1
 have HB := Aside0.mk (Below.refl w.heap.size w)
 have H : ((drydockref16_why.f k a0_0 l0_1 a2_0 a2_1 a3).bind fun t232 => (if t232 = 0 then ((drydockref16_find.f k a0_0 l0_1 a1).bind fun t233 => (if t233 < 0 then (some (0, ([] : List (S26)), 3)) else (if a2_0 = a1 then (drydockref16_Swap.j0 k a1 a3 false a0_0 l0_1 a2_0 a2_1) else ((drydockref16_find.f k a0_0 l0_1 a2_0).bind fun t234 => (drydockref16_Swap.j0 k a1 a3 (decide (t234 ≥ 0)) a0_0 l0_1 a2_0 a2_1))))) else (some (0, ([] : List (S26)), t232)))) = some (r1, r2, r3) := h
 clear h
 replace H := Option.bind_eq_some_iff.mp H
 obtain ⟨t232, A50, H⟩ := H
 replace H : (if t232 = 0 then ((drydockref16_find.f k a0_0 l0_1 a1).bind fun t233 => (if t233 < 0 then (some (0, ([] : List (S26)), 3)) else (if a2_0 = a1 then (drydockref16_Swap.j0 k a1 a3 false a0_0 l0_1 a2_0 a2_1) else ((drydockref16_find.f k a0_0 l0_1 a2_0).bind fun t234 => (drydockref16_Swap.j0 k a1 a3 (decide (t234 ≥ 0)) a0_0 l0_1 a2_0 a2_1))))) else (some (0, ([] : List (S26)), t232))) = some (r1, r2, r3) := H
 have A5 := Aside0.mk A50
 clear A50
 by_cases c6 : t232 = 0
 ·rw [if_pos c6] at H
  have c6b0 : (t232 == 0) = true := beq_iff_eq.mpr c6
  have c6b1 : (t232 != 0) = false := bne_eq_false_iff_eq.mpr c6
  clear c6
  replace H := Option.bind_eq_some_iff.mp H
  obtain ⟨t233, A70, H⟩ := H
  replace H : (if t233 < 0 then (some (0, ([] : List (S26)), 3)) else (if a2_0 = a1 then (drydockref16_Swap.j0 k a1 a3 false a0_0 l0_1 a2_0 a2_1) else ((drydockref16_find.f k a0_0 l0_1 a2_0).bind fun t234 => (drydockref16_Swap.j0 k a1 a3 (decide (t234 ≥ 0)) a0_0 l0_1 a2_0 a2_1)))) = some (r1, r2, r3) := H
  have A7 := Aside0.mk A70
  clear A70
  by_cases c8 : t233 < 0
  ·rw [if_pos c8] at H
   have c8b0 : decide (t233 < 0) = true := decide_eq_true c8
   clear c8
   simp only [Option.some.injEq, Prod.mk.injEq] at H
   obtain ⟨rfl, rfl, rfl⟩ := H
   go_enter Try.func18, Try.ntmps18
   go_wp2_with (first | ((with_reducible refine gate_dst (N := 4) rfl ?_); refine box_event ?hg (N := 4) ?hd (cs := #[.int .i64 a0_0, .slice A0_1 l0_1.length c0_1]) (t := 24) ?hr ?_; (case hd => rfl); (case hg => rfl); (case hr => first | (go_simp; done) | (go_simp; rfl)); intro gb229 hg w9 hbox hb; have n0_ := Aside0.mk (below_step bs_ hb); have n1_ := Aside0.mk (hbox); have n2_ := Aside0.mk ((by rw [hg]; exact (below_size bs_) : w.heap.size ≤ gb229)); have n3_ := Aside0.mk ((by rw [hg]; exact (below_size bs_) : w.heap.size ≤ gb229)); clear HB; have HB := n0_; have BK229 := n1_; have GW229 := n2_; have GE229 := n3_; clear n0_ n1_ n2_ n3_; clear hb hbox hg) | ((with_reducible refine gate_dst (N := 6) rfl ?_); refine box_event ?hg (N := 6) ?hd (cs := #[.int .i64 a2_0, .int .i64 a2_1]) (t := 26) ?hr ?_; (case hd => rfl); (case hg => rfl); (case hr => first | (go_simp; done) | (go_simp; rfl)); intro gb230 hg w10 hbox hb; have n0_ := Aside0.mk (blk_below (bk_ BK229) hb); have n1_ := Aside0.mk (below_step bs_ hb); have n2_ := Aside0.mk (hbox); have n3_ := Aside0.mk ((by rw [hg]; exact (below_size bs_) : w.heap.size ≤ gb230)); have n4_ := Aside0.mk ((by rw [hg]; exact (below_size bs_) : w.heap.size ≤ gb230)); have n5_ := Aside0.mk ((by rw [hg]; exact Nat.ne_of_lt (blk_lt (bk_ BK229)) : gb229 ≠ gb230)); have n6_ := Aside0.mk ((by rw [hg]; exact Nat.ne_of_gt (blk_lt (bk_ BK229)) : gb230 ≠ gb229)); clear BK229 HB; have BK229 := n0_; have HB := n1_; have BK230 := n2_; have GW230 := n3_; have GE230 := n4_; have NB229_230 := n5_; have NB230_229 := n6_; clear n0_ n1_ n2_ n3_ n4_ n5_ n6_; clear hb hbox hg) | ((with_reducible refine gate_dst (N := 8) rfl ?_); refine box_event ?hg (N := 8) ?hd (cs := #[.int .i64 0, .slice none 0 0]) (t := 24) ?hr ?_; (case hd => rfl); (case hg => rfl); (case hr => first | (go_simp; done) | (go_simp; rfl)); intro gb231 hg w11 hbox hb; have n0_ := Aside0.mk (blk_below (bk_ BK229) hb); have n1_ := Aside0.mk (blk_below (bk_ BK230) hb); have n2_ := Aside0.mk (below_step bs_ hb); have n3_ := Aside0.mk (hbox); have n4_ := Aside0.mk ((by rw [hg]; exact (below_size bs_) : w.heap.size ≤ gb231)); have n5_ := Aside0.mk ((by rw [hg]; exact (below_size bs_) : w.heap.size ≤ gb231)); have n6_ := Aside0.mk ((by rw [hg]; exact Nat.ne_of_lt (blk_lt (bk_ BK229)) : gb229 ≠ gb231)); have n7_ := Aside0.mk ((by rw [hg]; exact Nat.ne_of_gt (blk_lt (bk_ BK229)) : gb231 ≠ gb229)); have n8_ := Aside0.mk ((by rw [hg]; exact Nat.ne_of_lt (blk_lt (bk_ BK230)) : gb230 ≠ gb231)); have n9_ := Aside0.mk ((by rw [hg]; exact Nat.ne_of_gt (blk_lt (bk_ BK230)) : gb231 ≠ gb230)); clear BK229 BK230 HB; have BK229 := n0_; have BK230 := n1_; have HB := n2_; have BK231 := n3_; have GW231 := n4_; have GE231 := n5_; have NB229_231 := n6_; have NB231_229 := n7_; have NB230_231 := n8_; have NB231_230 := n9_; clear n0_ n1_ n2_ n3_ n4_ n5_ n6_ n7_ n8_ n9_; clear hb hbox hg; have hnb12 := NB229_230.out; have hnc12 := NB230_229.out; have hnb13 := NB229_231.out; have hnc13 := NB231_229.out; obtain ⟨hcz14_0, hcz14_1, hfz14_0, hfz14_1⟩ := blk2 BK229; have hnb15 := NB230_231.out; have hnc15 := NB231_230.out; obtain ⟨hcz16_0, hcz16_1, hfz16_0, hfz16_1⟩ := blk2 BK230) | ((with_reducible refine gate_callee (f := 26) rfl ?_); refine goesL_ (some 17) rfl rfl Try.func26 (by kernel_rfl) rfl #[.agg #[.int .i64 a0_0, .slice A0_1 l0_1.length c0_1], .agg #[.int .i64 a2_0, .int .i64 a2_1], .int .i64 a3] rfl (by (try simp only [List.map_toArray, List.map_cons, List.map_nil]); first | done | rfl | (simp only [List.length_drop, List.length_take]; rfl)) ?_; (with_reducible refine (drydockref16_why.calls k a0_0 _ _ l0_1 a2_0 a2_1 a3 t232 _ ?side1 ?side2 A5.out).mono ?_); (case side1 => repeat (first | exact (Kd.C_below HR0_1.out HB.out) | (with_reducible refine Kd.C_alloc ?_ _) | (with_reducible refine Kd.C_drewN ?_ _) | (with_reducible refine Kd.C_drew ?_))); (case side2 => exact HC0_1.out); rintro e w17 ⟨rfl, hb⟩; refine ⟨_, rfl, ?_⟩; have n0_ := Aside0.mk (blk_below (bk_ BK229) hb); have n1_ := Aside0.mk (blk_below (bk_ BK230) hb); have n2_ := Aside0.mk (blk_below (bk_ BK231) hb); have n3_ := Aside0.mk (below_step bs_ hb); clear BK229 BK230 BK231 HB; have BK229 := n0_; have BK230 := n1_; have BK231 := n2_; have HB := n3_; clear n0_ n1_ n2_ n3_; (try clear hb); (try clear hb2); (try clear hk); (try clear hi); obtain ⟨hcz18_0, hcz18_1, hfz18_0, hfz18_1⟩ := blk2 BK229) | ((with_reducible refine gate_callee (f := 27) rfl ?_); refine goesL_ (some 24) rfl rfl Try.func27 (by kernel_rfl) rfl #[.agg #[.int .i64 a0_0, .slice A0_1 l0_1.length c0_1], .int .i64 a1] rfl (by (try simp only [List.map_toArray, List.map_cons, List.map_nil]); first | done | rfl | (simp only [List.length_drop, List.length_take]; rfl)) ?_; (with_reducible refine (drydockref16_find.calls k a0_0 _ _ l0_1 a1 t233 _ ?side1 ?side2 A7.out).mono ?_); (case side1 => repeat (first | exact (Kd.C_below HR0_1.out HB.out) | (with_reducible refine Kd.C_alloc ?_ _) | (with_reducible refine Kd.C_drewN ?_ _) | (with_reducible refine Kd.C_drew ?_))); (case side2 => exact HC0_1.out); rintro e w19 ⟨rfl, hb⟩; refine ⟨_, rfl, ?_⟩; have n0_ := Aside0.mk (blk_below (bk_ BK229) hb); have n1_ := Aside0.mk (blk_below (bk_ BK230) hb); have n2_ := Aside0.mk (blk_below (bk_ BK231) hb); have n3_ := Aside0.mk (below_step bs_ hb); clear BK229 BK230 BK231 HB; have BK229 := n0_; have BK230 := n1_; have BK231 := n2_; have HB := n3_; clear n0_ n1_ n2_ n3_; (try clear hb); (try clear hb2); (try clear hk); (try clear hi); obtain ⟨hcz20_0, hcz20_1, hfz20_0, hfz20_1⟩ := blk2 BK231))
   refine bodyPost_ret (results_ct rfl _ _ gb231 24 #[.int .i64 0, .slice none 0 0] (0, 0) _ rfl (bp_ BK231) Try.underlying24 rfl (by kernel_rfl)) rfl ?_
   exact ⟨_, by first | rfl | (simp [errW_none, errW_some] <;> rfl) | (simp [*, errW_none, errW_some] <;> rfl), by first | exact Kd.R_nil _ _ _ _ _ | exact Kd.N_nil _ _ _ _ _ | exact Kd.V_nil _ _ _ _ _ | exact Kd.Q_nil _ _ _ _ _ | exact Kd.S_nil _ _ _ _ _, by repeat (first | (with_reducible first | exact HB.out | apply below_alloc | apply pw_below_drewN | apply below_drew1 | refine below_set ?_ GE229.out | refine below_set ?_ GE230.out | refine below_set ?_ GE231.out) | exact HB.out)⟩
  ·rw [if_neg c8] at H
   have c8b0 : decide (t233 < 0) = false := decide_eq_false c8
   clear c8
   have HC21 := Aside0.mk H
   clear H
   go_enter Try.func18, Try.ntmps18
   go_upto_region 6 with (first | ((with_reducible refine gate_dst (N := 4) rfl ?_); refine box_event ?hg (N := 4) ?hd (cs := #[.int .i64 a0_0, .slice A0_1 l0_1.length c0_1]) (t := 24) ?hr ?_; (case hd => rfl); (case hg => rfl); (case hr => first | (go_simp; done) | (go_simp; rfl)); intro gb229 hg w22 hbox hb; have n0_ := Aside0.mk (below_step bs_ hb); have n1_ := Aside0.mk (hbox); have n2_ := Aside0.mk ((by rw [hg]; exact (below_size bs_) : w.heap.size ≤ gb229)); have n3_ := Aside0.mk ((by rw [hg]; exact (below_size bs_) : w.heap.size ≤ gb229)); clear HB; have HB := n0_; have BK229 := n1_; have GW229 := n2_; have GE229 := n3_; clear n0_ n1_ n2_ n3_; clear hb hbox hg) | ((with_reducible refine gate_dst (N := 6) rfl ?_); refine box_event ?hg (N := 6) ?hd (cs := #[.int .i64 a2_0, .int .i64 a2_1]) (t := 26) ?hr ?_; (case hd => rfl); (case hg => rfl); (case hr => first | (go_simp; done) | (go_simp; rfl)); intro gb230 hg w23 hbox hb; have n0_ := Aside0.mk (blk_below (bk_ BK229) hb); have n1_ := Aside0.mk (below_step bs_ hb); have n2_ := Aside0.mk (hbox); have n3_ := Aside0.mk ((by rw [hg]; exact (below_size bs_) : w.heap.size ≤ gb230)); have n4_ := Aside0.mk ((by rw [hg]; exact (below_size bs_) : w.heap.size ≤ gb230)); have n5_ := Aside0.mk ((by rw [hg]; exact Nat.ne_of_lt (blk_lt (bk_ BK229)) : gb229 ≠ gb230)); have n6_ := Aside0.mk ((by rw [hg]; exact Nat.ne_of_gt (blk_lt (bk_ BK229)) : gb230 ≠ gb229)); clear BK229 HB; have BK229 := n0_; have HB := n1_; have BK230 := n2_; have GW230 := n3_; have GE230 := n4_; have NB229_230 := n5_; have NB230_229 := n6_; clear n0_ n1_ n2_ n3_ n4_ n5_ n6_; clear hb hbox hg) | ((with_reducible refine gate_dst (N := 8) rfl ?_); refine box_event ?hg (N := 8) ?hd (cs := #[.int .i64 0, .slice none 0 0]) (t := 24) ?hr ?_; (case hd => rfl); (case hg => rfl); (case hr => first | (go_simp; done) | (go_simp; rfl)); intro gb231 hg w24 hbox hb; have n0_ := Aside0.mk (blk_below (bk_ BK229) hb); have n1_ := Aside0.mk (blk_below (bk_ BK230) hb); have n2_ := Aside0.mk (below_step bs_ hb); have n3_ := Aside0.mk (hbox); have n4_ := Aside0.mk ((by rw [hg]; exact (below_size bs_) : w.heap.size ≤ gb231)); have n5_ := Aside0.mk ((by rw [hg]; exact (below_size bs_) : w.heap.size ≤ gb231)); have n6_ := Aside0.mk ((by rw [hg]; exact Nat.ne_of_lt (blk_lt (bk_ BK229)) : gb229 ≠ gb231)); have n7_ := Aside0.mk ((by rw [hg]; exact Nat.ne_of_gt (blk_lt (bk_ BK229)) : gb231 ≠ gb229)); have n8_ := Aside0.mk ((by rw [hg]; exact Nat.ne_of_lt (blk_lt (bk_ BK230)) : gb230 ≠ gb231)); have n9_ := Aside0.mk ((by rw [hg]; exact Nat.ne_of_gt (blk_lt (bk_ BK230)) : gb231 ≠ gb230)); clear BK229 BK230 HB; have BK229 := n0_; have BK230 := n1_; have HB := n2_; have BK231 := n3_; have GW231 := n4_; have GE231 := n5_; have NB229_231 := n6_; have NB231_229 := n7_; have NB230_231 := n8_; have NB231_230 := n9_; clear n0_ n1_ n2_ n3_ n4_ n5_ n6_ n7_ n8_ n9_; clear hb hbox hg; have hnb25 := NB229_230.out; have hnc25 := NB230_229.out; have hnb26 := NB229_231.out; have hnc26 := NB231_229.out; obtain ⟨hcz27_0, hcz27_1, hfz27_0, hfz27_1⟩ := blk2 BK229; have hnb28 := NB230_231.out; have hnc28 := NB231_230.out; obtain ⟨hcz29_0, hcz29_1, hfz29_0, hfz29_1⟩ := blk2 BK230) | ((with_reducible refine gate_callee (f := 26) rfl ?_); refine goesL_ (some 17) rfl rfl Try.func26 (by kernel_rfl) rfl #[.agg #[.int .i64 a0_0, .slice A0_1 l0_1.length c0_1], .agg #[.int .i64 a2_0, .int .i64 a2_1], .int .i64 a3] rfl (by (try simp only [List.map_toArray, List.map_cons, List.map_nil]); first | done | rfl | (simp only [List.length_drop, List.length_take]; rfl)) ?_; (with_reducible refine (drydockref16_why.calls k a0_0 _ _ l0_1 a2_0 a2_1 a3 t232 _ ?side1 ?side2 A5.out).mono ?_); (case side1 => repeat (first | exact (Kd.C_below HR0_1.out HB.out) | (with_reducible refine Kd.C_alloc ?_ _) | (with_reducible refine Kd.C_drewN ?_ _) | (with_reducible refine Kd.C_drew ?_))); (case side2 => exact HC0_1.out); rintro e w30 ⟨rfl, hb⟩; refine ⟨_, rfl, ?_⟩; have n0_ := Aside0.mk (blk_below (bk_ BK229) hb); have n1_ := Aside0.mk (blk_below (bk_ BK230) hb); have n2_ := Aside0.mk (blk_below (bk_ BK231) hb); have n3_ := Aside0.mk (below_step bs_ hb); clear BK229 BK230 BK231 HB; have BK229 := n0_; have BK230 := n1_; have BK231 := n2_; have HB := n3_; clear n0_ n1_ n2_ n3_; (try clear hb); (try clear hb2); (try clear hk); (try clear hi); obtain ⟨hcz31_0, hcz31_1, hfz31_0, hfz31_1⟩ := blk2 BK229) | ((with_reducible refine gate_callee (f := 27) rfl ?_); refine goesL_ (some 24) rfl rfl Try.func27 (by kernel_rfl) rfl #[.agg #[.int .i64 a0_0, .slice A0_1 l0_1.length c0_1], .int .i64 a1] rfl (by (try simp only [List.map_toArray, List.map_cons, List.map_nil]); first | done | rfl | (simp only [List.length_drop, List.length_take]; rfl)) ?_; (with_reducible refine (drydockref16_find.calls k a0_0 _ _ l0_1 a1 t233 _ ?side1 ?side2 A7.out).mono ?_); (case side1 => repeat (first | exact (Kd.C_below HR0_1.out HB.out) | (with_reducible refine Kd.C_alloc ?_ _) | (with_reducible refine Kd.C_drewN ?_ _) | (with_reducible refine Kd.C_drew ?_))); (case side2 => exact HC0_1.out); rintro e w32 ⟨rfl, hb⟩; refine ⟨_, rfl, ?_⟩; have n0_ := Aside0.mk (blk_below (bk_ BK229) hb); have n1_ := Aside0.mk (blk_below (bk_ BK230) hb); have n2_ := Aside0.mk (blk_below (bk_ BK231) hb); have n3_ := Aside0.mk (below_step bs_ hb); clear BK229 BK230 BK231 HB; have BK229 := n0_; have BK230 := n1_; have BK231 := n2_; have HB := n3_; clear n0_ n1_ n2_ n3_; (try clear hb); (try clear hb2); (try clear hk); (try clear hi)))
   (try simp only [Act.put, List.setIfInBounds_toArray, List.set_cons_zero, List.set_cons_succ])
   go_cut [37] (fun v37 wc => ∃ (kq : Nat) (x37_20 : Bool), v37 = .bool x37_20 ∧ Aside0 (drydockref16_Swap.j0 kq a1 a3 x37_20 a0_0 l0_1 a2_0 a2_1 = some (r1, r2, r3)) ∧ Aside0 (kq ≤ k) ∧ Aside0 (wc.heap[gb229]? = some (.cells #[.int .i64 a0_0, (.slice A0_1 l0_1.length c0_1)] 24 (0, 0))) ∧ Aside0 (wc.heap[gb230]? = some (.cells #[.int .i64 a2_0, .int .i64 a2_1] 26 (0, 0))) ∧ Aside0 (wc.heap[gb231]? = some (.cells #[.int .i64 0, (.slice none 0 0)] 24 (0, 0))) ∧ Aside0 (Below w.heap.size w wc))
   case first =>
    have H := HC21.out
    clear HC21
    by_cases c33 : a2_0 = a1
    ·rw [if_pos c33] at H
     have c33b0 : (a2_0 == a1) = true := beq_iff_eq.mpr c33
     have c33b1 : (a2_0 != a1) = false := bne_eq_false_iff_eq.mpr c33
     clear c33
     (first | rw [c33b0] | (simp only [i64_w, i32_w]; rw [c33b0]) | skip)
     have H' := Aside0.mk H
     clear H
     have hnb34 := NB230_229.out
     have hnc34 := NB229_230.out
     have hnb35 := NB230_231.out
     have hnc35 := NB231_230.out
     obtain ⟨hcz36_0, hcz36_1, hfz36_0, hfz36_1⟩ := blk2 BK230
     go_wp2
     go_meet
     case rel => exact ⟨_, (false), (by first | rfl | (simp; done) | (simp [*]; done)), H', ⟨by first | omega | exact Nat.le_refl _⟩, ⟨bk_ BK229⟩, ⟨bk_ BK230⟩, ⟨bk_ BK231⟩, ⟨bs_⟩⟩
    ·rw [if_neg c33] at H
     have c33b0 : (a2_0 == a1) = false := beq_eq_false_iff_ne.mpr c33
     have c33b1 : (a2_0 != a1) = true := bne_iff_ne.mpr c33
     (first | rw [c33b0] | (simp only [i64_w, i32_w]; rw [c33b0]) | skip)
     replace H := Option.bind_eq_some_iff.mp H
     obtain ⟨t234, A370, H⟩ := H
     replace H : (drydockref16_Swap.j0 k a1 a3 (decide (t234 ≥ 0)) a0_0 l0_1 a2_0 a2_1) = some (r1, r2, r3) := H
     have A37 := Aside0.mk A370
     clear A370
     have H' := Aside0.mk H
     clear H
     have hnb38 := NB230_229.out
     have hnc38 := NB229_230.out
     have hnb39 := NB230_231.out
     have hnc39 := NB231_230.out
     obtain ⟨hcz40_0, hcz40_1, hfz40_0, hfz40_1⟩ := blk2 BK230
     have hnb41 := NB229_231.out
     have hnc41 := NB231_229.out
     obtain ⟨hcz42_0, hcz42_1, hfz42_0, hfz42_1⟩ := blk2 BK229
     go_wp2_with (first | (go_at_call 27; (with_reducible refine (drydockref16_find.calls k a0_0 _ _ l0_1 a2_0 t234 _ ?side1 ?side2 A37.out).mono ?_); (case side1 => repeat (first | exact (Kd.C_below HR0_1.out HB.out) | (with_reducible refine Kd.C_alloc ?_ _) | (with_reducible refine Kd.C_drewN ?_ _) | (with_reducible refine Kd.C_drew ?_))); (case side2 => exact HC0_1.out); rintro e w43 ⟨rfl, hb⟩; have n0_ := Aside0.mk (blk_below (bk_ BK229) hb); have n1_ := Aside0.mk (blk_below (bk_ BK230) hb); have n2_ := Aside0.mk (blk_below (bk_ BK231) hb); have n3_ := Aside0.mk (below_step bs_ hb); clear BK229 BK230 BK231 HB; have BK229 := n0_; have BK230 := n1_; have BK231 := n2_; have HB := n3_; clear n0_ n1_ n2_ n3_; (try clear hb); (try clear hb2); (try clear hk); (try clear hi)))
     go_meet
     case rel => exact ⟨_, (decide (t234 ≥ 0)), (by first | rfl | (simp; done) | (simp [*]; done)), H', ⟨by first | omega | exact Nat.le_refl _⟩, ⟨bk_ BK229⟩, ⟨bk_ BK230⟩, ⟨bk_ BK231⟩, ⟨bs_⟩⟩
   case rest =>
    clear HC21
    try clear c6
    try clear c6b0
    try clear c6b1
    try clear c8
    try clear c8b0
    try clear hcz27_0
    try clear hcz27_1
    try clear hcz29_0
    try clear hcz29_1
    try clear hcz31_0
    try clear hcz31_1
    try clear hfz27_0
    try clear hfz27_1
    try clear hfz29_0
    try clear hfz29_1
    try clear hfz31_0
    try clear hfz31_1
    obtain ⟨kq, x37_20, rfl, HA, HJ20, BK229, BK230, BK231, HB⟩ := hcut
    cases kq with
    | zero => exact absurd HA.out (by simp [drydockref16_Swap.j0])
    | succ kj20 =>
     have H := HA.out
     clear HA
     simp only [drydockref16_Swap.j0] at H
     by_cases c44 : x37_20 = true
     ·subst c44
      have H1 : (some (0, ([] : List (S26)), 1)) = some (r1, r2, r3) := by rw [if_pos rfl] at H; exact H
      clear H
      have H := H1
      clear H1
      simp only [Option.some.injEq, Prod.mk.injEq] at H
      obtain ⟨rfl, rfl, rfl⟩ := H
      have hnb45 := NB231_229.out
      have hnc45 := NB229_231.out
      have hnb46 := NB231_230.out
      have hnc46 := NB230_231.out
      obtain ⟨hcz47_0, hcz47_1, hfz47_0, hfz47_1⟩ := blk2 BK231
      go_wp2
      refine bodyPost_ret (results_ct rfl _ _ gb231 24 #[.int .i64 0, .slice none 0 0] (0, 0) _ rfl (bp_ BK231) Try.underlying24 rfl (by kernel_rfl)) rfl ?_
      exact ⟨_, by first | rfl | (simp [errW_none, errW_some] <;> rfl) | (simp [*, errW_none, errW_some] <;> rfl), by first | exact Kd.R_nil _ _ _ _ _ | exact Kd.N_nil _ _ _ _ _ | exact Kd.V_nil _ _ _ _ _ | exact Kd.Q_nil _ _ _ _ _ | exact Kd.S_nil _ _ _ _ _, by repeat (first | (with_reducible first | exact HB.out | apply below_alloc | apply pw_below_drewN | apply below_drew1 | refine below_set ?_ GE229.out | refine below_set ?_ GE230.out | refine below_set ?_ GE231.out) | exact HB.out)⟩
     ·replace c44 := Bool.eq_false_iff.mpr c44
      subst c44
      have H1 : (drydockref16_Swap.l0 kj20 a1 0 a0_0 l0_1 a2_0 a2_1 (wrap64 (a3 + 1)) ([] : List (S26))) = some (r1, r2, r3) := by rw [if_neg (show ¬ (false = true) by decide)] at H; exact H
      clear H
      have H := H1
      clear H1
      have H' := Aside0.mk H
      clear H
      go_wp2_with (first | ((with_reducible refine gate_dst (N := 11) rfl ?_); refine box_event ?hg (N := 11) ?hd (cs := #[.int .i64 0, .slice none 0 0]) (t := 24) ?hr ?_; (case hd => rfl); (case hg => rfl); (case hr => first | (go_simp; done) | (go_simp; rfl)); intro gb235 hg w48 hbox hb; have n0_ := Aside0.mk (blk_below (bk_ BK229) hb); have n1_ := Aside0.mk (blk_below (bk_ BK230) hb); have n2_ := Aside0.mk (blk_below (bk_ BK231) hb); have n3_ := Aside0.mk (below_step bs_ hb); have n4_ := Aside0.mk (hbox); have n5_ := Aside0.mk ((by rw [hg]; exact (below_size bs_) : w.heap.size ≤ gb235)); have n6_ := Aside0.mk ((by rw [hg]; exact (below_size bs_) : w.heap.size ≤ gb235)); have n7_ := Aside0.mk ((by rw [hg]; exact Nat.ne_of_lt (blk_lt (bk_ BK229)) : gb229 ≠ gb235)); have n8_ := Aside0.mk ((by rw [hg]; exact Nat.ne_of_gt (blk_lt (bk_ BK229)) : gb235 ≠ gb229)); have n9_ := Aside0.mk ((by rw [hg]; exact Nat.ne_of_lt (blk_lt (bk_ BK230)) : gb230 ≠ gb235)); have n10_ := Aside0.mk ((by rw [hg]; exact Nat.ne_of_gt (blk_lt (bk_ BK230)) : gb235 ≠ gb230)); have n11_ := Aside0.mk ((by rw [hg]; exact Nat.ne_of_lt (blk_lt (bk_ BK231)) : gb231 ≠ gb235)); have n12_ := Aside0.mk ((by rw [hg]; exact Nat.ne_of_gt (blk_lt (bk_ BK231)) : gb235 ≠ gb231)); clear BK229 BK230 BK231 HB; have BK229 := n0_; have BK230 := n1_; have BK231 := n2_; have HB := n3_; have BK235 := n4_; have GW235 := n5_; have GE235 := n6_; have NB229_235 := n7_; have NB235_229 := n8_; have NB230_235 := n9_; have NB235_230 := n10_; have NB231_235 := n11_; have NB235_231 := n12_; clear n0_ n1_ n2_ n3_ n4_ n5_ n6_ n7_ n8_ n9_ n10_ n11_ n12_; clear hb hbox hg; have hnb49 := NB235_229.out; have hnc49 := NB229_235.out; have hnb50 := NB235_230.out; have hnc50 := NB230_235.out; have hnb51 := NB235_231.out; have hnc51 := NB231_235.out; obtain ⟨hcz52_0, hcz52_1, hfz52_0, hfz52_1⟩ := blk2 BK235))
      go_loopg [12] kj20 (fun kq v12 w' => ∃ (x12_2 : Int) (x236001_2 : List (S26)) (u236001 : Value), v12 = .int .i64 x12_2 ∧ Aside0 (drydockref16_Swap.l0 kq a1 x12_2 a0_0 l0_1 a2_0 a2_1 (wrap64 (a3 + 1)) x236001_2 = some (r1, r2, r3)) ∧ Aside0 (kq ≤ kj20) ∧ Aside0 (Kd.R k26 26 w' w.heap.size (fun k_ => k_ ≠ gb230) u236001 x236001_2) ∧ Aside0 (w'.heap[gb229]? = some (.cells #[.int .i64 a0_0, (.slice A0_1 l0_1.length c0_1)] 24 (0, 0))) ∧ Aside0 (w'.heap[gb230]? = some (.cells #[.int .i64 a2_0, .int .i64 a2_1] 26 (0, 0))) ∧ Aside0 (w'.heap[gb231]? = some (.cells #[.int .i64 0, (.slice none 0 0)] 24 (0, 0))) ∧ Aside0 (w'.heap[gb235]? = some (.cells #[.int .i64 (wrap64 (a3 + 1)), u236001] 24 (0, 0))) ∧ Aside0 (Below w.heap.size w w'))
      case atStart => exact ⟨(0), (([] : List (S26))), (.slice none 0 0), (by first | rfl | (simp; done) | (simp [*]; done)), H', ⟨Nat.le_refl _⟩, ⟨by first | exact Kd.R_nil _ _ _ _ _ | exact Kd.N_nil _ _ _ _ _ | exact Kd.V_nil _ _ _ _ _ | exact Kd.Q_nil _ _ _ _ _ | exact Kd.S_nil _ _ _ _ _⟩, ⟨bf_ BK229⟩, ⟨bf_ BK230⟩, ⟨bf_ BK231⟩, ⟨bp_ BK235⟩, ⟨bs_⟩⟩
      case round =>
       clear H'
       try clear c6
       try clear c6b0
       try clear c6b1
       try clear c8
       try clear c8b0
       try clear c44
       try clear hcz27_0
       try clear hcz27_1
       try clear hcz29_0
       try clear hcz29_1
       try clear hcz31_0
       try clear hcz31_1
       try clear hcz52_0
       try clear hcz52_1
       try clear hfz27_0
       try clear hfz27_1
       try clear hfz29_0
       try clear hfz29_1
       try clear hfz31_0
       try clear hfz31_1
       try clear hfz52_0
       try clear hfz52_1
       obtain ⟨x12_2, x236001_2, u236001, rfl, HA, HK2, HO_236001, BK229, BK230, BK231, BK235, HB⟩ := hrel
       cases gk with
       | zero => exact absurd HA.out (by simp [drydockref16_Swap.l0])
       | succ k2 =>
        have H := HA.out
        clear HA
        simp only [drydockref16_Swap.l0] at H
        by_cases c53 : x12_2 < (l0_1.length : Int)
        ·rw [if_pos c53] at H
         have c53b0 : decide (x12_2 < (l0_1.length : Int)) = true := decide_eq_true c53
         clear c53
         by_cases c54 : 0 ≤ x12_2
         ·rw [if_pos c54] at H
          have c54b0 : decide (0 ≤ x12_2) = true := decide_eq_true c54
          clear c54
          by_cases c55 : ((rd_T26 l0_1 x12_2).f0) = a1
          ·rw [if_pos c55] at H
           have c55b0 : (((rd_T26 l0_1 x12_2).f0) == a1) = true := beq_iff_eq.mpr c55
           have c55b1 : (((rd_T26 l0_1 x12_2).f0) != a1) = false := bne_eq_false_iff_eq.mpr c55
           clear c55
           by_cases c56 : x236001_2.length < 8796093022208
           ·rw [if_pos c56] at H
            have LMc56 := Aside0.mk c56
            clear c56
            obtain ⟨y238, hy238⟩ : ∃ y_ : List (S26), y_ = (x236001_2 ++ [(⟨a2_0, a2_1⟩ : S26)]) := ⟨_, rfl⟩
            replace H : (drydockref16_Swap.l0 k2 a1 (wrap64 (x12_2 + 1)) a0_0 l0_1 a2_0 a2_1 (wrap64 (a3 + 1)) y238) = some (r1, r2, r3) := by first | (rw [hy238]; with_reducible exact H) | (have H2_ := (Option.bind_some _ _).symm.trans H; rw [hy238]; with_reducible exact H2_) | (have H2_ := (Option.bind_some _ _).symm.trans H; with_reducible exact H2_) | with_reducible exact H | (rw [hy238]; exact H) | exact H
            have Ny238 := Aside0.mk hy238
            clear hy238
            have H' := Aside0.mk H
            clear H
            have hnb57 := NB229_230.out
            have hnc57 := NB230_229.out
            have hnb58 := NB229_231.out
            have hnc58 := NB231_229.out
            have hnb59 := NB229_235.out
            have hnc59 := NB235_229.out
            obtain ⟨hcz60_0, hcz60_1, hfz60_0, hfz60_1⟩ := blk2 BK229
            have p236 : 0 ≤ (x12_2 : Int) := of_decide_eq_true (by first | (with_reducible assumption) | assumption)
            have q236 : x12_2 < (l0_1.length : Int) := of_decide_eq_true (by first | (with_reducible assumption) | assumption)
            obtain ⟨ad236, e236, hx236_0, hx236_1⟩ := at_T26 HR0_1.out x12_2 p236 q236
            cases e236
            replace hx236_0 := (HB.out.cell (World.block_lt_of_cell? w _ hx236_0)).trans hx236_0
            replace hx236_1 := (HB.out.cell (World.block_lt_of_cell? w _ hx236_1)).trans hx236_1
            replace p236 := eq_true p236
            replace q236 := eq_true q236
            go_wp2_with (first | ((with_reducible refine gate_dst (N := 13) rfl ?_); refine box_event ?hg (N := 13) ?hd (cs := #[.int .i64 0, .int .i64 0]) (t := 26) ?hr ?_; (case hd => rfl); (case hg => rfl); (case hr => first | (go_simp; done) | (go_simp; rfl)); intro gb237 hg w61 hbox hb; have hx4_ := four_ hbox; have n0_ := Aside0.mk (Kd.R_below (Kd.R_elderB (rk_ HO_236001) gb237 (Nat.le_of_eq hg.symm)) hb); have n1_ := Aside0.mk (blk_below (bk_ BK229) hb); have n2_ := Aside0.mk (blk_below (bk_ BK230) hb); have n3_ := Aside0.mk (blk_below (bk_ BK231) hb); have n4_ := Aside0.mk (blk_below (bk_ BK235) hb); have n5_ := Aside0.mk (below_step bs_ hb); have n6_ := Aside0.mk (hbox); have n7_ := Aside0.mk ((by rw [hg]; exact (below_size bs_) : w.heap.size ≤ gb237)); have n8_ := Aside0.mk ((by rw [hg]; exact (below_size bs_) : w.heap.size ≤ gb237)); have n9_ := Aside0.mk ((by rw [hg]; exact Nat.ne_of_lt (blk_lt (bk_ BK229)) : gb229 ≠ gb237)); have n10_ := Aside0.mk ((by rw [hg]; exact Nat.ne_of_gt (blk_lt (bk_ BK229)) : gb237 ≠ gb229)); have n11_ := Aside0.mk ((by rw [hg]; exact Nat.ne_of_lt (blk_lt (bk_ BK230)) : gb230 ≠ gb237)); have n12_ := Aside0.mk ((by rw [hg]; exact Nat.ne_of_gt (blk_lt (bk_ BK230)) : gb237 ≠ gb230)); have n13_ := Aside0.mk ((by rw [hg]; exact Nat.ne_of_lt (blk_lt (bk_ BK231)) : gb231 ≠ gb237)); have n14_ := Aside0.mk ((by rw [hg]; exact Nat.ne_of_gt (blk_lt (bk_ BK231)) : gb237 ≠ gb231)); have n15_ := Aside0.mk ((by rw [hg]; exact Nat.ne_of_lt (blk_lt (bk_ BK235)) : gb235 ≠ gb237)); have n16_ := Aside0.mk ((by rw [hg]; exact Nat.ne_of_gt (blk_lt (bk_ BK235)) : gb237 ≠ gb235)); clear HO_236001 BK229 BK230 BK231 BK235 HB; have HO_236001 := n0_; have BK229 := n1_; have BK230 := n2_; have BK231 := n3_; have BK235 := n4_; have HB := n5_; have BK237 := n6_; have GW237 := n7_; have GE237 := n8_; have NB229_237 := n9_; have NB237_229 := n10_; have NB230_237 := n11_; have NB237_230 := n12_; have NB231_237 := n13_; have NB237_231 := n14_; have NB235_237 := n15_; have NB237_235 := n16_; clear n0_ n1_ n2_ n3_ n4_ n5_ n6_ n7_ n8_ n9_ n10_ n11_ n12_ n13_ n14_ n15_ n16_; clear hb hbox hg; have hnb62 := NB237_229.out; have hnc62 := NB229_237.out; have hnb63 := NB237_230.out; have hnc63 := NB230_237.out; have hnb64 := NB237_231.out; have hnc64 := NB231_237.out; have hnb65 := NB237_235.out; have hnc65 := NB235_237.out; obtain ⟨hcz66_0, hcz66_1, hfz66_0, hfz66_1⟩ := blk2 BK237; have hnb67 := NB230_231.out; have hnc67 := NB231_230.out; have hnb68 := NB230_235.out; have hnc68 := NB235_230.out; obtain ⟨hcz69_0, hcz69_1, hfz69_0, hfz69_1⟩ := blk2 BK230; have hnb70 := NB235_231.out; have hnc70 := NB231_235.out; obtain ⟨hcz71_0, hcz71_1, hfz71_0, hfz71_1⟩ := blk2 BK235) | ((with_reducible refine gate_builtin (b := .append) (xs := #[.tmp 60, .tmp 62]) rfl ?_); at_builtin; refine Kd.R_append k26 (w0 := w) w.heap.size rfl (.tmp 60) (.tmp 62) 22 26 (.agg #[(.int .i64 0), (.int .i64 0)]) 16 rfl Try.underlying22 info26 rfl (by decide) (by omega) u236001 x236001_2 (⟨a2_0, a2_1⟩ : S26) [.int .i64 a2_0, .int .i64 a2_1] (fun k_ => k_ ≠ gb230 ∧ k_ ≠ gb237) (fun _ => False) rfl (by first | (go_simp; done) | (go_simp; rfl)) ?aP (fun _ hk => hk.elim) ?aF ?aO ?aB ?aS ?aL ?_; (case aP => exact k26_mkM _ _ _ (⟨a2_0, a2_1⟩ : S26)); (case aB => exact bs_); (case aF => exact (fun k_ hk => ⟨Kd.freshB (g := gb230) (o := .cells #[.int .i64 a2_0, .int .i64 a2_1] 26 (0, 0)) (bf_ BK230) k_ hk, Kd.freshB (g := gb237) (o := .cells #[.int .i64 a2_0, .int .i64 a2_1] 26 (0, 0)) (bp_ BK237) k_ hk⟩)); (case aO => exact (by (with_reducible repeat (first | apply Kd.R_alloc | apply Kd.R_drewN | apply Kd.R_drew)); exact Kd.R_mono (far2 gb237 (far2 gb237 (Kd.R_mono HO_236001.out (fun k_ hk => (⟨hk, hk.2⟩ : _ ∧ k_ ≠ gb237))) (fun _ hk => hk.2)) (fun _ hk => hk.2)) (fun _ hk => ⟨hk.1.1, hk.1.2⟩))); (case aS => exact (below_size bs_)); (case aL => have := LMc56.out; omega); intro v239 w72 ho hb hg hat; rw [← Ny238.out] at ho; have n0_ := Aside0.mk (blk_grown (g := gb229) (o := .cells #[.int .i64 a0_0, .slice (some ad236) l0_1.length c0_1] 24 (0, 0)) (bf_ BK229) hg (Kd.R_ne HO_236001.out BK229.out (by decide))); have n1_ := Aside0.mk (blk_grown (g := gb230) (o := .cells #[.int .i64 a2_0, .int .i64 a2_1] 26 (0, 0)) (bf_ BK230) hg (Kd.R_away HO_236001.out (fun _ hk => hk.1))); have n2_ := Aside0.mk (blk_grown (g := gb231) (o := .cells #[.int .i64 0, .slice none 0 0] 24 (0, 0)) (bf_ BK231) hg (Kd.R_ne HO_236001.out BK231.out (by decide))); have n3_ := Aside0.mk (blk_grown (g := gb235) (o := .cells #[.int .i64 (wrap64 (a3 + 1)), u236001] 24 (0, 0)) (bf_ BK235) hg (Kd.R_ne HO_236001.out BK235.out (by decide))); have n4_ := Aside0.mk (blk_grown (g := gb237) (o := .cells #[.int .i64 a2_0, .int .i64 a2_1] 26 (0, 0)) (bp_ BK237) hg (Kd.R_away HO_236001.out (fun _ hk => hk.2))); have n5_ := Aside0.mk (hb); have n6_ := Aside0.mk (ho); clear BK229 BK230 BK231 BK235 BK237 HB HO_236001; have BK229 := n0_; have BK230 := n1_; have BK231 := n2_; have BK235 := n3_; have BK237 := n4_; have HB := n5_; have HO240 := n6_; clear n0_ n1_ n2_ n3_ n4_ n5_ n6_; clear ho hb hg hat; obtain ⟨Ao73, co73, eo73⟩ := Kd.R_slice HO240.out; subst eo73; obtain ⟨hcz74_0, hcz74_1, hfz74_0, hfz74_1⟩ := blk2 BK235))
            go_roundg k2
            case measure => have := HJ20.out; have := HK2.out; omega
            case rel => exact ⟨(wrap64 (x12_2 + 1)), (y238), (.slice Ao73 y238.length co73), (by first | rfl | (simp; done) | (simp [*]; done)), H', ⟨by have := HJ20.out; have := HK2.out; omega⟩, ⟨by (with_reducible repeat (first | apply Kd.R_alloc | apply Kd.R_drewN | apply Kd.R_drew)); exact Kd.R_mono (Kd.R_far (p := ⟨gb235, 1, none⟩) (Kd.R_types HO240.out BK235.out (by decide)) (fun _ hk => hk.2) (.slice Ao73 y238.length co73)) (fun _ hk => by first | exact hk.1.1 | trivial)⟩, ⟨bf_ BK229⟩, ⟨bf_ BK230⟩, ⟨bf_ BK231⟩, ⟨bp_ BK235⟩, ⟨bs_⟩⟩
           ·rw [if_neg c56] at H
            exact absurd H (by simp)
          ·rw [if_neg c55] at H
           have c55b0 : (((rd_T26 l0_1 x12_2).f0) == a1) = false := beq_eq_false_iff_ne.mpr c55
           have c55b1 : (((rd_T26 l0_1 x12_2).f0) != a1) = true := bne_iff_ne.mpr c55
           by_cases c75 : x236001_2.length < 8796093022208
           ·rw [if_pos c75] at H
            have LMc75 := Aside0.mk c75
            clear c75
            obtain ⟨y241, hy241⟩ : ∃ y_ : List (S26), y_ = (x236001_2 ++ [(⟨(rd_T26 l0_1 x12_2).f0, (rd_T26 l0_1 x12_2).f1⟩ : S26)]) := ⟨_, rfl⟩
            replace H : (drydockref16_Swap.l0 k2 a1 (wrap64 (x12_2 + 1)) a0_0 l0_1 a2_0 a2_1 (wrap64 (a3 + 1)) y241) = some (r1, r2, r3) := by first | (rw [hy241]; with_reducible exact H) | (have H2_ := (Option.bind_some _ _).symm.trans H; rw [hy241]; with_reducible exact H2_) | (have H2_ := (Option.bind_some _ _).symm.trans H; with_reducible exact H2_) | with_reducible exact H | (rw [hy241]; exact H) | exact H
            have Ny241 := Aside0.mk hy241
            clear hy241
            have H' := Aside0.mk H
            clear H
            have hnb76 := NB229_230.out
            have hnc76 := NB230_229.out
            have hnb77 := NB229_231.out
            have hnc77 := NB231_229.out
            have hnb78 := NB229_235.out
            have hnc78 := NB235_229.out
            obtain ⟨hcz79_0, hcz79_1, hfz79_0, hfz79_1⟩ := blk2 BK229
            have p236 : 0 ≤ (x12_2 : Int) := of_decide_eq_true (by first | (with_reducible assumption) | assumption)
            have q236 : x12_2 < (l0_1.length : Int) := of_decide_eq_true (by first | (with_reducible assumption) | assumption)
            obtain ⟨ad236, e236, hx236_0, hx236_1⟩ := at_T26 HR0_1.out x12_2 p236 q236
            cases e236
            replace hx236_0 := (HB.out.cell (World.block_lt_of_cell? w _ hx236_0)).trans hx236_0
            replace hx236_1 := (HB.out.cell (World.block_lt_of_cell? w _ hx236_1)).trans hx236_1
            replace p236 := eq_true p236
            replace q236 := eq_true q236
            go_wp2_with (first | ((with_reducible refine gate_dst (N := 13) rfl ?_); refine box_event ?hg (N := 13) ?hd (cs := #[.int .i64 0, .int .i64 0]) (t := 26) ?hr ?_; (case hd => rfl); (case hg => rfl); (case hr => first | (go_simp; done) | (go_simp; rfl)); intro gb237 hg w80 hbox hb; have n0_ := Aside0.mk (Kd.R_below (Kd.R_elderB (rk_ HO_236001) gb237 (Nat.le_of_eq hg.symm)) hb); have n1_ := Aside0.mk (blk_below (bk_ BK229) hb); have n2_ := Aside0.mk (blk_below (bk_ BK230) hb); have n3_ := Aside0.mk (blk_below (bk_ BK231) hb); have n4_ := Aside0.mk (blk_below (bk_ BK235) hb); have n5_ := Aside0.mk (below_step bs_ hb); have n6_ := Aside0.mk (hbox); have n7_ := Aside0.mk ((by rw [hg]; exact (below_size bs_) : w.heap.size ≤ gb237)); have n8_ := Aside0.mk ((by rw [hg]; exact (below_size bs_) : w.heap.size ≤ gb237)); have n9_ := Aside0.mk ((by rw [hg]; exact Nat.ne_of_lt (blk_lt (bk_ BK229)) : gb229 ≠ gb237)); have n10_ := Aside0.mk ((by rw [hg]; exact Nat.ne_of_gt (blk_lt (bk_ BK229)) : gb237 ≠ gb229)); have n11_ := Aside0.mk ((by rw [hg]; exact Nat.ne_of_lt (blk_lt (bk_ BK230)) : gb230 ≠ gb237)); have n12_ := Aside0.mk ((by rw [hg]; exact Nat.ne_of_gt (blk_lt (bk_ BK230)) : gb237 ≠ gb230)); have n13_ := Aside0.mk ((by rw [hg]; exact Nat.ne_of_lt (blk_lt (bk_ BK231)) : gb231 ≠ gb237)); have n14_ := Aside0.mk ((by rw [hg]; exact Nat.ne_of_gt (blk_lt (bk_ BK231)) : gb237 ≠ gb231)); have n15_ := Aside0.mk ((by rw [hg]; exact Nat.ne_of_lt (blk_lt (bk_ BK235)) : gb235 ≠ gb237)); have n16_ := Aside0.mk ((by rw [hg]; exact Nat.ne_of_gt (blk_lt (bk_ BK235)) : gb237 ≠ gb235)); clear HO_236001 BK229 BK230 BK231 BK235 HB; have HO_236001 := n0_; have BK229 := n1_; have BK230 := n2_; have BK231 := n3_; have BK235 := n4_; have HB := n5_; have BK237 := n6_; have GW237 := n7_; have GE237 := n8_; have NB229_237 := n9_; have NB237_229 := n10_; have NB230_237 := n11_; have NB237_230 := n12_; have NB231_237 := n13_; have NB237_231 := n14_; have NB235_237 := n15_; have NB237_235 := n16_; clear n0_ n1_ n2_ n3_ n4_ n5_ n6_ n7_ n8_ n9_ n10_ n11_ n12_ n13_ n14_ n15_ n16_; clear hb hbox hg; have hnb81 := NB237_229.out; have hnc81 := NB229_237.out; have hnb82 := NB237_230.out; have hnc82 := NB230_237.out; have hnb83 := NB237_231.out; have hnc83 := NB231_237.out; have hnb84 := NB237_235.out; have hnc84 := NB235_237.out; obtain ⟨hcz85_0, hcz85_1, hfz85_0, hfz85_1⟩ := blk2 BK237; have hnb86 := NB235_230.out; have hnc86 := NB230_235.out; have hnb87 := NB235_231.out; have hnc87 := NB231_235.out; obtain ⟨hcz88_0, hcz88_1, hfz88_0, hfz88_1⟩ := blk2 BK235) | ((with_reducible refine gate_builtin (b := .append) (xs := #[.tmp 60, .tmp 62]) rfl ?_); at_builtin; refine Kd.R_append k26 (w0 := w) w.heap.size rfl (.tmp 60) (.tmp 62) 22 26 (.agg #[(.int .i64 0), (.int .i64 0)]) 16 rfl Try.underlying22 info26 rfl (by decide) (by omega) u236001 x236001_2 (⟨(rd_T26 l0_1 x12_2).f0, (rd_T26 l0_1 x12_2).f1⟩ : S26) [.int .i64 ((rd_T26 l0_1 x12_2).f0), .int .i64 ((rd_T26 l0_1 x12_2).f1)] (fun k_ => k_ ≠ gb230 ∧ k_ ≠ gb237) (fun _ => False) rfl (by first | (go_simp; done) | (go_simp; rfl)) ?aP (fun _ hk => hk.elim) ?aF ?aO ?aB ?aS ?aL ?_; (case aP => exact k26_mkM _ _ _ (⟨(rd_T26 l0_1 x12_2).f0, (rd_T26 l0_1 x12_2).f1⟩ : S26)); (case aB => exact bs_); (case aF => exact (fun k_ hk => ⟨Kd.freshB (g := gb230) (o := .cells #[.int .i64 a2_0, .int .i64 a2_1] 26 (0, 0)) (bf_ BK230) k_ hk, Kd.freshB (g := gb237) (o := .cells #[.int .i64 ((rd_T26 l0_1 x12_2).f0), .int .i64 ((rd_T26 l0_1 x12_2).f1)] 26 (0, 0)) (bp_ BK237) k_ hk⟩)); (case aO => exact (by (with_reducible repeat (first | apply Kd.R_alloc | apply Kd.R_drewN | apply Kd.R_drew)); exact Kd.R_mono (far2 gb237 (Kd.R_mono HO_236001.out (fun k_ hk => (⟨hk, hk.2⟩ : _ ∧ k_ ≠ gb237))) (fun _ hk => hk.2)) (fun _ hk => ⟨hk.1.1, hk.1.2⟩))); (case aS => exact (below_size bs_)); (case aL => have := LMc75.out; omega); intro v242 w89 ho hb hg hat; rw [← Ny241.out] at ho; have n0_ := Aside0.mk (blk_grown (g := gb229) (o := .cells #[.int .i64 a0_0, .slice (some ad236) l0_1.length c0_1] 24 (0, 0)) (bf_ BK229) hg (Kd.R_ne HO_236001.out BK229.out (by decide))); have n1_ := Aside0.mk (blk_grown (g := gb230) (o := .cells #[.int .i64 a2_0, .int .i64 a2_1] 26 (0, 0)) (bf_ BK230) hg (Kd.R_away HO_236001.out (fun _ hk => hk.1))); have n2_ := Aside0.mk (blk_grown (g := gb231) (o := .cells #[.int .i64 0, .slice none 0 0] 24 (0, 0)) (bf_ BK231) hg (Kd.R_ne HO_236001.out BK231.out (by decide))); have n3_ := Aside0.mk (blk_grown (g := gb235) (o := .cells #[.int .i64 (wrap64 (a3 + 1)), u236001] 24 (0, 0)) (bf_ BK235) hg (Kd.R_ne HO_236001.out BK235.out (by decide))); have n4_ := Aside0.mk (blk_grown (g := gb237) (o := .cells #[.int .i64 ((rd_T26 l0_1 x12_2).f0), .int .i64 ((rd_T26 l0_1 x12_2).f1)] 26 (0, 0)) (bp_ BK237) hg (Kd.R_away HO_236001.out (fun _ hk => hk.2))); have n5_ := Aside0.mk (hb); have n6_ := Aside0.mk (ho); clear BK229 BK230 BK231 BK235 BK237 HB HO_236001; have BK229 := n0_; have BK230 := n1_; have BK231 := n2_; have BK235 := n3_; have BK237 := n4_; have HB := n5_; have HO243 := n6_; clear n0_ n1_ n2_ n3_ n4_ n5_ n6_; clear ho hb hg hat; obtain ⟨Ao90, co90, eo90⟩ := Kd.R_slice HO243.out; subst eo90; obtain ⟨hcz91_0, hcz91_1, hfz91_0, hfz91_1⟩ := blk2 BK235))
            go_roundg k2
            case measure => have := HJ20.out; have := HK2.out; omega
            case rel => exact ⟨(wrap64 (x12_2 + 1)), (y241), (.slice Ao90 y241.length co90), (by first | rfl | (simp; done) | (simp [*]; done)), H', ⟨by have := HJ20.out; have := HK2.out; omega⟩, ⟨by (with_reducible repeat (first | apply Kd.R_alloc | apply Kd.R_drewN | apply Kd.R_drew)); exact Kd.R_mono (Kd.R_far (p := ⟨gb235, 1, none⟩) (Kd.R_types HO243.out BK235.out (by decide)) (fun _ hk => hk.2) (.slice Ao90 y241.length co90)) (fun _ hk => by first | exact hk.1.1 | trivial)⟩, ⟨bf_ BK229⟩, ⟨bf_ BK230⟩, ⟨bf_ BK231⟩, ⟨bp_ BK235⟩, ⟨bs_⟩⟩
           ·rw [if_neg c75] at H
            exact absurd H (by simp)
         ·rw [if_neg c54] at H
          exact absurd H (by simp)
        ·rw [if_neg c53] at H
         have c53b0 : decide (x12_2 < (l0_1.length : Int)) = false := decide_eq_false c53
         clear c53
         simp only [Option.some.injEq, Prod.mk.injEq] at H
         obtain ⟨rfl, rfl, rfl⟩ := H
         have hnb92 := NB229_230.out
         have hnc92 := NB230_229.out
         have hnb93 := NB229_231.out
         have hnc93 := NB231_229.out
         have hnb94 := NB229_235.out
         have hnc94 := NB235_229.out
         obtain ⟨hcz95_0, hcz95_1, hfz95_0, hfz95_1⟩ := blk2 BK229
         have hnb96 := NB235_230.out
         have hnc96 := NB230_235.out
         have hnb97 := NB235_231.out
         have hnc97 := NB231_235.out
         obtain ⟨hcz98_0, hcz98_1, hfz98_0, hfz98_1⟩ := blk2 BK235
         have hnb99 := NB231_230.out
         have hnc99 := NB230_231.out
         obtain ⟨hcz100_0, hcz100_1, hfz100_0, hfz100_1⟩ := blk2 BK231
         obtain ⟨Ao101, co101, eo101⟩ := Kd.R_slice HO_236001.out
         subst eo101
         go_wp2
         refine bodyPost_ret (results_ct rfl _ _ gb231 24 #[.int .i64 (wrap64 (a3 + 1)), .slice Ao101 x236001_2.length co101] (0, 0) _ rfl (bp_ BK231) Try.underlying24 rfl (by kernel_rfl)) rfl ?_
         exact ⟨_, by first | rfl | (simp [errW_none, errW_some] <;> rfl) | (simp [*, errW_none, errW_some] <;> rfl), by (with_reducible repeat (first | apply Kd.R_alloc | apply Kd.R_drewN | apply Kd.R_drew)); exact Kd.R_mono (far2 gb231 (Kd.R_types HO_236001.out BK231.out (by decide)) (fun _ hk => hk.2)) (fun _ hk => trivial), by repeat (first | (with_reducible first | exact HB.out | apply below_alloc | apply pw_below_drewN | apply below_drew1 | refine below_set ?_ GE229.out | refine below_set ?_ GE230.out | refine below_set ?_ GE231.out | refine below_set ?_ GE235.out) | exact HB.out)⟩
 ·rw [if_neg c6] at H
  have c6b0 : (t232 == 0) = false := beq_eq_false_iff_ne.mpr c6
  have c6b1 : (t232 != 0) = true := bne_iff_ne.mpr c6
  simp only [Option.some.injEq, Prod.mk.injEq] at H
  obtain ⟨rfl, rfl, rfl⟩ := H
  go_enter Try.func18, Try.ntmps18
  go_wp2_with (first | ((with_reducible refine gate_dst (N := 4) rfl ?_); refine box_event ?hg (N := 4) ?hd (cs := #[.int .i64 a0_0, .slice A0_1 l0_1.length c0_1]) (t := 24) ?hr ?_; (case hd => rfl); (case hg => rfl); (case hr => first | (go_simp; done) | (go_simp; rfl)); intro gb229 hg w102 hbox hb; have n0_ := Aside0.mk (below_step bs_ hb); have n1_ := Aside0.mk (hbox); have n2_ := Aside0.mk ((by rw [hg]; exact (below_size bs_) : w.heap.size ≤ gb229)); have n3_ := Aside0.mk ((by rw [hg]; exact (below_size bs_) : w.heap.size ≤ gb229)); clear HB; have HB := n0_; have BK229 := n1_; have GW229 := n2_; have GE229 := n3_; clear n0_ n1_ n2_ n3_; clear hb hbox hg) | ((with_reducible refine gate_dst (N := 6) rfl ?_); refine box_event ?hg (N := 6) ?hd (cs := #[.int .i64 a2_0, .int .i64 a2_1]) (t := 26) ?hr ?_; (case hd => rfl); (case hg => rfl); (case hr => first | (go_simp; done) | (go_simp; rfl)); intro gb230 hg w103 hbox hb; have n0_ := Aside0.mk (blk_below (bk_ BK229) hb); have n1_ := Aside0.mk (below_step bs_ hb); have n2_ := Aside0.mk (hbox); have n3_ := Aside0.mk ((by rw [hg]; exact (below_size bs_) : w.heap.size ≤ gb230)); have n4_ := Aside0.mk ((by rw [hg]; exact (below_size bs_) : w.heap.size ≤ gb230)); have n5_ := Aside0.mk ((by rw [hg]; exact Nat.ne_of_lt (blk_lt (bk_ BK229)) : gb229 ≠ gb230)); have n6_ := Aside0.mk ((by rw [hg]; exact Nat.ne_of_gt (blk_lt (bk_ BK229)) : gb230 ≠ gb229)); clear BK229 HB; have BK229 := n0_; have HB := n1_; have BK230 := n2_; have GW230 := n3_; have GE230 := n4_; have NB229_230 := n5_; have NB230_229 := n6_; clear n0_ n1_ n2_ n3_ n4_ n5_ n6_; clear hb hbox hg) | ((with_reducible refine gate_dst (N := 8) rfl ?_); refine box_event ?hg (N := 8) ?hd (cs := #[.int .i64 0, .slice none 0 0]) (t := 24) ?hr ?_; (case hd => rfl); (case hg => rfl); (case hr => first | (go_simp; done) | (go_simp; rfl)); intro gb231 hg w104 hbox hb; have n0_ := Aside0.mk (blk_below (bk_ BK229) hb); have n1_ := Aside0.mk (blk_below (bk_ BK230) hb); have n2_ := Aside0.mk (below_step bs_ hb); have n3_ := Aside0.mk (hbox); have n4_ := Aside0.mk ((by rw [hg]; exact (below_size bs_) : w.heap.size ≤ gb231)); have n5_ := Aside0.mk ((by rw [hg]; exact (below_size bs_) : w.heap.size ≤ gb231)); have n6_ := Aside0.mk ((by rw [hg]; exact Nat.ne_of_lt (blk_lt (bk_ BK229)) : gb229 ≠ gb231)); have n7_ := Aside0.mk ((by rw [hg]; exact Nat.ne_of_gt (blk_lt (bk_ BK229)) : gb231 ≠ gb229)); have n8_ := Aside0.mk ((by rw [hg]; exact Nat.ne_of_lt (blk_lt (bk_ BK230)) : gb230 ≠ gb231)); have n9_ := Aside0.mk ((by rw [hg]; exact Nat.ne_of_gt (blk_lt (bk_ BK230)) : gb231 ≠ gb230)); clear BK229 BK230 HB; have BK229 := n0_; have BK230 := n1_; have HB := n2_; have BK231 := n3_; have GW231 := n4_; have GE231 := n5_; have NB229_231 := n6_; have NB231_229 := n7_; have NB230_231 := n8_; have NB231_230 := n9_; clear n0_ n1_ n2_ n3_ n4_ n5_ n6_ n7_ n8_ n9_; clear hb hbox hg; have hnb105 := NB229_230.out; have hnc105 := NB230_229.out; have hnb106 := NB229_231.out; have hnc106 := NB231_229.out; obtain ⟨hcz107_0, hcz107_1, hfz107_0, hfz107_1⟩ := blk2 BK229; have hnb108 := NB230_231.out; have hnc108 := NB231_230.out; obtain ⟨hcz109_0, hcz109_1, hfz109_0, hfz109_1⟩ := blk2 BK230) | ((with_reducible refine gate_callee (f := 26) rfl ?_); refine goesL_ (some 17) rfl rfl Try.func26 (by kernel_rfl) rfl #[.agg #[.int .i64 a0_0, .slice A0_1 l0_1.length c0_1], .agg #[.int .i64 a2_0, .int .i64 a2_1], .int .i64 a3] rfl (by (try simp only [List.map_toArray, List.map_cons, List.map_nil]); first | done | rfl | (simp only [List.length_drop, List.length_take]; rfl)) ?_; (with_reducible refine (drydockref16_why.calls k a0_0 _ _ l0_1 a2_0 a2_1 a3 t232 _ ?side1 ?side2 A5.out).mono ?_); (case side1 => repeat (first | exact (Kd.C_below HR0_1.out HB.out) | (with_reducible refine Kd.C_alloc ?_ _) | (with_reducible refine Kd.C_drewN ?_ _) | (with_reducible refine Kd.C_drew ?_))); (case side2 => exact HC0_1.out); rintro e w110 ⟨rfl, hb⟩; refine ⟨_, rfl, ?_⟩; have n0_ := Aside0.mk (blk_below (bk_ BK229) hb); have n1_ := Aside0.mk (blk_below (bk_ BK230) hb); have n2_ := Aside0.mk (blk_below (bk_ BK231) hb); have n3_ := Aside0.mk (below_step bs_ hb); clear BK229 BK230 BK231 HB; have BK229 := n0_; have BK230 := n1_; have BK231 := n2_; have HB := n3_; clear n0_ n1_ n2_ n3_; (try clear hb); (try clear hb2); (try clear hk); (try clear hi); obtain ⟨hcz111_0, hcz111_1, hfz111_0, hfz111_1⟩ := blk2 BK231))
  refine bodyPost_ret (results_ct rfl _ _ gb231 24 #[.int .i64 0, .slice none 0 0] (0, 0) _ rfl (bp_ BK231) Try.underlying24 rfl (by kernel_rfl)) rfl ?_
  exact ⟨_, by first | rfl | (simp [errW_none, errW_some] <;> rfl) | (simp [*, errW_none, errW_some] <;> rfl), by first | exact Kd.R_nil _ _ _ _ _ | exact Kd.N_nil _ _ _ _ _ | exact Kd.V_nil _ _ _ _ _ | exact Kd.Q_nil _ _ _ _ _ | exact Kd.S_nil _ _ _ _ _, by repeat (first | (with_reducible first | exact HB.out | apply below_alloc | apply pw_below_drewN | apply below_drew1 | refine below_set ?_ GE229.out | refine below_set ?_ GE230.out | refine below_set ?_ GE231.out) | exact HB.out)⟩

end Go.Proofs.Ytoehingbhmaidaa.P
