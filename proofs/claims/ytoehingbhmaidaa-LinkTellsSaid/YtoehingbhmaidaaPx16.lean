-- Written by a program of this session over the kit's print of the translation. Lean checks it.
import Derived.Test.YtoehingbhmaidaaPx0
import Derived.Test.YtoehingbhmaidaaPx4
import Derived.Test.YtoehingbhmaidaaHClone
import Derived.Test.YtoehingbhmaidaaHFind
-- shorter
namespace Go.Proofs.Ytoehingbhmaidaa.P
open Go.RowKit Go.Proofs.YtoehingbhmaidaaW.PrintWords Go.Proofs.YtoehingbhmaidaaW.PrintLast Go.Proofs.YtoehingbhmaidaaW.PrintMore
attribute [local go_sem] max2_int min2_int max_two min_two max_three min_three max_four min_four   -- for this text's walks alone
set_option linter.unusedVariables false
set_option linter.unusedSimpArgs false

/-! ### link_Swap: function 17 -/
def link_Swap.f (k : Nat) (a0_0 : Int) (l0_1 : List (S26)) (a1 : Int) (a2_0 : Int) (a2_1 : Int) (a3 : Int) : Option (Int × (List (S26)) × Int) := (link_may.f k a0_0 l0_1 a2_0 a2_1 a3).bind fun t218 => (if t218 = 0 then ((link_find.f a0_0 l0_1 a1).bind fun t219 => ((link_find.f a0_0 l0_1 a2_0).bind fun t220 => (if t219 < 0 then (some (0, ([] : List (S26)), 3)) else (if t220 ≥ 0 then (if t220 = t219 then ((api_Link_29.f l0_1).bind fun t221 => (if 0 ≤ t219 then (if t219 < (t221.length : Int) then (some (wrap64 (a3 + 1), (t221.set (t219 : Int).toNat (⟨a2_0, a2_1⟩ : S26)), 0)) else (none)) else (none))) else (some (0, ([] : List (S26)), 1))) else ((api_Link_29.f l0_1).bind fun t225 => (if 0 ≤ t219 then (if t219 < (t225.length : Int) then (some (wrap64 (a3 + 1), (t225.set (t219 : Int).toNat (⟨a2_0, a2_1⟩ : S26)), 0)) else (none)) else (none))))))) else (some (0, ([] : List (S26)), t218)))
theorem link_Swap.mono : ∀ a0 a1 a2 a3 a4 a5 k, LeO (link_Swap.f k a0 a1 a2 a3 a4 a5) (link_Swap.f (k + 1) a0 a1 a2 a3 a4 a5) := by
 intro a0 a1 a2 a3 a4 a5 k
 unfold link_Swap.f
 repeat' first
  | (with_reducible exact link_may.mono _ _ _ _ _ _)
  | (with_reducible exact LeO.refl _)
  | (with_reducible exact LeO.none _)
  | (with_reducible refine LeO.ite ?_ ?_)
  | (with_reducible refine LeO.bind ?_ (fun _ => ?_))
  | exact link_may.mono _ _ _ _ _ _
  | exact LeO.none _
  | refine LeO.ite ?_ ?_
  | refine LeO.bind ?_ (fun _ => ?_)
def link_Swap.T4 : Bool × List (List Nat × List Nat) := (true, [([], []), ([], []), ([0, 1], [0, 1]), ([], []), ([], []), ([4], [4]), ([3, 5, 2], [3, 5]), ([2, 6, 0, 1, 2], [2]), ([6, 7, 0, 1, 2, 3, 4, 5, 6, 7], [6])])
def link_Swap.B4 : List Nat := [0, 0, 3, 0, 0, 16, 63, 127, 255]
theorem link_Swap.tab4 : rtab .any (opsOf Try.f17 4) = link_Swap.T4 := by kernel_rfl
theorem link_Swap.bits4 : waitsOk link_Swap.T4.2 link_Swap.B4 = true := by kernel_rfl
set_option maxHeartbeats 8000000 in
set_option maxRecDepth 100000 in
theorem link_Swap.calls (k : Nat) (a0_0 : Int) (A0_1 : Option Addr) (c0_1 : Nat) (l0_1 : List (S26)) (a1 : Int) (a2_0 : Int) (a2_1 : Int) (a3 : Int) (r1 : Int) (r2 : List (S26)) (r3 : Int) (w : World) (hr0_1 : Kd.C k26 w A0_1 l0_1.length l0_1) (hc0_1 : l0_1.length ≤ c0_1) (h : link_Swap.f k a0_0 l0_1 a1 a2_0 a2_1 a3 = some (r1, r2, r3)) :
    Calls Try.prog 17 #[.agg #[.int .i64 a0_0, .slice A0_1 l0_1.length c0_1], .int .i64 a1, .agg #[.int .i64 a2_0, .int .i64 a2_1], .int .i64 a3] w fun e w' => ∃ v1_ : Value, e = .returned (.tuple #[.agg #[.int .i64 r1, v1_], .int .i64 r3]) ∧ Kd.R k26 26 w' w.heap.size (fun _ => True) v1_ r2 ∧ Below w.heap.size w w' := by
 have hu24 := Try.underlying24
 have hu26 := Try.underlying26
 have HR0_1 := Aside0.mk hr0_1
 have HC0_1 := Aside0.mk hc0_1
 clear hr0_1 hc0_1
 have HB := Aside0.mk (Below.refl w.heap.size w)
 have H : ((link_may.f k a0_0 l0_1 a2_0 a2_1 a3).bind fun t218 => (if t218 = 0 then ((link_find.f a0_0 l0_1 a1).bind fun t219 => ((link_find.f a0_0 l0_1 a2_0).bind fun t220 => (if t219 < 0 then (some (0, ([] : List (S26)), 3)) else (if t220 ≥ 0 then (if t220 = t219 then ((api_Link_29.f l0_1).bind fun t221 => (if 0 ≤ t219 then (if t219 < (t221.length : Int) then (some (wrap64 (a3 + 1), (t221.set (t219 : Int).toNat (⟨a2_0, a2_1⟩ : S26)), 0)) else (none)) else (none))) else (some (0, ([] : List (S26)), 1))) else ((api_Link_29.f l0_1).bind fun t225 => (if 0 ≤ t219 then (if t219 < (t225.length : Int) then (some (wrap64 (a3 + 1), (t225.set (t219 : Int).toNat (⟨a2_0, a2_1⟩ : S26)), 0)) else (none)) else (none))))))) else (some (0, ([] : List (S26)), t218)))) = some (r1, r2, r3) := h
 clear h
 replace H := Option.bind_eq_some_iff.mp H
 obtain ⟨t218, A50, H⟩ := H
 replace H : (if t218 = 0 then ((link_find.f a0_0 l0_1 a1).bind fun t219 => ((link_find.f a0_0 l0_1 a2_0).bind fun t220 => (if t219 < 0 then (some (0, ([] : List (S26)), 3)) else (if t220 ≥ 0 then (if t220 = t219 then ((api_Link_29.f l0_1).bind fun t221 => (if 0 ≤ t219 then (if t219 < (t221.length : Int) then (some (wrap64 (a3 + 1), (t221.set (t219 : Int).toNat (⟨a2_0, a2_1⟩ : S26)), 0)) else (none)) else (none))) else (some (0, ([] : List (S26)), 1))) else ((api_Link_29.f l0_1).bind fun t225 => (if 0 ≤ t219 then (if t219 < (t225.length : Int) then (some (wrap64 (a3 + 1), (t225.set (t219 : Int).toNat (⟨a2_0, a2_1⟩ : S26)), 0)) else (none)) else (none))))))) else (some (0, ([] : List (S26)), t218))) = some (r1, r2, r3) := H
 have A5 := Aside0.mk A50
 clear A50
 by_cases c6 : t218 = 0
 ·rw [if_pos c6] at H
  have c6b0 : (t218 == 0) = true := beq_iff_eq.mpr c6
  have c6b1 : (t218 != 0) = false := bne_eq_false_iff_eq.mpr c6
  clear c6
  replace H := Option.bind_eq_some_iff.mp H
  obtain ⟨t219, A70, H⟩ := H
  replace H : ((link_find.f a0_0 l0_1 a2_0).bind fun t220 => (if t219 < 0 then (some (0, ([] : List (S26)), 3)) else (if t220 ≥ 0 then (if t220 = t219 then ((api_Link_29.f l0_1).bind fun t221 => (if 0 ≤ t219 then (if t219 < (t221.length : Int) then (some (wrap64 (a3 + 1), (t221.set (t219 : Int).toNat (⟨a2_0, a2_1⟩ : S26)), 0)) else (none)) else (none))) else (some (0, ([] : List (S26)), 1))) else ((api_Link_29.f l0_1).bind fun t225 => (if 0 ≤ t219 then (if t219 < (t225.length : Int) then (some (wrap64 (a3 + 1), (t225.set (t219 : Int).toNat (⟨a2_0, a2_1⟩ : S26)), 0)) else (none)) else (none)))))) = some (r1, r2, r3) := H
  have A7 := Aside0.mk A70
  clear A70
  replace H := Option.bind_eq_some_iff.mp H
  obtain ⟨t220, A80, H⟩ := H
  replace H : (if t219 < 0 then (some (0, ([] : List (S26)), 3)) else (if t220 ≥ 0 then (if t220 = t219 then ((api_Link_29.f l0_1).bind fun t221 => (if 0 ≤ t219 then (if t219 < (t221.length : Int) then (some (wrap64 (a3 + 1), (t221.set (t219 : Int).toNat (⟨a2_0, a2_1⟩ : S26)), 0)) else (none)) else (none))) else (some (0, ([] : List (S26)), 1))) else ((api_Link_29.f l0_1).bind fun t225 => (if 0 ≤ t219 then (if t219 < (t225.length : Int) then (some (wrap64 (a3 + 1), (t225.set (t219 : Int).toNat (⟨a2_0, a2_1⟩ : S26)), 0)) else (none)) else (none))))) = some (r1, r2, r3) := H
  have A8 := Aside0.mk A80
  clear A80
  by_cases c9 : t219 < 0
  ·rw [if_pos c9] at H
   have c9b0 : decide (t219 < 0) = true := decide_eq_true c9
   clear c9
   simp only [Option.some.injEq, Prod.mk.injEq] at H
   obtain ⟨rfl, rfl, rfl⟩ := H
   go_enter Try.func17, Try.ntmps17
   try go_wp2_with (first | ((with_reducible refine gate_dst (N := 4) rfl ?_); refine box_event ?hg (N := 4) ?hd (cs := #[.int .i64 a0_0, .slice A0_1 l0_1.length c0_1]) (t := 24) ?hr ?_; (case hd => rfl); (case hg => rfl); (case hr => first | (go_simp; done) | (go_simp; rfl)); intro gb215 hg w10 hbox hb; have n0_ := Aside0.mk (below_step bs_ hb); have n1_ := Aside0.mk (hbox); have n2_ := Aside0.mk ((by rw [hg]; exact (below_size bs_) : w.heap.size ≤ gb215)); have n3_ := Aside0.mk ((by rw [hg]; exact (below_size bs_) : w.heap.size ≤ gb215)); clear HB; have HB := n0_; have BK215 := n1_; have GW215 := n2_; have GE215 := n3_; clear n0_ n1_ n2_ n3_; clear hb hbox hg) | ((with_reducible refine gate_dst (N := 6) rfl ?_); refine box_event ?hg (N := 6) ?hd (cs := #[.int .i64 a2_0, .int .i64 a2_1]) (t := 26) ?hr ?_; (case hd => rfl); (case hg => rfl); (case hr => first | (go_simp; done) | (go_simp; rfl)); intro gb216 hg w11 hbox hb; have n0_ := Aside0.mk (blk_below (bk_ BK215) hb); have n1_ := Aside0.mk (below_step bs_ hb); have n2_ := Aside0.mk (hbox); have n3_ := Aside0.mk ((by rw [hg]; exact (below_size bs_) : w.heap.size ≤ gb216)); have n4_ := Aside0.mk ((by rw [hg]; exact (below_size bs_) : w.heap.size ≤ gb216)); have n5_ := Aside0.mk ((by rw [hg]; exact Nat.ne_of_lt (blk_lt (bk_ BK215)) : gb215 ≠ gb216)); have n6_ := Aside0.mk ((by rw [hg]; exact Nat.ne_of_gt (blk_lt (bk_ BK215)) : gb216 ≠ gb215)); clear BK215 HB; have BK215 := n0_; have HB := n1_; have BK216 := n2_; have GW216 := n3_; have GE216 := n4_; have NB215_216 := n5_; have NB216_215 := n6_; clear n0_ n1_ n2_ n3_ n4_ n5_ n6_; clear hb hbox hg) | ((with_reducible refine gate_dst (N := 8) rfl ?_); refine box_event ?hg (N := 8) ?hd (cs := #[.int .i64 0, .slice none 0 0]) (t := 24) ?hr ?_; (case hd => rfl); (case hg => rfl); (case hr => first | (go_simp; done) | (go_simp; rfl)); intro gb217 hg w12 hbox hb; have n0_ := Aside0.mk (blk_below (bk_ BK215) hb); have n1_ := Aside0.mk (blk_below (bk_ BK216) hb); have n2_ := Aside0.mk (below_step bs_ hb); have n3_ := Aside0.mk (hbox); have n4_ := Aside0.mk ((by rw [hg]; exact (below_size bs_) : w.heap.size ≤ gb217)); have n5_ := Aside0.mk ((by rw [hg]; exact (below_size bs_) : w.heap.size ≤ gb217)); have n6_ := Aside0.mk ((by rw [hg]; exact Nat.ne_of_lt (blk_lt (bk_ BK215)) : gb215 ≠ gb217)); have n7_ := Aside0.mk ((by rw [hg]; exact Nat.ne_of_gt (blk_lt (bk_ BK215)) : gb217 ≠ gb215)); have n8_ := Aside0.mk ((by rw [hg]; exact Nat.ne_of_lt (blk_lt (bk_ BK216)) : gb216 ≠ gb217)); have n9_ := Aside0.mk ((by rw [hg]; exact Nat.ne_of_gt (blk_lt (bk_ BK216)) : gb217 ≠ gb216)); clear BK215 BK216 HB; have BK215 := n0_; have BK216 := n1_; have HB := n2_; have BK217 := n3_; have GW217 := n4_; have GE217 := n5_; have NB215_217 := n6_; have NB217_215 := n7_; have NB216_217 := n8_; have NB217_216 := n9_; clear n0_ n1_ n2_ n3_ n4_ n5_ n6_ n7_ n8_ n9_; clear hb hbox hg; have hnb13 := NB215_216.out; have hnc13 := NB216_215.out; have hnb14 := NB215_217.out; have hnc14 := NB217_215.out; obtain ⟨hcz15_0, hcz15_1, hfz15_0, hfz15_1⟩ := blk2 BK215; have hnb16 := NB216_217.out; have hnc16 := NB217_216.out; obtain ⟨hcz17_0, hcz17_1, hfz17_0, hfz17_1⟩ := blk2 BK216) | ((with_reducible refine gate_callee (f := 23) rfl ?_); refine goesL_ (some 17) rfl rfl Try.func23 (by kernel_rfl) rfl #[.agg #[.int .i64 a0_0, .slice A0_1 l0_1.length c0_1], .agg #[.int .i64 a2_0, .int .i64 a2_1], .int .i64 a3] rfl (by (try simp only [List.map_toArray, List.map_cons, List.map_nil]); first | done | rfl | (simp only [List.length_drop, List.length_take]; rfl)) ?_; (with_reducible refine (link_may.calls k a0_0 _ _ l0_1 a2_0 a2_1 a3 t218 _ ?side1 ?side2 A5.out).mono ?_); (case side1 => repeat (first | exact (Kd.C_below HR0_1.out HB.out) | (with_reducible refine Kd.C_alloc ?_ _) | (with_reducible refine Kd.C_drewN ?_ _) | (with_reducible refine Kd.C_drew ?_))); (case side2 => exact HC0_1.out); rintro e w18 ⟨rfl, hb⟩; refine ⟨_, rfl, ?_⟩; have n0_ := Aside0.mk (blk_below (bk_ BK215) hb); have n1_ := Aside0.mk (blk_below (bk_ BK216) hb); have n2_ := Aside0.mk (blk_below (bk_ BK217) hb); have n3_ := Aside0.mk (below_step bs_ hb); clear BK215 BK216 BK217 HB; have BK215 := n0_; have BK216 := n1_; have BK217 := n2_; have HB := n3_; clear n0_ n1_ n2_ n3_; (try clear hb); (try clear hb2); (try clear hk); (try clear hi)))
   have n0_ := Aside0.mk (blk_drew BK215.out)
   have n1_ := Aside0.mk (blk_drew BK216.out)
   have n2_ := Aside0.mk (blk_drew BK217.out)
   have n3_ := Aside0.mk (below_drew1 HB.out)
   clear BK215
   clear BK216
   clear BK217
   clear HB
   have BK215 := n0_
   have BK216 := n1_
   have BK217 := n2_
   have HB := n3_
   clear n0_ n1_ n2_ n3_
   refine start_ (n := 9) (S := fun w' => w'.cell? ⟨gb215, 0, none⟩ = some (.int .i64 a0_0) ∧ w'.cell? ⟨gb215, 1, none⟩ = some (.slice A0_1 l0_1.length c0_1) ∧ w'.cell? ⟨gb216, 0, none⟩ = some (.int .i64 a2_0) ∧ w'.cell? ⟨gb216, 1, none⟩ = some (.int .i64 a2_1)) (ds := []) #[false, false, false, false, false, false, false, false, false] (by kernel_rfl) rfl rfl ⟨(blk_cell BK215.out 0).trans rfl, (blk_cell BK215.out 1).trans rfl, (blk_cell BK216.out 0).trans rfl, (blk_cell BK216.out 1).trans rfl⟩ (fun hHeld => ?_); refine with_tabW link_Swap.tab4 link_Swap.bits4 (fun HT_ HW_ => ?_)
   generalize w18.drew = w19 at BK215 BK216 BK217 HB hHeld ⊢
   refine pv_ 1 (some 23) HT_ (h := ?_)
   refine pv_ 4 (some 26) HT_ (h := ?_)
   refine tk_ 0 (some 22) HT_ HW_ hHeld (h := ?_)
   refine tk_ 3 (some 25) HT_ HW_ hHeld (h := ?_)
   refine tk_ 5 (some 27) HT_ HW_ hHeld (h := ?_)
   refine one_ (i := 2) (N := some 24) #[true, true, true, true, true, true, false, false, false] rfl rfl (one_of HT_.out (by kernel_rfl)) (by decide) (fun K hK => ?_)
   refine goes_ Try.func24 (by kernel_rfl) rfl #[.agg #[.int .i64 a0_0, .slice A0_1 l0_1.length c0_1], .int .i64 a1] (by rfl) rfl rfl (by (try simp only [List.map_toArray, List.map_cons, List.map_nil]); first | done | rfl | (simp only [List.length_drop, List.length_take]; rfl)) ?_
   with_reducible refine (link_find.calls a0_0 _ _ l0_1 a1 t219 _ ?side1 ?side2 A7.out).mono ?_
   (case side1 => repeat (first | exact (Kd.C_below HR0_1.out HB.out) | (with_reducible refine Kd.C_alloc ?_ _) | (with_reducible refine Kd.C_drewN ?_ _) | (with_reducible refine Kd.C_drew ?_)))
   (case side2 => exact HC0_1.out)
   rintro e w20 ⟨rfl, hb⟩
   refine ⟨_, rfl, ?_⟩
   have n0_ := Aside0.mk (blk_below (bk_ BK215) hb)
   have n1_ := Aside0.mk (blk_below (bk_ BK216) hb)
   have n2_ := Aside0.mk (blk_below (bk_ BK217) hb)
   have n3_ := Aside0.mk (below_step bs_ hb)
   clear BK215
   clear BK216
   clear BK217
   clear HB
   have BK215 := n0_
   have BK216 := n1_
   have BK217 := n2_
   have HB := n3_
   clear n0_ n1_ n2_ n3_
   (try clear hb)
   (try clear hb2)
   (try clear hk)
   (try clear hi)
   refine hK.out _ _ ⟨(blk_cell BK215.out 0).trans rfl, (blk_cell BK215.out 1).trans rfl, (blk_cell BK216.out 0).trans rfl, (blk_cell BK216.out 1).trans rfl⟩ (fun hHeld => ?_)
   clear hK K
   refine norm_ (a' := ?_) ?_ ?_
   rotate_left
   ·show Act.put _ (some 24) _ = _
    simp only [Act.put, List.setIfInBounds_toArray, List.set_cons_zero, List.set_cons_succ, i64_w, i32_w]
    rfl
   refine one_ (i := 6) (N := some 28) #[true, true, true, true, true, true, true, false, false] rfl rfl (one_of HT_.out (by kernel_rfl)) (by decide) (fun K hK => ?_)
   refine goes_ Try.func24 (by kernel_rfl) rfl #[.agg #[.int .i64 a0_0, .slice A0_1 l0_1.length c0_1], .int .i64 a2_0] (by rfl) rfl rfl (by (try simp only [List.map_toArray, List.map_cons, List.map_nil]); first | done | rfl | (simp only [List.length_drop, List.length_take]; rfl)) ?_
   with_reducible refine (link_find.calls a0_0 _ _ l0_1 a2_0 t220 _ ?side1 ?side2 A8.out).mono ?_
   (case side1 => repeat (first | exact (Kd.C_below HR0_1.out HB.out) | (with_reducible refine Kd.C_alloc ?_ _) | (with_reducible refine Kd.C_drewN ?_ _) | (with_reducible refine Kd.C_drew ?_)))
   (case side2 => exact HC0_1.out)
   rintro e w21 ⟨rfl, hb⟩
   refine ⟨_, rfl, ?_⟩
   have n0_ := Aside0.mk (blk_below (bk_ BK215) hb)
   have n1_ := Aside0.mk (blk_below (bk_ BK216) hb)
   have n2_ := Aside0.mk (blk_below (bk_ BK217) hb)
   have n3_ := Aside0.mk (below_step bs_ hb)
   clear BK215
   clear BK216
   clear BK217
   clear HB
   have BK215 := n0_
   have BK216 := n1_
   have BK217 := n2_
   have HB := n3_
   clear n0_ n1_ n2_ n3_
   (try clear hb)
   (try clear hb2)
   (try clear hk)
   (try clear hi)
   refine hK.out _ _ ⟨(blk_cell BK215.out 0).trans rfl, (blk_cell BK215.out 1).trans rfl, (blk_cell BK216.out 0).trans rfl, (blk_cell BK216.out 1).trans rfl⟩ (fun hHeld => ?_)
   clear hK K
   refine norm_ (a' := ?_) ?_ ?_
   rotate_left
   ·show Act.put _ (some 28) _ = _
    simp only [Act.put, List.setIfInBounds_toArray, List.set_cons_zero, List.set_cons_succ, i64_w, i32_w]
    rfl
   refine pv_ 7 (some 11) HT_ (h := ?_)
   refine pv_ 8 (some 12) HT_ (h := ?_)
   refine done_ (done_of HT_.out (by kernel_rfl)) ?_
   obtain ⟨hcz22_0, hcz22_1, hfz22_0, hfz22_1⟩ := blk2 BK217
   try go_wp2
   refine bodyPost_ret (results_ct rfl _ _ gb217 24 #[.int .i64 0, .slice none 0 0] (0, 0) _ rfl (bp_ BK217) Try.underlying24 rfl (by kernel_rfl)) rfl ?_
   exact ⟨_, by first | rfl | (simp [errW_none, errW_some] <;> rfl) | (simp [*, errW_none, errW_some] <;> rfl), by first | exact Kd.R_nil _ _ _ _ _ | exact Kd.N_nil _ _ _ _ _ | exact Kd.V_nil _ _ _ _ _ | exact Kd.Q_nil _ _ _ _ _ | exact Kd.S_nil _ _ _ _ _, by repeat (first | (with_reducible first | exact HB.out | apply below_alloc | apply pw_below_drewN | apply below_drew1 | refine below_set ?_ GE215.out | refine below_set ?_ GE216.out | refine below_set ?_ GE217.out) | exact HB.out)⟩
  ·rw [if_neg c9] at H
   have c9b0 : decide (t219 < 0) = false := decide_eq_false c9
   clear c9
   by_cases c23 : t220 ≥ 0
   ·rw [if_pos c23] at H
    have c23b0 : decide (0 ≤ t220) = true := decide_eq_true c23
    clear c23
    by_cases c24 : t220 = t219
    ·rw [if_pos c24] at H
     have c24b0 : (t220 == t219) = true := beq_iff_eq.mpr c24
     have c24b1 : (t220 != t219) = false := bne_eq_false_iff_eq.mpr c24
     clear c24
     replace H := Option.bind_eq_some_iff.mp H
     obtain ⟨t221, A250, H⟩ := H
     replace H : (if 0 ≤ t219 then (if t219 < (t221.length : Int) then (some (wrap64 (a3 + 1), (t221.set (t219 : Int).toNat (⟨a2_0, a2_1⟩ : S26)), 0)) else (none)) else (none)) = some (r1, r2, r3) := H
     have A25 := Aside0.mk A250
     clear A250
     by_cases c26 : 0 ≤ t219
     ·rw [if_pos c26] at H
      have c26b0 : decide (0 ≤ t219) = true := decide_eq_true c26
      clear c26
      by_cases c27 : t219 < (t221.length : Int)
      ·rw [if_pos c27] at H
       have c27b0 : decide (t219 < (t221.length : Int)) = true := decide_eq_true c27
       clear c27
       obtain ⟨y224, hy224⟩ : ∃ y_ : List (S26), y_ = (t221.set (t219 : Int).toNat (⟨a2_0, a2_1⟩ : S26)) := ⟨_, rfl⟩
       replace H : (some (wrap64 (a3 + 1), y224, 0)) = some (r1, r2, r3) := by first | (rw [hy224]; with_reducible exact H) | (have H2_ := (Option.bind_some _ _).symm.trans H; rw [hy224]; with_reducible exact H2_) | (have H2_ := (Option.bind_some _ _).symm.trans H; with_reducible exact H2_) | with_reducible exact H | (rw [hy224]; exact H) | exact H
       have Ny224 := Aside0.mk hy224
       clear hy224
       simp only [Option.some.injEq, Prod.mk.injEq] at H
       obtain ⟨rfl, rfl, rfl⟩ := H
       go_enter Try.func17, Try.ntmps17
       try go_wp2_with (first | ((with_reducible refine gate_dst (N := 4) rfl ?_); refine box_event ?hg (N := 4) ?hd (cs := #[.int .i64 a0_0, .slice A0_1 l0_1.length c0_1]) (t := 24) ?hr ?_; (case hd => rfl); (case hg => rfl); (case hr => first | (go_simp; done) | (go_simp; rfl)); intro gb215 hg w29 hbox hb; have n0_ := Aside0.mk (below_step bs_ hb); have n1_ := Aside0.mk (hbox); have n2_ := Aside0.mk ((by rw [hg]; exact (below_size bs_) : w.heap.size ≤ gb215)); have n3_ := Aside0.mk ((by rw [hg]; exact (below_size bs_) : w.heap.size ≤ gb215)); clear HB; have HB := n0_; have BK215 := n1_; have GW215 := n2_; have GE215 := n3_; clear n0_ n1_ n2_ n3_; clear hb hbox hg) | ((with_reducible refine gate_dst (N := 6) rfl ?_); refine box_event ?hg (N := 6) ?hd (cs := #[.int .i64 a2_0, .int .i64 a2_1]) (t := 26) ?hr ?_; (case hd => rfl); (case hg => rfl); (case hr => first | (go_simp; done) | (go_simp; rfl)); intro gb216 hg w30 hbox hb; have n0_ := Aside0.mk (blk_below (bk_ BK215) hb); have n1_ := Aside0.mk (below_step bs_ hb); have n2_ := Aside0.mk (hbox); have n3_ := Aside0.mk ((by rw [hg]; exact (below_size bs_) : w.heap.size ≤ gb216)); have n4_ := Aside0.mk ((by rw [hg]; exact (below_size bs_) : w.heap.size ≤ gb216)); have n5_ := Aside0.mk ((by rw [hg]; exact Nat.ne_of_lt (blk_lt (bk_ BK215)) : gb215 ≠ gb216)); have n6_ := Aside0.mk ((by rw [hg]; exact Nat.ne_of_gt (blk_lt (bk_ BK215)) : gb216 ≠ gb215)); clear BK215 HB; have BK215 := n0_; have HB := n1_; have BK216 := n2_; have GW216 := n3_; have GE216 := n4_; have NB215_216 := n5_; have NB216_215 := n6_; clear n0_ n1_ n2_ n3_ n4_ n5_ n6_; clear hb hbox hg) | ((with_reducible refine gate_dst (N := 8) rfl ?_); refine box_event ?hg (N := 8) ?hd (cs := #[.int .i64 0, .slice none 0 0]) (t := 24) ?hr ?_; (case hd => rfl); (case hg => rfl); (case hr => first | (go_simp; done) | (go_simp; rfl)); intro gb217 hg w31 hbox hb; have n0_ := Aside0.mk (blk_below (bk_ BK215) hb); have n1_ := Aside0.mk (blk_below (bk_ BK216) hb); have n2_ := Aside0.mk (below_step bs_ hb); have n3_ := Aside0.mk (hbox); have n4_ := Aside0.mk ((by rw [hg]; exact (below_size bs_) : w.heap.size ≤ gb217)); have n5_ := Aside0.mk ((by rw [hg]; exact (below_size bs_) : w.heap.size ≤ gb217)); have n6_ := Aside0.mk ((by rw [hg]; exact Nat.ne_of_lt (blk_lt (bk_ BK215)) : gb215 ≠ gb217)); have n7_ := Aside0.mk ((by rw [hg]; exact Nat.ne_of_gt (blk_lt (bk_ BK215)) : gb217 ≠ gb215)); have n8_ := Aside0.mk ((by rw [hg]; exact Nat.ne_of_lt (blk_lt (bk_ BK216)) : gb216 ≠ gb217)); have n9_ := Aside0.mk ((by rw [hg]; exact Nat.ne_of_gt (blk_lt (bk_ BK216)) : gb217 ≠ gb216)); clear BK215 BK216 HB; have BK215 := n0_; have BK216 := n1_; have HB := n2_; have BK217 := n3_; have GW217 := n4_; have GE217 := n5_; have NB215_217 := n6_; have NB217_215 := n7_; have NB216_217 := n8_; have NB217_216 := n9_; clear n0_ n1_ n2_ n3_ n4_ n5_ n6_ n7_ n8_ n9_; clear hb hbox hg; have hnb32 := NB215_216.out; have hnc32 := NB216_215.out; have hnb33 := NB215_217.out; have hnc33 := NB217_215.out; obtain ⟨hcz34_0, hcz34_1, hfz34_0, hfz34_1⟩ := blk2 BK215; have hnb35 := NB216_217.out; have hnc35 := NB217_216.out; obtain ⟨hcz36_0, hcz36_1, hfz36_0, hfz36_1⟩ := blk2 BK216) | ((with_reducible refine gate_callee (f := 23) rfl ?_); refine goesL_ (some 17) rfl rfl Try.func23 (by kernel_rfl) rfl #[.agg #[.int .i64 a0_0, .slice A0_1 l0_1.length c0_1], .agg #[.int .i64 a2_0, .int .i64 a2_1], .int .i64 a3] rfl (by (try simp only [List.map_toArray, List.map_cons, List.map_nil]); first | done | rfl | (simp only [List.length_drop, List.length_take]; rfl)) ?_; (with_reducible refine (link_may.calls k a0_0 _ _ l0_1 a2_0 a2_1 a3 t218 _ ?side1 ?side2 A5.out).mono ?_); (case side1 => repeat (first | exact (Kd.C_below HR0_1.out HB.out) | (with_reducible refine Kd.C_alloc ?_ _) | (with_reducible refine Kd.C_drewN ?_ _) | (with_reducible refine Kd.C_drew ?_))); (case side2 => exact HC0_1.out); rintro e w37 ⟨rfl, hb⟩; refine ⟨_, rfl, ?_⟩; have n0_ := Aside0.mk (blk_below (bk_ BK215) hb); have n1_ := Aside0.mk (blk_below (bk_ BK216) hb); have n2_ := Aside0.mk (blk_below (bk_ BK217) hb); have n3_ := Aside0.mk (below_step bs_ hb); clear BK215 BK216 BK217 HB; have BK215 := n0_; have BK216 := n1_; have BK217 := n2_; have HB := n3_; clear n0_ n1_ n2_ n3_; (try clear hb); (try clear hb2); (try clear hk); (try clear hi)))
       have n0_ := Aside0.mk (blk_drew BK215.out)
       have n1_ := Aside0.mk (blk_drew BK216.out)
       have n2_ := Aside0.mk (blk_drew BK217.out)
       have n3_ := Aside0.mk (below_drew1 HB.out)
       clear BK215
       clear BK216
       clear BK217
       clear HB
       have BK215 := n0_
       have BK216 := n1_
       have BK217 := n2_
       have HB := n3_
       clear n0_ n1_ n2_ n3_
       refine start_ (n := 9) (S := fun w' => w'.cell? ⟨gb215, 0, none⟩ = some (.int .i64 a0_0) ∧ w'.cell? ⟨gb215, 1, none⟩ = some (.slice A0_1 l0_1.length c0_1) ∧ w'.cell? ⟨gb216, 0, none⟩ = some (.int .i64 a2_0) ∧ w'.cell? ⟨gb216, 1, none⟩ = some (.int .i64 a2_1)) (ds := []) #[false, false, false, false, false, false, false, false, false] (by kernel_rfl) rfl rfl ⟨(blk_cell BK215.out 0).trans rfl, (blk_cell BK215.out 1).trans rfl, (blk_cell BK216.out 0).trans rfl, (blk_cell BK216.out 1).trans rfl⟩ (fun hHeld => ?_); refine with_tabW link_Swap.tab4 link_Swap.bits4 (fun HT_ HW_ => ?_)
       generalize w37.drew = w38 at BK215 BK216 BK217 HB hHeld ⊢
       refine pv_ 1 (some 23) HT_ (h := ?_)
       refine pv_ 4 (some 26) HT_ (h := ?_)
       refine tk_ 0 (some 22) HT_ HW_ hHeld (h := ?_)
       refine tk_ 3 (some 25) HT_ HW_ hHeld (h := ?_)
       refine tk_ 5 (some 27) HT_ HW_ hHeld (h := ?_)
       refine one_ (i := 2) (N := some 24) #[true, true, true, true, true, true, false, false, false] rfl rfl (one_of HT_.out (by kernel_rfl)) (by decide) (fun K hK => ?_)
       refine goes_ Try.func24 (by kernel_rfl) rfl #[.agg #[.int .i64 a0_0, .slice A0_1 l0_1.length c0_1], .int .i64 a1] (by rfl) rfl rfl (by (try simp only [List.map_toArray, List.map_cons, List.map_nil]); first | done | rfl | (simp only [List.length_drop, List.length_take]; rfl)) ?_
       with_reducible refine (link_find.calls a0_0 _ _ l0_1 a1 t219 _ ?side1 ?side2 A7.out).mono ?_
       (case side1 => repeat (first | exact (Kd.C_below HR0_1.out HB.out) | (with_reducible refine Kd.C_alloc ?_ _) | (with_reducible refine Kd.C_drewN ?_ _) | (with_reducible refine Kd.C_drew ?_)))
       (case side2 => exact HC0_1.out)
       rintro e w39 ⟨rfl, hb⟩
       refine ⟨_, rfl, ?_⟩
       have n0_ := Aside0.mk (blk_below (bk_ BK215) hb)
       have n1_ := Aside0.mk (blk_below (bk_ BK216) hb)
       have n2_ := Aside0.mk (blk_below (bk_ BK217) hb)
       have n3_ := Aside0.mk (below_step bs_ hb)
       clear BK215
       clear BK216
       clear BK217
       clear HB
       have BK215 := n0_
       have BK216 := n1_
       have BK217 := n2_
       have HB := n3_
       clear n0_ n1_ n2_ n3_
       (try clear hb)
       (try clear hb2)
       (try clear hk)
       (try clear hi)
       refine hK.out _ _ ⟨(blk_cell BK215.out 0).trans rfl, (blk_cell BK215.out 1).trans rfl, (blk_cell BK216.out 0).trans rfl, (blk_cell BK216.out 1).trans rfl⟩ (fun hHeld => ?_)
       clear hK K
       refine norm_ (a' := ?_) ?_ ?_
       rotate_left
       ·show Act.put _ (some 24) _ = _
        simp only [Act.put, List.setIfInBounds_toArray, List.set_cons_zero, List.set_cons_succ, i64_w, i32_w]
        rfl
       refine one_ (i := 6) (N := some 28) #[true, true, true, true, true, true, true, false, false] rfl rfl (one_of HT_.out (by kernel_rfl)) (by decide) (fun K hK => ?_)
       refine goes_ Try.func24 (by kernel_rfl) rfl #[.agg #[.int .i64 a0_0, .slice A0_1 l0_1.length c0_1], .int .i64 a2_0] (by rfl) rfl rfl (by (try simp only [List.map_toArray, List.map_cons, List.map_nil]); first | done | rfl | (simp only [List.length_drop, List.length_take]; rfl)) ?_
       with_reducible refine (link_find.calls a0_0 _ _ l0_1 a2_0 t220 _ ?side1 ?side2 A8.out).mono ?_
       (case side1 => repeat (first | exact (Kd.C_below HR0_1.out HB.out) | (with_reducible refine Kd.C_alloc ?_ _) | (with_reducible refine Kd.C_drewN ?_ _) | (with_reducible refine Kd.C_drew ?_)))
       (case side2 => exact HC0_1.out)
       rintro e w40 ⟨rfl, hb⟩
       refine ⟨_, rfl, ?_⟩
       have n0_ := Aside0.mk (blk_below (bk_ BK215) hb)
       have n1_ := Aside0.mk (blk_below (bk_ BK216) hb)
       have n2_ := Aside0.mk (blk_below (bk_ BK217) hb)
       have n3_ := Aside0.mk (below_step bs_ hb)
       clear BK215
       clear BK216
       clear BK217
       clear HB
       have BK215 := n0_
       have BK216 := n1_
       have BK217 := n2_
       have HB := n3_
       clear n0_ n1_ n2_ n3_
       (try clear hb)
       (try clear hb2)
       (try clear hk)
       (try clear hi)
       refine hK.out _ _ ⟨(blk_cell BK215.out 0).trans rfl, (blk_cell BK215.out 1).trans rfl, (blk_cell BK216.out 0).trans rfl, (blk_cell BK216.out 1).trans rfl⟩ (fun hHeld => ?_)
       clear hK K
       refine norm_ (a' := ?_) ?_ ?_
       rotate_left
       ·show Act.put _ (some 28) _ = _
        simp only [Act.put, List.setIfInBounds_toArray, List.set_cons_zero, List.set_cons_succ, i64_w, i32_w]
        rfl
       refine pv_ 7 (some 11) HT_ (h := ?_)
       refine pv_ 8 (some 12) HT_ (h := ?_)
       refine done_ (done_of HT_.out (by kernel_rfl)) ?_
       obtain ⟨hcz41_0, hcz41_1, hfz41_0, hfz41_1⟩ := blk2 BK215
       try go_wp2_with (first | ((with_reducible refine gate_callee (f := 29) rfl ?_); refine goesL_ (some 44) rfl rfl Try.func29 (by kernel_rfl) rfl #[.slice A0_1 l0_1.length c0_1] rfl (by (try simp only [List.map_toArray, List.map_cons, List.map_nil]); first | done | rfl | (simp only [List.length_drop, List.length_take]; rfl)) ?_; (with_reducible refine (api_Link_29.calls _ _ l0_1 t221 _ ?side1 ?side2 A25.out).mono ?_); (case side1 => repeat (first | exact (Kd.C_below HR0_1.out HB.out) | (with_reducible refine Kd.C_alloc ?_ _) | (with_reducible refine Kd.C_drewN ?_ _) | (with_reducible refine Kd.C_drew ?_))); (case side2 => exact HC0_1.out); rintro e w42 ⟨v222, rfl, ho0, hb⟩; refine ⟨_, rfl, ?_⟩; have n0_ := Aside0.mk (Kd.R_lower (Kd.R_newB ho0 (g := gb216) (o := .cells #[.int .i64 a2_0, .int .i64 a2_1] 26 (0, 0)) (by (with_reducible repeat (first | refine blk_drewN ?_ _ | refine blk_drew ?_ | refine blk_alloc ?_ _)); exact BK216.out)) (below_size bs_)); have n1_ := Aside0.mk (blk_below (bk_ BK215) hb); have n2_ := Aside0.mk (blk_below (bk_ BK216) hb); have n3_ := Aside0.mk (blk_below (bk_ BK217) hb); have n4_ := Aside0.mk (below_step bs_ hb); clear BK215 BK216 BK217 HB; have HO223 := n0_; have BK215 := n1_; have BK216 := n2_; have BK217 := n3_; have HB := n4_; clear n0_ n1_ n2_ n3_ n4_; (try clear hb); (try clear hb2); (try clear hk); (try clear hi); (try clear ho0); obtain ⟨Ao43, co43, eo43⟩ := Kd.R_slice HO223.out; subst eo43; obtain ⟨hcz44_0, hcz44_1, hfz44_0, hfz44_1⟩ := blk2 BK216; have p28 : 0 ≤ (t219 : Int) := of_decide_eq_true (by first | (with_reducible assumption) | assumption); have q28 : (t219 : Int) < ((t221.length : Int) : Int) := of_decide_eq_true (by first | (with_reducible assumption) | assumption); obtain ⟨go28, co28, eo28, gb28, gl28, cl28, HG28⟩ := Kd.R_form HO223.out (by omega); (first | cases eo28 | (injection eo28 with ea_ en_ ec_; (first | subst ea_ | (injection ea_ with ea_; subst ea_)); subst ec_; clear en_)); have GB28 := Aside0.mk gb28; have GG28 := Aside0.mk HG28; clear gb28 gl28 HG28; obtain ⟨ce28, hcl28, hM28, hcc28, hfr28⟩ := Kd.R_elem HO223.out z26 (t219 : Int) p28 q28; obtain rfl := k26_openM hM28; have hx28_0 : w42.cell? ⟨go28, (t219 : Int).toNat * 2, none⟩ = some (.int .i64 ((rd_T26 t221 t219).f0)) := hcc28 0 _ rfl; have hx28_1 : w42.cell? ⟨go28, (t219 : Int).toNat * 2 + 1, none⟩ = some (.int .i64 ((rd_T26 t221 t219).f1)) := hcc28 1 _ rfl; have hf28_0 : w42.frozen? ⟨go28, (t219 : Int).toNat * 2, none⟩ = false := hfr28 0; have hf28_1 : w42.frozen? ⟨go28, (t219 : Int).toNat * 2 + 1, none⟩ = false := hfr28 1; clear hcl28 hcc28 hfr28 hM28; replace p28 := eq_true p28; replace q28 := eq_true q28; have n_ := Aside0.mk (Kd.R_mono (ok' := (fun k_ => k_ ≠ gb216)) HO223.out (fun k_ hk => hk.2)); clear HO223; have HO223 := n_; clear n_; have HX45 := Aside0.mk (show Kd.R k26 26 w42 w.heap.size (fun k_ => k_ ≠ gb216) (.slice (some ⟨go28, 0, none⟩) t221.length co43) t221 from (rk_ HO223)); obtain ⟨ce45, hcl45, hM45, hcc45, hfr45⟩ := Kd.R_elem HX45.out z26 (t219 : Int) (of_decide_eq_true (by first | (with_reducible assumption) | assumption)) (by have h_ : (t219 : Int) < ((t221.length : Int) : Int) := of_decide_eq_true (by first | (with_reducible assumption) | assumption); first | exact h_ | (have e_ := (Kd.R_reads' HO223.out).1; omega) | simpa using h_); obtain rfl := k26_openM hM45; have HP45 := Kd.R_seg HX45.out (t219 : Int) (of_decide_eq_true (by first | (with_reducible assumption) | assumption)) (by have h_ : (t219 : Int) < ((t221.length : Int) : Int) := of_decide_eq_true (by first | (with_reducible assumption) | assumption); first | exact h_ | (have e_ := (Kd.R_reads' HO223.out).1; omega) | simpa using h_) (seg := [.int .i64 a2_0, .int .i64 a2_1]) (j := 0) hcl45 hcc45 (show 2 ≤ 2 from by decide) (x' := (⟨a2_0, a2_1⟩ : S26)) (k26_mkM _ _ _ (⟨a2_0, a2_1⟩ : S26) ) (fun _ hk => hk); have hx45_0 := hcc45 0 _ rfl; (try simp only [show (k26).sz = 2 from rfl, Nat.mul_one, Nat.add_zero] at hx45_0); have hf45_0 := hfr45 0; (try simp only [show (k26).sz = 2 from rfl, Nat.mul_one, Nat.add_zero] at hf45_0); have hx45_1 := hcc45 1 _ rfl; (try simp only [show (k26).sz = 2 from rfl, Nat.mul_one, Nat.add_zero] at hx45_1); have hf45_1 := hfr45 1; (try simp only [show (k26).sz = 2 from rfl, Nat.mul_one, Nat.add_zero] at hf45_1); clear hcl45 hcc45 hfr45 hM45) | ((with_reducible refine gate_store (t := 26) (p := 48) rfl ?_); refine store_event (t := 26) (p := 48) (v := ?vo_w46) (w1 := ((w42.setCell ⟨go28, (t219 : Int).toNat * 2, none⟩ (.int .i64 a2_0)).setCell ⟨go28, (t219 : Int).toNat * 2 + 1, none⟩ (.int .i64 a2_1))) ?hg ?ho ?hn ?hr ?_; (case ho => rfl); (case hg => rfl); (case hn => rfl); (case hr => first | (go_simp; done) | (go_simp; rfl)); intro w46 hw; have hg : w42.grownBy w46 (some go28) := (by rw [hw]; exact HP45.2); have hp_ : Kd.R k26 26 w46 w.heap.size (fun k_ => k_ ≠ gb216) (.slice (some ⟨go28, 0, none⟩) t221.length co43) y224 := (by rw [hw, Ny224.out]; exact HP45.1); clear HP45; have n0_ := Aside0.mk (blk_grown (g := gb215) (o := .cells #[.int .i64 a0_0, .slice A0_1 l0_1.length c0_1] 24 (0, 0)) (by (with_reducible repeat (first | refine blk_drewN ?_ _ | refine blk_drew ?_ | refine blk_alloc ?_ _)); exact BK215.out) hg (Kd.R_ne HO223.out BK215.out (by decide))); have n1_ := Aside0.mk (blk_grown (g := gb216) (o := .cells #[.int .i64 a2_0, .int .i64 a2_1] 26 (0, 0)) (by (with_reducible repeat (first | refine blk_drewN ?_ _ | refine blk_drew ?_ | refine blk_alloc ?_ _)); exact BK216.out) hg (Kd.R_away HO223.out (fun _ hk => hk))); have n2_ := Aside0.mk (blk_grown (g := gb217) (o := .cells #[.int .i64 0, .slice none 0 0] 24 (0, 0)) (by (with_reducible repeat (first | refine blk_drewN ?_ _ | refine blk_drew ?_ | refine blk_alloc ?_ _)); exact BK217.out) hg (Kd.R_ne HO223.out BK217.out (by decide))); have n3_ := Aside0.mk (hp_); have n4_ := Aside0.mk ((by rw [hw]; exact below_set (below_set (HB.out) GB28.out) GB28.out : Below w.heap.size w w46)); clear BK215 BK216 BK217 HO223 HB; have BK215 := n0_; have BK216 := n1_; have BK217 := n2_; have HO223 := n3_; have HB := n4_; clear n0_ n1_ n2_ n3_ n4_; clear hg hw hp_; obtain ⟨hcz47_0, hcz47_1, hfz47_0, hfz47_1⟩ := blk2 BK217))
       refine bodyPost_ret (results_ct rfl _ _ gb217 24 #[.int .i64 (wrap64 (a3 + 1)), .slice (some ⟨go28, 0, none⟩) t221.length co43] (0, 0) _ rfl (bp_ BK217) Try.underlying24 rfl (by kernel_rfl)) rfl ?_
       exact ⟨_, by first | rfl | (simp [errW_none, errW_some] <;> rfl) | (simp [*, errW_none, errW_some] <;> rfl), by (with_reducible repeat (first | apply Kd.R_alloc | apply Kd.R_drewN | apply Kd.R_drew)); exact Kd.R_mono (far2 gb217 (Kd.R_types HO223.out BK217.out (by decide)) (fun _ hk => hk.2)) (fun _ hk => trivial), by repeat (first | (with_reducible first | exact HB.out | apply below_alloc | apply pw_below_drewN | apply below_drew1 | refine below_set ?_ GE215.out | refine below_set ?_ GE216.out | refine below_set ?_ GE217.out) | exact HB.out)⟩
      ·rw [if_neg c27] at H
       exact absurd H (by simp)
     ·rw [if_neg c26] at H
      exact absurd H (by simp)
    ·rw [if_neg c24] at H
     have c24b0 : (t220 == t219) = false := beq_eq_false_iff_ne.mpr c24
     have c24b1 : (t220 != t219) = true := bne_iff_ne.mpr c24
     simp only [Option.some.injEq, Prod.mk.injEq] at H
     obtain ⟨rfl, rfl, rfl⟩ := H
     go_enter Try.func17, Try.ntmps17
     try go_wp2_with (first | ((with_reducible refine gate_dst (N := 4) rfl ?_); refine box_event ?hg (N := 4) ?hd (cs := #[.int .i64 a0_0, .slice A0_1 l0_1.length c0_1]) (t := 24) ?hr ?_; (case hd => rfl); (case hg => rfl); (case hr => first | (go_simp; done) | (go_simp; rfl)); intro gb215 hg w48 hbox hb; have n0_ := Aside0.mk (below_step bs_ hb); have n1_ := Aside0.mk (hbox); have n2_ := Aside0.mk ((by rw [hg]; exact (below_size bs_) : w.heap.size ≤ gb215)); have n3_ := Aside0.mk ((by rw [hg]; exact (below_size bs_) : w.heap.size ≤ gb215)); clear HB; have HB := n0_; have BK215 := n1_; have GW215 := n2_; have GE215 := n3_; clear n0_ n1_ n2_ n3_; clear hb hbox hg) | ((with_reducible refine gate_dst (N := 6) rfl ?_); refine box_event ?hg (N := 6) ?hd (cs := #[.int .i64 a2_0, .int .i64 a2_1]) (t := 26) ?hr ?_; (case hd => rfl); (case hg => rfl); (case hr => first | (go_simp; done) | (go_simp; rfl)); intro gb216 hg w49 hbox hb; have n0_ := Aside0.mk (blk_below (bk_ BK215) hb); have n1_ := Aside0.mk (below_step bs_ hb); have n2_ := Aside0.mk (hbox); have n3_ := Aside0.mk ((by rw [hg]; exact (below_size bs_) : w.heap.size ≤ gb216)); have n4_ := Aside0.mk ((by rw [hg]; exact (below_size bs_) : w.heap.size ≤ gb216)); have n5_ := Aside0.mk ((by rw [hg]; exact Nat.ne_of_lt (blk_lt (bk_ BK215)) : gb215 ≠ gb216)); have n6_ := Aside0.mk ((by rw [hg]; exact Nat.ne_of_gt (blk_lt (bk_ BK215)) : gb216 ≠ gb215)); clear BK215 HB; have BK215 := n0_; have HB := n1_; have BK216 := n2_; have GW216 := n3_; have GE216 := n4_; have NB215_216 := n5_; have NB216_215 := n6_; clear n0_ n1_ n2_ n3_ n4_ n5_ n6_; clear hb hbox hg) | ((with_reducible refine gate_dst (N := 8) rfl ?_); refine box_event ?hg (N := 8) ?hd (cs := #[.int .i64 0, .slice none 0 0]) (t := 24) ?hr ?_; (case hd => rfl); (case hg => rfl); (case hr => first | (go_simp; done) | (go_simp; rfl)); intro gb217 hg w50 hbox hb; have n0_ := Aside0.mk (blk_below (bk_ BK215) hb); have n1_ := Aside0.mk (blk_below (bk_ BK216) hb); have n2_ := Aside0.mk (below_step bs_ hb); have n3_ := Aside0.mk (hbox); have n4_ := Aside0.mk ((by rw [hg]; exact (below_size bs_) : w.heap.size ≤ gb217)); have n5_ := Aside0.mk ((by rw [hg]; exact (below_size bs_) : w.heap.size ≤ gb217)); have n6_ := Aside0.mk ((by rw [hg]; exact Nat.ne_of_lt (blk_lt (bk_ BK215)) : gb215 ≠ gb217)); have n7_ := Aside0.mk ((by rw [hg]; exact Nat.ne_of_gt (blk_lt (bk_ BK215)) : gb217 ≠ gb215)); have n8_ := Aside0.mk ((by rw [hg]; exact Nat.ne_of_lt (blk_lt (bk_ BK216)) : gb216 ≠ gb217)); have n9_ := Aside0.mk ((by rw [hg]; exact Nat.ne_of_gt (blk_lt (bk_ BK216)) : gb217 ≠ gb216)); clear BK215 BK216 HB; have BK215 := n0_; have BK216 := n1_; have HB := n2_; have BK217 := n3_; have GW217 := n4_; have GE217 := n5_; have NB215_217 := n6_; have NB217_215 := n7_; have NB216_217 := n8_; have NB217_216 := n9_; clear n0_ n1_ n2_ n3_ n4_ n5_ n6_ n7_ n8_ n9_; clear hb hbox hg; have hnb51 := NB215_216.out; have hnc51 := NB216_215.out; have hnb52 := NB215_217.out; have hnc52 := NB217_215.out; obtain ⟨hcz53_0, hcz53_1, hfz53_0, hfz53_1⟩ := blk2 BK215; have hnb54 := NB216_217.out; have hnc54 := NB217_216.out; obtain ⟨hcz55_0, hcz55_1, hfz55_0, hfz55_1⟩ := blk2 BK216) | ((with_reducible refine gate_callee (f := 23) rfl ?_); refine goesL_ (some 17) rfl rfl Try.func23 (by kernel_rfl) rfl #[.agg #[.int .i64 a0_0, .slice A0_1 l0_1.length c0_1], .agg #[.int .i64 a2_0, .int .i64 a2_1], .int .i64 a3] rfl (by (try simp only [List.map_toArray, List.map_cons, List.map_nil]); first | done | rfl | (simp only [List.length_drop, List.length_take]; rfl)) ?_; (with_reducible refine (link_may.calls k a0_0 _ _ l0_1 a2_0 a2_1 a3 t218 _ ?side1 ?side2 A5.out).mono ?_); (case side1 => repeat (first | exact (Kd.C_below HR0_1.out HB.out) | (with_reducible refine Kd.C_alloc ?_ _) | (with_reducible refine Kd.C_drewN ?_ _) | (with_reducible refine Kd.C_drew ?_))); (case side2 => exact HC0_1.out); rintro e w56 ⟨rfl, hb⟩; refine ⟨_, rfl, ?_⟩; have n0_ := Aside0.mk (blk_below (bk_ BK215) hb); have n1_ := Aside0.mk (blk_below (bk_ BK216) hb); have n2_ := Aside0.mk (blk_below (bk_ BK217) hb); have n3_ := Aside0.mk (below_step bs_ hb); clear BK215 BK216 BK217 HB; have BK215 := n0_; have BK216 := n1_; have BK217 := n2_; have HB := n3_; clear n0_ n1_ n2_ n3_; (try clear hb); (try clear hb2); (try clear hk); (try clear hi)))
     have n0_ := Aside0.mk (blk_drew BK215.out)
     have n1_ := Aside0.mk (blk_drew BK216.out)
     have n2_ := Aside0.mk (blk_drew BK217.out)
     have n3_ := Aside0.mk (below_drew1 HB.out)
     clear BK215
     clear BK216
     clear BK217
     clear HB
     have BK215 := n0_
     have BK216 := n1_
     have BK217 := n2_
     have HB := n3_
     clear n0_ n1_ n2_ n3_
     refine start_ (n := 9) (S := fun w' => w'.cell? ⟨gb215, 0, none⟩ = some (.int .i64 a0_0) ∧ w'.cell? ⟨gb215, 1, none⟩ = some (.slice A0_1 l0_1.length c0_1) ∧ w'.cell? ⟨gb216, 0, none⟩ = some (.int .i64 a2_0) ∧ w'.cell? ⟨gb216, 1, none⟩ = some (.int .i64 a2_1)) (ds := []) #[false, false, false, false, false, false, false, false, false] (by kernel_rfl) rfl rfl ⟨(blk_cell BK215.out 0).trans rfl, (blk_cell BK215.out 1).trans rfl, (blk_cell BK216.out 0).trans rfl, (blk_cell BK216.out 1).trans rfl⟩ (fun hHeld => ?_); refine with_tabW link_Swap.tab4 link_Swap.bits4 (fun HT_ HW_ => ?_)
     generalize w56.drew = w57 at BK215 BK216 BK217 HB hHeld ⊢
     refine pv_ 1 (some 23) HT_ (h := ?_)
     refine pv_ 4 (some 26) HT_ (h := ?_)
     refine tk_ 0 (some 22) HT_ HW_ hHeld (h := ?_)
     refine tk_ 3 (some 25) HT_ HW_ hHeld (h := ?_)
     refine tk_ 5 (some 27) HT_ HW_ hHeld (h := ?_)
     refine one_ (i := 2) (N := some 24) #[true, true, true, true, true, true, false, false, false] rfl rfl (one_of HT_.out (by kernel_rfl)) (by decide) (fun K hK => ?_)
     refine goes_ Try.func24 (by kernel_rfl) rfl #[.agg #[.int .i64 a0_0, .slice A0_1 l0_1.length c0_1], .int .i64 a1] (by rfl) rfl rfl (by (try simp only [List.map_toArray, List.map_cons, List.map_nil]); first | done | rfl | (simp only [List.length_drop, List.length_take]; rfl)) ?_
     with_reducible refine (link_find.calls a0_0 _ _ l0_1 a1 t219 _ ?side1 ?side2 A7.out).mono ?_
     (case side1 => repeat (first | exact (Kd.C_below HR0_1.out HB.out) | (with_reducible refine Kd.C_alloc ?_ _) | (with_reducible refine Kd.C_drewN ?_ _) | (with_reducible refine Kd.C_drew ?_)))
     (case side2 => exact HC0_1.out)
     rintro e w58 ⟨rfl, hb⟩
     refine ⟨_, rfl, ?_⟩
     have n0_ := Aside0.mk (blk_below (bk_ BK215) hb)
     have n1_ := Aside0.mk (blk_below (bk_ BK216) hb)
     have n2_ := Aside0.mk (blk_below (bk_ BK217) hb)
     have n3_ := Aside0.mk (below_step bs_ hb)
     clear BK215
     clear BK216
     clear BK217
     clear HB
     have BK215 := n0_
     have BK216 := n1_
     have BK217 := n2_
     have HB := n3_
     clear n0_ n1_ n2_ n3_
     (try clear hb)
     (try clear hb2)
     (try clear hk)
     (try clear hi)
     refine hK.out _ _ ⟨(blk_cell BK215.out 0).trans rfl, (blk_cell BK215.out 1).trans rfl, (blk_cell BK216.out 0).trans rfl, (blk_cell BK216.out 1).trans rfl⟩ (fun hHeld => ?_)
     clear hK K
     refine norm_ (a' := ?_) ?_ ?_
     rotate_left
     ·show Act.put _ (some 24) _ = _
      simp only [Act.put, List.setIfInBounds_toArray, List.set_cons_zero, List.set_cons_succ, i64_w, i32_w]
      rfl
     refine one_ (i := 6) (N := some 28) #[true, true, true, true, true, true, true, false, false] rfl rfl (one_of HT_.out (by kernel_rfl)) (by decide) (fun K hK => ?_)
     refine goes_ Try.func24 (by kernel_rfl) rfl #[.agg #[.int .i64 a0_0, .slice A0_1 l0_1.length c0_1], .int .i64 a2_0] (by rfl) rfl rfl (by (try simp only [List.map_toArray, List.map_cons, List.map_nil]); first | done | rfl | (simp only [List.length_drop, List.length_take]; rfl)) ?_
     with_reducible refine (link_find.calls a0_0 _ _ l0_1 a2_0 t220 _ ?side1 ?side2 A8.out).mono ?_
     (case side1 => repeat (first | exact (Kd.C_below HR0_1.out HB.out) | (with_reducible refine Kd.C_alloc ?_ _) | (with_reducible refine Kd.C_drewN ?_ _) | (with_reducible refine Kd.C_drew ?_)))
     (case side2 => exact HC0_1.out)
     rintro e w59 ⟨rfl, hb⟩
     refine ⟨_, rfl, ?_⟩
     have n0_ := Aside0.mk (blk_below (bk_ BK215) hb)
     have n1_ := Aside0.mk (blk_below (bk_ BK216) hb)
     have n2_ := Aside0.mk (blk_below (bk_ BK217) hb)
     have n3_ := Aside0.mk (below_step bs_ hb)
     clear BK215
     clear BK216
     clear BK217
     clear HB
     have BK215 := n0_
     have BK216 := n1_
     have BK217 := n2_
     have HB := n3_
     clear n0_ n1_ n2_ n3_
     (try clear hb)
     (try clear hb2)
     (try clear hk)
     (try clear hi)
     refine hK.out _ _ ⟨(blk_cell BK215.out 0).trans rfl, (blk_cell BK215.out 1).trans rfl, (blk_cell BK216.out 0).trans rfl, (blk_cell BK216.out 1).trans rfl⟩ (fun hHeld => ?_)
     clear hK K
     refine norm_ (a' := ?_) ?_ ?_
     rotate_left
     ·show Act.put _ (some 28) _ = _
      simp only [Act.put, List.setIfInBounds_toArray, List.set_cons_zero, List.set_cons_succ, i64_w, i32_w]
      rfl
     refine pv_ 7 (some 11) HT_ (h := ?_)
     refine pv_ 8 (some 12) HT_ (h := ?_)
     refine done_ (done_of HT_.out (by kernel_rfl)) ?_
     obtain ⟨hcz60_0, hcz60_1, hfz60_0, hfz60_1⟩ := blk2 BK217
     try go_wp2
     refine bodyPost_ret (results_ct rfl _ _ gb217 24 #[.int .i64 0, .slice none 0 0] (0, 0) _ rfl (bp_ BK217) Try.underlying24 rfl (by kernel_rfl)) rfl ?_
     exact ⟨_, by first | rfl | (simp [errW_none, errW_some] <;> rfl) | (simp [*, errW_none, errW_some] <;> rfl), by first | exact Kd.R_nil _ _ _ _ _ | exact Kd.N_nil _ _ _ _ _ | exact Kd.V_nil _ _ _ _ _ | exact Kd.Q_nil _ _ _ _ _ | exact Kd.S_nil _ _ _ _ _, by repeat (first | (with_reducible first | exact HB.out | apply below_alloc | apply pw_below_drewN | apply below_drew1 | refine below_set ?_ GE215.out | refine below_set ?_ GE216.out | refine below_set ?_ GE217.out) | exact HB.out)⟩
   ·rw [if_neg c23] at H
    have c23b0 : decide (0 ≤ t220) = false := decide_eq_false c23
    clear c23
    replace H := Option.bind_eq_some_iff.mp H
    obtain ⟨t225, A610, H⟩ := H
    replace H : (if 0 ≤ t219 then (if t219 < (t225.length : Int) then (some (wrap64 (a3 + 1), (t225.set (t219 : Int).toNat (⟨a2_0, a2_1⟩ : S26)), 0)) else (none)) else (none)) = some (r1, r2, r3) := H
    have A61 := Aside0.mk A610
    clear A610
    by_cases c62 : 0 ≤ t219
    ·rw [if_pos c62] at H
     have c62b0 : decide (0 ≤ t219) = true := decide_eq_true c62
     clear c62
     by_cases c63 : t219 < (t225.length : Int)
     ·rw [if_pos c63] at H
      have c63b0 : decide (t219 < (t225.length : Int)) = true := decide_eq_true c63
      clear c63
      obtain ⟨y228, hy228⟩ : ∃ y_ : List (S26), y_ = (t225.set (t219 : Int).toNat (⟨a2_0, a2_1⟩ : S26)) := ⟨_, rfl⟩
      replace H : (some (wrap64 (a3 + 1), y228, 0)) = some (r1, r2, r3) := by first | (rw [hy228]; with_reducible exact H) | (have H2_ := (Option.bind_some _ _).symm.trans H; rw [hy228]; with_reducible exact H2_) | (have H2_ := (Option.bind_some _ _).symm.trans H; with_reducible exact H2_) | with_reducible exact H | (rw [hy228]; exact H) | exact H
      have Ny228 := Aside0.mk hy228
      clear hy228
      simp only [Option.some.injEq, Prod.mk.injEq] at H
      obtain ⟨rfl, rfl, rfl⟩ := H
      go_enter Try.func17, Try.ntmps17
      try go_wp2_with (first | ((with_reducible refine gate_dst (N := 4) rfl ?_); refine box_event ?hg (N := 4) ?hd (cs := #[.int .i64 a0_0, .slice A0_1 l0_1.length c0_1]) (t := 24) ?hr ?_; (case hd => rfl); (case hg => rfl); (case hr => first | (go_simp; done) | (go_simp; rfl)); intro gb215 hg w65 hbox hb; have n0_ := Aside0.mk (below_step bs_ hb); have n1_ := Aside0.mk (hbox); have n2_ := Aside0.mk ((by rw [hg]; exact (below_size bs_) : w.heap.size ≤ gb215)); have n3_ := Aside0.mk ((by rw [hg]; exact (below_size bs_) : w.heap.size ≤ gb215)); clear HB; have HB := n0_; have BK215 := n1_; have GW215 := n2_; have GE215 := n3_; clear n0_ n1_ n2_ n3_; clear hb hbox hg) | ((with_reducible refine gate_dst (N := 6) rfl ?_); refine box_event ?hg (N := 6) ?hd (cs := #[.int .i64 a2_0, .int .i64 a2_1]) (t := 26) ?hr ?_; (case hd => rfl); (case hg => rfl); (case hr => first | (go_simp; done) | (go_simp; rfl)); intro gb216 hg w66 hbox hb; have n0_ := Aside0.mk (blk_below (bk_ BK215) hb); have n1_ := Aside0.mk (below_step bs_ hb); have n2_ := Aside0.mk (hbox); have n3_ := Aside0.mk ((by rw [hg]; exact (below_size bs_) : w.heap.size ≤ gb216)); have n4_ := Aside0.mk ((by rw [hg]; exact (below_size bs_) : w.heap.size ≤ gb216)); have n5_ := Aside0.mk ((by rw [hg]; exact Nat.ne_of_lt (blk_lt (bk_ BK215)) : gb215 ≠ gb216)); have n6_ := Aside0.mk ((by rw [hg]; exact Nat.ne_of_gt (blk_lt (bk_ BK215)) : gb216 ≠ gb215)); clear BK215 HB; have BK215 := n0_; have HB := n1_; have BK216 := n2_; have GW216 := n3_; have GE216 := n4_; have NB215_216 := n5_; have NB216_215 := n6_; clear n0_ n1_ n2_ n3_ n4_ n5_ n6_; clear hb hbox hg) | ((with_reducible refine gate_dst (N := 8) rfl ?_); refine box_event ?hg (N := 8) ?hd (cs := #[.int .i64 0, .slice none 0 0]) (t := 24) ?hr ?_; (case hd => rfl); (case hg => rfl); (case hr => first | (go_simp; done) | (go_simp; rfl)); intro gb217 hg w67 hbox hb; have n0_ := Aside0.mk (blk_below (bk_ BK215) hb); have n1_ := Aside0.mk (blk_below (bk_ BK216) hb); have n2_ := Aside0.mk (below_step bs_ hb); have n3_ := Aside0.mk (hbox); have n4_ := Aside0.mk ((by rw [hg]; exact (below_size bs_) : w.heap.size ≤ gb217)); have n5_ := Aside0.mk ((by rw [hg]; exact (below_size bs_) : w.heap.size ≤ gb217)); have n6_ := Aside0.mk ((by rw [hg]; exact Nat.ne_of_lt (blk_lt (bk_ BK215)) : gb215 ≠ gb217)); have n7_ := Aside0.mk ((by rw [hg]; exact Nat.ne_of_gt (blk_lt (bk_ BK215)) : gb217 ≠ gb215)); have n8_ := Aside0.mk ((by rw [hg]; exact Nat.ne_of_lt (blk_lt (bk_ BK216)) : gb216 ≠ gb217)); have n9_ := Aside0.mk ((by rw [hg]; exact Nat.ne_of_gt (blk_lt (bk_ BK216)) : gb217 ≠ gb216)); clear BK215 BK216 HB; have BK215 := n0_; have BK216 := n1_; have HB := n2_; have BK217 := n3_; have GW217 := n4_; have GE217 := n5_; have NB215_217 := n6_; have NB217_215 := n7_; have NB216_217 := n8_; have NB217_216 := n9_; clear n0_ n1_ n2_ n3_ n4_ n5_ n6_ n7_ n8_ n9_; clear hb hbox hg; have hnb68 := NB215_216.out; have hnc68 := NB216_215.out; have hnb69 := NB215_217.out; have hnc69 := NB217_215.out; obtain ⟨hcz70_0, hcz70_1, hfz70_0, hfz70_1⟩ := blk2 BK215; have hnb71 := NB216_217.out; have hnc71 := NB217_216.out; obtain ⟨hcz72_0, hcz72_1, hfz72_0, hfz72_1⟩ := blk2 BK216) | ((with_reducible refine gate_callee (f := 23) rfl ?_); refine goesL_ (some 17) rfl rfl Try.func23 (by kernel_rfl) rfl #[.agg #[.int .i64 a0_0, .slice A0_1 l0_1.length c0_1], .agg #[.int .i64 a2_0, .int .i64 a2_1], .int .i64 a3] rfl (by (try simp only [List.map_toArray, List.map_cons, List.map_nil]); first | done | rfl | (simp only [List.length_drop, List.length_take]; rfl)) ?_; (with_reducible refine (link_may.calls k a0_0 _ _ l0_1 a2_0 a2_1 a3 t218 _ ?side1 ?side2 A5.out).mono ?_); (case side1 => repeat (first | exact (Kd.C_below HR0_1.out HB.out) | (with_reducible refine Kd.C_alloc ?_ _) | (with_reducible refine Kd.C_drewN ?_ _) | (with_reducible refine Kd.C_drew ?_))); (case side2 => exact HC0_1.out); rintro e w73 ⟨rfl, hb⟩; refine ⟨_, rfl, ?_⟩; have n0_ := Aside0.mk (blk_below (bk_ BK215) hb); have n1_ := Aside0.mk (blk_below (bk_ BK216) hb); have n2_ := Aside0.mk (blk_below (bk_ BK217) hb); have n3_ := Aside0.mk (below_step bs_ hb); clear BK215 BK216 BK217 HB; have BK215 := n0_; have BK216 := n1_; have BK217 := n2_; have HB := n3_; clear n0_ n1_ n2_ n3_; (try clear hb); (try clear hb2); (try clear hk); (try clear hi)))
      have n0_ := Aside0.mk (blk_drew BK215.out)
      have n1_ := Aside0.mk (blk_drew BK216.out)
      have n2_ := Aside0.mk (blk_drew BK217.out)
      have n3_ := Aside0.mk (below_drew1 HB.out)
      clear BK215
      clear BK216
      clear BK217
      clear HB
      have BK215 := n0_
      have BK216 := n1_
      have BK217 := n2_
      have HB := n3_
      clear n0_ n1_ n2_ n3_
      refine start_ (n := 9) (S := fun w' => w'.cell? ⟨gb215, 0, none⟩ = some (.int .i64 a0_0) ∧ w'.cell? ⟨gb215, 1, none⟩ = some (.slice A0_1 l0_1.length c0_1) ∧ w'.cell? ⟨gb216, 0, none⟩ = some (.int .i64 a2_0) ∧ w'.cell? ⟨gb216, 1, none⟩ = some (.int .i64 a2_1)) (ds := []) #[false, false, false, false, false, false, false, false, false] (by kernel_rfl) rfl rfl ⟨(blk_cell BK215.out 0).trans rfl, (blk_cell BK215.out 1).trans rfl, (blk_cell BK216.out 0).trans rfl, (blk_cell BK216.out 1).trans rfl⟩ (fun hHeld => ?_); refine with_tabW link_Swap.tab4 link_Swap.bits4 (fun HT_ HW_ => ?_)
      generalize w73.drew = w74 at BK215 BK216 BK217 HB hHeld ⊢
      refine pv_ 1 (some 23) HT_ (h := ?_)
      refine pv_ 4 (some 26) HT_ (h := ?_)
      refine tk_ 0 (some 22) HT_ HW_ hHeld (h := ?_)
      refine tk_ 3 (some 25) HT_ HW_ hHeld (h := ?_)
      refine tk_ 5 (some 27) HT_ HW_ hHeld (h := ?_)
      refine one_ (i := 2) (N := some 24) #[true, true, true, true, true, true, false, false, false] rfl rfl (one_of HT_.out (by kernel_rfl)) (by decide) (fun K hK => ?_)
      refine goes_ Try.func24 (by kernel_rfl) rfl #[.agg #[.int .i64 a0_0, .slice A0_1 l0_1.length c0_1], .int .i64 a1] (by rfl) rfl rfl (by (try simp only [List.map_toArray, List.map_cons, List.map_nil]); first | done | rfl | (simp only [List.length_drop, List.length_take]; rfl)) ?_
      with_reducible refine (link_find.calls a0_0 _ _ l0_1 a1 t219 _ ?side1 ?side2 A7.out).mono ?_
      (case side1 => repeat (first | exact (Kd.C_below HR0_1.out HB.out) | (with_reducible refine Kd.C_alloc ?_ _) | (with_reducible refine Kd.C_drewN ?_ _) | (with_reducible refine Kd.C_drew ?_)))
      (case side2 => exact HC0_1.out)
      rintro e w75 ⟨rfl, hb⟩
      refine ⟨_, rfl, ?_⟩
      have n0_ := Aside0.mk (blk_below (bk_ BK215) hb)
      have n1_ := Aside0.mk (blk_below (bk_ BK216) hb)
      have n2_ := Aside0.mk (blk_below (bk_ BK217) hb)
      have n3_ := Aside0.mk (below_step bs_ hb)
      clear BK215
      clear BK216
      clear BK217
      clear HB
      have BK215 := n0_
      have BK216 := n1_
      have BK217 := n2_
      have HB := n3_
      clear n0_ n1_ n2_ n3_
      (try clear hb)
      (try clear hb2)
      (try clear hk)
      (try clear hi)
      refine hK.out _ _ ⟨(blk_cell BK215.out 0).trans rfl, (blk_cell BK215.out 1).trans rfl, (blk_cell BK216.out 0).trans rfl, (blk_cell BK216.out 1).trans rfl⟩ (fun hHeld => ?_)
      clear hK K
      refine norm_ (a' := ?_) ?_ ?_
      rotate_left
      ·show Act.put _ (some 24) _ = _
       simp only [Act.put, List.setIfInBounds_toArray, List.set_cons_zero, List.set_cons_succ, i64_w, i32_w]
       rfl
      refine one_ (i := 6) (N := some 28) #[true, true, true, true, true, true, true, false, false] rfl rfl (one_of HT_.out (by kernel_rfl)) (by decide) (fun K hK => ?_)
      refine goes_ Try.func24 (by kernel_rfl) rfl #[.agg #[.int .i64 a0_0, .slice A0_1 l0_1.length c0_1], .int .i64 a2_0] (by rfl) rfl rfl (by (try simp only [List.map_toArray, List.map_cons, List.map_nil]); first | done | rfl | (simp only [List.length_drop, List.length_take]; rfl)) ?_
      with_reducible refine (link_find.calls a0_0 _ _ l0_1 a2_0 t220 _ ?side1 ?side2 A8.out).mono ?_
      (case side1 => repeat (first | exact (Kd.C_below HR0_1.out HB.out) | (with_reducible refine Kd.C_alloc ?_ _) | (with_reducible refine Kd.C_drewN ?_ _) | (with_reducible refine Kd.C_drew ?_)))
      (case side2 => exact HC0_1.out)
      rintro e w76 ⟨rfl, hb⟩
      refine ⟨_, rfl, ?_⟩
      have n0_ := Aside0.mk (blk_below (bk_ BK215) hb)
      have n1_ := Aside0.mk (blk_below (bk_ BK216) hb)
      have n2_ := Aside0.mk (blk_below (bk_ BK217) hb)
      have n3_ := Aside0.mk (below_step bs_ hb)
      clear BK215
      clear BK216
      clear BK217
      clear HB
      have BK215 := n0_
      have BK216 := n1_
      have BK217 := n2_
      have HB := n3_
      clear n0_ n1_ n2_ n3_
      (try clear hb)
      (try clear hb2)
      (try clear hk)
      (try clear hi)
      refine hK.out _ _ ⟨(blk_cell BK215.out 0).trans rfl, (blk_cell BK215.out 1).trans rfl, (blk_cell BK216.out 0).trans rfl, (blk_cell BK216.out 1).trans rfl⟩ (fun hHeld => ?_)
      clear hK K
      refine norm_ (a' := ?_) ?_ ?_
      rotate_left
      ·show Act.put _ (some 28) _ = _
       simp only [Act.put, List.setIfInBounds_toArray, List.set_cons_zero, List.set_cons_succ, i64_w, i32_w]
       rfl
      refine pv_ 7 (some 11) HT_ (h := ?_)
      refine pv_ 8 (some 12) HT_ (h := ?_)
      refine done_ (done_of HT_.out (by kernel_rfl)) ?_
      obtain ⟨hcz77_0, hcz77_1, hfz77_0, hfz77_1⟩ := blk2 BK215
      try go_wp2_with (first | ((with_reducible refine gate_callee (f := 29) rfl ?_); refine goesL_ (some 44) rfl rfl Try.func29 (by kernel_rfl) rfl #[.slice A0_1 l0_1.length c0_1] rfl (by (try simp only [List.map_toArray, List.map_cons, List.map_nil]); first | done | rfl | (simp only [List.length_drop, List.length_take]; rfl)) ?_; (with_reducible refine (api_Link_29.calls _ _ l0_1 t225 _ ?side1 ?side2 A61.out).mono ?_); (case side1 => repeat (first | exact (Kd.C_below HR0_1.out HB.out) | (with_reducible refine Kd.C_alloc ?_ _) | (with_reducible refine Kd.C_drewN ?_ _) | (with_reducible refine Kd.C_drew ?_))); (case side2 => exact HC0_1.out); rintro e w78 ⟨v226, rfl, ho0, hb⟩; refine ⟨_, rfl, ?_⟩; have n0_ := Aside0.mk (Kd.R_lower (Kd.R_newB ho0 (g := gb216) (o := .cells #[.int .i64 a2_0, .int .i64 a2_1] 26 (0, 0)) (by (with_reducible repeat (first | refine blk_drewN ?_ _ | refine blk_drew ?_ | refine blk_alloc ?_ _)); exact BK216.out)) (below_size bs_)); have n1_ := Aside0.mk (blk_below (bk_ BK215) hb); have n2_ := Aside0.mk (blk_below (bk_ BK216) hb); have n3_ := Aside0.mk (blk_below (bk_ BK217) hb); have n4_ := Aside0.mk (below_step bs_ hb); clear BK215 BK216 BK217 HB; have HO227 := n0_; have BK215 := n1_; have BK216 := n2_; have BK217 := n3_; have HB := n4_; clear n0_ n1_ n2_ n3_ n4_; (try clear hb); (try clear hb2); (try clear hk); (try clear hi); (try clear ho0); obtain ⟨Ao79, co79, eo79⟩ := Kd.R_slice HO227.out; subst eo79; obtain ⟨hcz80_0, hcz80_1, hfz80_0, hfz80_1⟩ := blk2 BK216; have p64 : 0 ≤ (t219 : Int) := of_decide_eq_true (by first | (with_reducible assumption) | assumption); have q64 : (t219 : Int) < ((t225.length : Int) : Int) := of_decide_eq_true (by first | (with_reducible assumption) | assumption); obtain ⟨go64, co64, eo64, gb64, gl64, cl64, HG64⟩ := Kd.R_form HO227.out (by omega); (first | cases eo64 | (injection eo64 with ea_ en_ ec_; (first | subst ea_ | (injection ea_ with ea_; subst ea_)); subst ec_; clear en_)); have GB64 := Aside0.mk gb64; have GG64 := Aside0.mk HG64; clear gb64 gl64 HG64; obtain ⟨ce64, hcl64, hM64, hcc64, hfr64⟩ := Kd.R_elem HO227.out z26 (t219 : Int) p64 q64; obtain rfl := k26_openM hM64; have hx64_0 : w78.cell? ⟨go64, (t219 : Int).toNat * 2, none⟩ = some (.int .i64 ((rd_T26 t225 t219).f0)) := hcc64 0 _ rfl; have hx64_1 : w78.cell? ⟨go64, (t219 : Int).toNat * 2 + 1, none⟩ = some (.int .i64 ((rd_T26 t225 t219).f1)) := hcc64 1 _ rfl; have hf64_0 : w78.frozen? ⟨go64, (t219 : Int).toNat * 2, none⟩ = false := hfr64 0; have hf64_1 : w78.frozen? ⟨go64, (t219 : Int).toNat * 2 + 1, none⟩ = false := hfr64 1; clear hcl64 hcc64 hfr64 hM64; replace p64 := eq_true p64; replace q64 := eq_true q64; have n_ := Aside0.mk (Kd.R_mono (ok' := (fun k_ => k_ ≠ gb216)) HO227.out (fun k_ hk => hk.2)); clear HO227; have HO227 := n_; clear n_; have HX81 := Aside0.mk (show Kd.R k26 26 w78 w.heap.size (fun k_ => k_ ≠ gb216) (.slice (some ⟨go64, 0, none⟩) t225.length co79) t225 from (rk_ HO227)); obtain ⟨ce81, hcl81, hM81, hcc81, hfr81⟩ := Kd.R_elem HX81.out z26 (t219 : Int) (of_decide_eq_true (by first | (with_reducible assumption) | assumption)) (by have h_ : (t219 : Int) < ((t225.length : Int) : Int) := of_decide_eq_true (by first | (with_reducible assumption) | assumption); first | exact h_ | (have e_ := (Kd.R_reads' HO227.out).1; omega) | simpa using h_); obtain rfl := k26_openM hM81; have HP81 := Kd.R_seg HX81.out (t219 : Int) (of_decide_eq_true (by first | (with_reducible assumption) | assumption)) (by have h_ : (t219 : Int) < ((t225.length : Int) : Int) := of_decide_eq_true (by first | (with_reducible assumption) | assumption); first | exact h_ | (have e_ := (Kd.R_reads' HO227.out).1; omega) | simpa using h_) (seg := [.int .i64 a2_0, .int .i64 a2_1]) (j := 0) hcl81 hcc81 (show 2 ≤ 2 from by decide) (x' := (⟨a2_0, a2_1⟩ : S26)) (k26_mkM _ _ _ (⟨a2_0, a2_1⟩ : S26) ) (fun _ hk => hk); have hx81_0 := hcc81 0 _ rfl; (try simp only [show (k26).sz = 2 from rfl, Nat.mul_one, Nat.add_zero] at hx81_0); have hf81_0 := hfr81 0; (try simp only [show (k26).sz = 2 from rfl, Nat.mul_one, Nat.add_zero] at hf81_0); have hx81_1 := hcc81 1 _ rfl; (try simp only [show (k26).sz = 2 from rfl, Nat.mul_one, Nat.add_zero] at hx81_1); have hf81_1 := hfr81 1; (try simp only [show (k26).sz = 2 from rfl, Nat.mul_one, Nat.add_zero] at hf81_1); clear hcl81 hcc81 hfr81 hM81) | ((with_reducible refine gate_store (t := 26) (p := 48) rfl ?_); refine store_event (t := 26) (p := 48) (v := ?vo_w82) (w1 := ((w78.setCell ⟨go64, (t219 : Int).toNat * 2, none⟩ (.int .i64 a2_0)).setCell ⟨go64, (t219 : Int).toNat * 2 + 1, none⟩ (.int .i64 a2_1))) ?hg ?ho ?hn ?hr ?_; (case ho => rfl); (case hg => rfl); (case hn => rfl); (case hr => first | (go_simp; done) | (go_simp; rfl)); intro w82 hw; have hg : w78.grownBy w82 (some go64) := (by rw [hw]; exact HP81.2); have hp_ : Kd.R k26 26 w82 w.heap.size (fun k_ => k_ ≠ gb216) (.slice (some ⟨go64, 0, none⟩) t225.length co79) y228 := (by rw [hw, Ny228.out]; exact HP81.1); clear HP81; have n0_ := Aside0.mk (blk_grown (g := gb215) (o := .cells #[.int .i64 a0_0, .slice A0_1 l0_1.length c0_1] 24 (0, 0)) (by (with_reducible repeat (first | refine blk_drewN ?_ _ | refine blk_drew ?_ | refine blk_alloc ?_ _)); exact BK215.out) hg (Kd.R_ne HO227.out BK215.out (by decide))); have n1_ := Aside0.mk (blk_grown (g := gb216) (o := .cells #[.int .i64 a2_0, .int .i64 a2_1] 26 (0, 0)) (by (with_reducible repeat (first | refine blk_drewN ?_ _ | refine blk_drew ?_ | refine blk_alloc ?_ _)); exact BK216.out) hg (Kd.R_away HO227.out (fun _ hk => hk))); have n2_ := Aside0.mk (blk_grown (g := gb217) (o := .cells #[.int .i64 0, .slice none 0 0] 24 (0, 0)) (by (with_reducible repeat (first | refine blk_drewN ?_ _ | refine blk_drew ?_ | refine blk_alloc ?_ _)); exact BK217.out) hg (Kd.R_ne HO227.out BK217.out (by decide))); have n3_ := Aside0.mk (hp_); have n4_ := Aside0.mk ((by rw [hw]; exact below_set (below_set (HB.out) GB64.out) GB64.out : Below w.heap.size w w82)); clear BK215 BK216 BK217 HO227 HB; have BK215 := n0_; have BK216 := n1_; have BK217 := n2_; have HO227 := n3_; have HB := n4_; clear n0_ n1_ n2_ n3_ n4_; clear hg hw hp_; obtain ⟨hcz83_0, hcz83_1, hfz83_0, hfz83_1⟩ := blk2 BK217))
      refine bodyPost_ret (results_ct rfl _ _ gb217 24 #[.int .i64 (wrap64 (a3 + 1)), .slice (some ⟨go64, 0, none⟩) t225.length co79] (0, 0) _ rfl (bp_ BK217) Try.underlying24 rfl (by kernel_rfl)) rfl ?_
      exact ⟨_, by first | rfl | (simp [errW_none, errW_some] <;> rfl) | (simp [*, errW_none, errW_some] <;> rfl), by (with_reducible repeat (first | apply Kd.R_alloc | apply Kd.R_drewN | apply Kd.R_drew)); exact Kd.R_mono (far2 gb217 (Kd.R_types HO227.out BK217.out (by decide)) (fun _ hk => hk.2)) (fun _ hk => trivial), by repeat (first | (with_reducible first | exact HB.out | apply below_alloc | apply pw_below_drewN | apply below_drew1 | refine below_set ?_ GE215.out | refine below_set ?_ GE216.out | refine below_set ?_ GE217.out) | exact HB.out)⟩
     ·rw [if_neg c63] at H
      exact absurd H (by simp)
    ·rw [if_neg c62] at H
     exact absurd H (by simp)
 ·rw [if_neg c6] at H
  have c6b0 : (t218 == 0) = false := beq_eq_false_iff_ne.mpr c6
  have c6b1 : (t218 != 0) = true := bne_iff_ne.mpr c6
  simp only [Option.some.injEq, Prod.mk.injEq] at H
  obtain ⟨rfl, rfl, rfl⟩ := H
  go_enter Try.func17, Try.ntmps17
  go_wp2_with (first | ((with_reducible refine gate_dst (N := 4) rfl ?_); refine box_event ?hg (N := 4) ?hd (cs := #[.int .i64 a0_0, .slice A0_1 l0_1.length c0_1]) (t := 24) ?hr ?_; (case hd => rfl); (case hg => rfl); (case hr => first | (go_simp; done) | (go_simp; rfl)); intro gb215 hg w84 hbox hb; have n0_ := Aside0.mk (below_step bs_ hb); have n1_ := Aside0.mk (hbox); have n2_ := Aside0.mk ((by rw [hg]; exact (below_size bs_) : w.heap.size ≤ gb215)); have n3_ := Aside0.mk ((by rw [hg]; exact (below_size bs_) : w.heap.size ≤ gb215)); clear HB; have HB := n0_; have BK215 := n1_; have GW215 := n2_; have GE215 := n3_; clear n0_ n1_ n2_ n3_; clear hb hbox hg) | ((with_reducible refine gate_dst (N := 6) rfl ?_); refine box_event ?hg (N := 6) ?hd (cs := #[.int .i64 a2_0, .int .i64 a2_1]) (t := 26) ?hr ?_; (case hd => rfl); (case hg => rfl); (case hr => first | (go_simp; done) | (go_simp; rfl)); intro gb216 hg w85 hbox hb; have n0_ := Aside0.mk (blk_below (bk_ BK215) hb); have n1_ := Aside0.mk (below_step bs_ hb); have n2_ := Aside0.mk (hbox); have n3_ := Aside0.mk ((by rw [hg]; exact (below_size bs_) : w.heap.size ≤ gb216)); have n4_ := Aside0.mk ((by rw [hg]; exact (below_size bs_) : w.heap.size ≤ gb216)); have n5_ := Aside0.mk ((by rw [hg]; exact Nat.ne_of_lt (blk_lt (bk_ BK215)) : gb215 ≠ gb216)); have n6_ := Aside0.mk ((by rw [hg]; exact Nat.ne_of_gt (blk_lt (bk_ BK215)) : gb216 ≠ gb215)); clear BK215 HB; have BK215 := n0_; have HB := n1_; have BK216 := n2_; have GW216 := n3_; have GE216 := n4_; have NB215_216 := n5_; have NB216_215 := n6_; clear n0_ n1_ n2_ n3_ n4_ n5_ n6_; clear hb hbox hg) | ((with_reducible refine gate_dst (N := 8) rfl ?_); refine box_event ?hg (N := 8) ?hd (cs := #[.int .i64 0, .slice none 0 0]) (t := 24) ?hr ?_; (case hd => rfl); (case hg => rfl); (case hr => first | (go_simp; done) | (go_simp; rfl)); intro gb217 hg w86 hbox hb; have n0_ := Aside0.mk (blk_below (bk_ BK215) hb); have n1_ := Aside0.mk (blk_below (bk_ BK216) hb); have n2_ := Aside0.mk (below_step bs_ hb); have n3_ := Aside0.mk (hbox); have n4_ := Aside0.mk ((by rw [hg]; exact (below_size bs_) : w.heap.size ≤ gb217)); have n5_ := Aside0.mk ((by rw [hg]; exact (below_size bs_) : w.heap.size ≤ gb217)); have n6_ := Aside0.mk ((by rw [hg]; exact Nat.ne_of_lt (blk_lt (bk_ BK215)) : gb215 ≠ gb217)); have n7_ := Aside0.mk ((by rw [hg]; exact Nat.ne_of_gt (blk_lt (bk_ BK215)) : gb217 ≠ gb215)); have n8_ := Aside0.mk ((by rw [hg]; exact Nat.ne_of_lt (blk_lt (bk_ BK216)) : gb216 ≠ gb217)); have n9_ := Aside0.mk ((by rw [hg]; exact Nat.ne_of_gt (blk_lt (bk_ BK216)) : gb217 ≠ gb216)); clear BK215 BK216 HB; have BK215 := n0_; have BK216 := n1_; have HB := n2_; have BK217 := n3_; have GW217 := n4_; have GE217 := n5_; have NB215_217 := n6_; have NB217_215 := n7_; have NB216_217 := n8_; have NB217_216 := n9_; clear n0_ n1_ n2_ n3_ n4_ n5_ n6_ n7_ n8_ n9_; clear hb hbox hg; have hnb87 := NB215_216.out; have hnc87 := NB216_215.out; have hnb88 := NB215_217.out; have hnc88 := NB217_215.out; obtain ⟨hcz89_0, hcz89_1, hfz89_0, hfz89_1⟩ := blk2 BK215; have hnb90 := NB216_217.out; have hnc90 := NB217_216.out; obtain ⟨hcz91_0, hcz91_1, hfz91_0, hfz91_1⟩ := blk2 BK216) | ((with_reducible refine gate_callee (f := 23) rfl ?_); refine goesL_ (some 17) rfl rfl Try.func23 (by kernel_rfl) rfl #[.agg #[.int .i64 a0_0, .slice A0_1 l0_1.length c0_1], .agg #[.int .i64 a2_0, .int .i64 a2_1], .int .i64 a3] rfl (by (try simp only [List.map_toArray, List.map_cons, List.map_nil]); first | done | rfl | (simp only [List.length_drop, List.length_take]; rfl)) ?_; (with_reducible refine (link_may.calls k a0_0 _ _ l0_1 a2_0 a2_1 a3 t218 _ ?side1 ?side2 A5.out).mono ?_); (case side1 => repeat (first | exact (Kd.C_below HR0_1.out HB.out) | (with_reducible refine Kd.C_alloc ?_ _) | (with_reducible refine Kd.C_drewN ?_ _) | (with_reducible refine Kd.C_drew ?_))); (case side2 => exact HC0_1.out); rintro e w92 ⟨rfl, hb⟩; refine ⟨_, rfl, ?_⟩; have n0_ := Aside0.mk (blk_below (bk_ BK215) hb); have n1_ := Aside0.mk (blk_below (bk_ BK216) hb); have n2_ := Aside0.mk (blk_below (bk_ BK217) hb); have n3_ := Aside0.mk (below_step bs_ hb); clear BK215 BK216 BK217 HB; have BK215 := n0_; have BK216 := n1_; have BK217 := n2_; have HB := n3_; clear n0_ n1_ n2_ n3_; (try clear hb); (try clear hb2); (try clear hk); (try clear hi); obtain ⟨hcz93_0, hcz93_1, hfz93_0, hfz93_1⟩ := blk2 BK217))
  refine bodyPost_ret (results_ct rfl _ _ gb217 24 #[.int .i64 0, .slice none 0 0] (0, 0) _ rfl (bp_ BK217) Try.underlying24 rfl (by kernel_rfl)) rfl ?_
  exact ⟨_, by first | rfl | (simp [errW_none, errW_some] <;> rfl) | (simp [*, errW_none, errW_some] <;> rfl), by first | exact Kd.R_nil _ _ _ _ _ | exact Kd.N_nil _ _ _ _ _ | exact Kd.V_nil _ _ _ _ _ | exact Kd.Q_nil _ _ _ _ _ | exact Kd.S_nil _ _ _ _ _, by repeat (first | (with_reducible first | exact HB.out | apply below_alloc | apply pw_below_drewN | apply below_drew1 | refine below_set ?_ GE215.out | refine below_set ?_ GE216.out | refine below_set ?_ GE217.out) | exact HB.out)⟩

end Go.Proofs.Ytoehingbhmaidaa.P
