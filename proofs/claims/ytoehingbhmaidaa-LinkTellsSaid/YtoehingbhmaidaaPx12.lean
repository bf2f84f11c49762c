-- Written by a program of this session over the kit's print of the translation. Lean checks it.
import Derived.Test.YtoehingbhmaidaaPx0
import Derived.Test.YtoehingbhmaidaaPx9
import Derived.Test.YtoehingbhmaidaaPx11
-- shorter
namespace Go.Proofs.Ytoehingbhmaidaa.P
open Go.RowKit Go.Proofs.YtoehingbhmaidaaW.PrintWords Go.Proofs.YtoehingbhmaidaaW.PrintLast Go.Proofs.YtoehingbhmaidaaW.PrintMore
attribute [local go_sem] max2_int min2_int max_two min_two max_three min_three max_four min_four   -- for this text's walks alone
set_option linter.unusedVariables false
set_option linter.unusedSimpArgs false

/-! ### drydockref16_Attach: function 13 -/
mutual
def drydockref16_Attach.j0 : Nat → Int → Int → Int → Bool → Int → List (S26) → Int → Int → Option (Int × (List (S26)) × Int)
  | 0, _, _, _, _, _, _, _, _ => none
  | k + 1, x2, x3, x4, x36, x167000, x167001, x168000, x168001 => if x36 = true then (some (0, ([] : List (S26)), 1)) else (if x2 ≥ 2 then ((drydockref16_find.f k x167000 x167001 x3).bind fun t171 => (drydockref16_Attach.j1 k x2 x3 x4 (decide (t171 < 0)) x167000 x167001 x168000 x168001)) else (drydockref16_Attach.j1 k x2 x3 x4 false x167000 x167001 x168000 x168001))
def drydockref16_Attach.j1 : Nat → Int → Int → Int → Bool → Int → List (S26) → Int → Int → Option (Int × (List (S26)) × Int)
  | 0, _, _, _, _, _, _, _, _ => none
  | k + 1, x2, x3, x4, x45, x167000, x167001, x168000, x168001 => if x45 = true then (some (0, ([] : List (S26)), 3)) else (if (x167001.length : Int) ≥ 4 then (some (0, ([] : List (S26)), 4)) else (if x2 = 0 then (if ([] : List (S26)).length < 8796093022208 then (drydockref16_Attach.j2 k x2 x3 x167000 x167001 x168000 x168001 (wrap64 (x4 + 1)) (([] : List (S26)) ++ [(⟨x168000, x168001⟩ : S26)])) else (none)) else (drydockref16_Attach.j2 k x2 x3 x167000 x167001 x168000 x168001 (wrap64 (x4 + 1)) ([] : List (S26)))))
def drydockref16_Attach.j2 : Nat → Int → Int → Int → List (S26) → Int → Int → Int → List (S26) → Option (Int × (List (S26)) × Int)
  | 0, _, _, _, _, _, _, _, _ => none
  | k + 1, x2, x3, x167000, x167001, x168000, x168001, x173000, x173001 => drydockref16_Attach.l0 k x2 x3 0 x167000 x167001 x168000 x168001 x173000 x173001
def drydockref16_Attach.l0 : Nat → Int → Int → Int → Int → List (S26) → Int → Int → Int → List (S26) → Option (Int × (List (S26)) × Int)
  | 0, _, _, _, _, _, _, _, _, _ => none
  | k + 1, x2, x3, x14, x167000, x167001, x168000, x168001, x173000, x173001 => if x14 < (x167001.length : Int) then (if 0 ≤ x14 then (if ((rd_T26 x167001 x14).f0) = x3 then (if x2 = 2 then (if x173001.length < 8796093022208 then ((some (x173001 ++ [(⟨x168000, x168001⟩ : S26)] : List (S26))).bind fun y177 => (if y177.length < 8796093022208 then ((some (y177 ++ [(⟨(rd_T26 x167001 x14).f0, (rd_T26 x167001 x14).f1⟩ : S26)] : List (S26))).bind fun y181 => (if x2 = 3 then (if y181.length < 8796093022208 then (drydockref16_Attach.l0 k x2 x3 (wrap64 (x14 + 1)) x167000 x167001 x168000 x168001 x173000 (y181 ++ [(⟨x168000, x168001⟩ : S26)])) else (none)) else (drydockref16_Attach.l0 k x2 x3 (wrap64 (x14 + 1)) x167000 x167001 x168000 x168001 x173000 y181))) else (none))) else (none)) else (if x173001.length < 8796093022208 then ((some (x173001 ++ [(⟨(rd_T26 x167001 x14).f0, (rd_T26 x167001 x14).f1⟩ : S26)] : List (S26))).bind fun y188 => (if x2 = 3 then (if y188.length < 8796093022208 then (drydockref16_Attach.l0 k x2 x3 (wrap64 (x14 + 1)) x167000 x167001 x168000 x168001 x173000 (y188 ++ [(⟨x168000, x168001⟩ : S26)])) else (none)) else (drydockref16_Attach.l0 k x2 x3 (wrap64 (x14 + 1)) x167000 x167001 x168000 x168001 x173000 y188))) else (none))) else (if x173001.length < 8796093022208 then (drydockref16_Attach.l0 k x2 x3 (wrap64 (x14 + 1)) x167000 x167001 x168000 x168001 x173000 (x173001 ++ [(⟨(rd_T26 x167001 x14).f0, (rd_T26 x167001 x14).f1⟩ : S26)])) else (none))) else (none)) else (if x2 = 1 then (if x173001.length < 8796093022208 then (some (x173000, (x173001 ++ [(⟨x168000, x168001⟩ : S26)]), 0)) else (none)) else (some (x173000, x173001, 0)))
end
def drydockref16_Attach.f (k : Nat) (a0_0 : Int) (l0_1 : List (S26)) (a1_0 : Int) (a1_1 : Int) (a2 : Int) (a3 : Int) (a4 : Int) : Option (Int × (List (S26)) × Int) := (drydockref16_why.f k a0_0 l0_1 a1_0 a1_1 a4).bind fun t169 => (if t169 = 0 then (if a2 < 0 then (drydockref16_Attach.j0 k a2 a3 a4 true a0_0 l0_1 a1_0 a1_1) else (if a2 > 3 then (drydockref16_Attach.j0 k a2 a3 a4 true a0_0 l0_1 a1_0 a1_1) else ((drydockref16_find.f k a0_0 l0_1 a1_0).bind fun t170 => (drydockref16_Attach.j0 k a2 a3 a4 (decide (t170 ≥ 0)) a0_0 l0_1 a1_0 a1_1)))) else (some (0, ([] : List (S26)), t169)))
theorem drydockref16_Attach.mono_l : ∀ k, (∀ y0 y1 y2 y3 y4 y5 y6 y7, LeO (drydockref16_Attach.j0 k y0 y1 y2 y3 y4 y5 y6 y7) (drydockref16_Attach.j0 (k + 1) y0 y1 y2 y3 y4 y5 y6 y7)) ∧ (∀ y0 y1 y2 y3 y4 y5 y6 y7, LeO (drydockref16_Attach.j1 k y0 y1 y2 y3 y4 y5 y6 y7) (drydockref16_Attach.j1 (k + 1) y0 y1 y2 y3 y4 y5 y6 y7)) ∧ (∀ y0 y1 y2 y3 y4 y5 y6 y7, LeO (drydockref16_Attach.j2 k y0 y1 y2 y3 y4 y5 y6 y7) (drydockref16_Attach.j2 (k + 1) y0 y1 y2 y3 y4 y5 y6 y7)) ∧ (∀ y0 y1 y2 y3 y4 y5 y6 y7 y8, LeO (drydockref16_Attach.l0 k y0 y1 y2 y3 y4 y5 y6 y7 y8) (drydockref16_Attach.l0 (k + 1) y0 y1 y2 y3 y4 y5 y6 y7 y8))
  | 0 => ⟨fun _ _ _ _ _ _ _ _ r h => by simp [drydockref16_Attach.j0] at h, fun _ _ _ _ _ _ _ _ r h => by simp [drydockref16_Attach.j1] at h, fun _ _ _ _ _ _ _ _ r h => by simp [drydockref16_Attach.j2] at h, fun _ _ _ _ _ _ _ _ _ r h => by simp [drydockref16_Attach.l0] at h⟩
  | k + 1 => by
    obtain ⟨ih0, ih1, ih2, ih3⟩ := drydockref16_Attach.mono_l k
    refine ⟨?_, ?_, ?_, ?_⟩
    · intro y0 y1 y2 y3 y4 y5 y6 y7
      unfold drydockref16_Attach.j0
      repeat' first
      | (with_reducible exact ih0 _ _ _ _ _ _ _ _)
      | (with_reducible exact ih1 _ _ _ _ _ _ _ _)
      | (with_reducible exact ih2 _ _ _ _ _ _ _ _)
      | (with_reducible exact ih3 _ _ _ _ _ _ _ _ _)
      | (with_reducible exact drydockref16_find.mono _ _ _ _)
      | (with_reducible exact drydockref16_why.mono _ _ _ _ _ _)
      | (with_reducible exact LeO.refl _)
      | (with_reducible exact LeO.none _)
      | (with_reducible refine LeO.ite ?_ ?_)
      | (with_reducible refine LeO.bind ?_ (fun _ => ?_))
      | exact ih0 _ _ _ _ _ _ _ _
      | exact ih1 _ _ _ _ _ _ _ _
      | exact ih2 _ _ _ _ _ _ _ _
      | exact ih3 _ _ _ _ _ _ _ _ _
      | exact drydockref16_find.mono _ _ _ _
      | exact drydockref16_why.mono _ _ _ _ _ _
      | exact LeO.none _
      | refine LeO.ite ?_ ?_
      | refine LeO.bind ?_ (fun _ => ?_)
    · intro y0 y1 y2 y3 y4 y5 y6 y7
      unfold drydockref16_Attach.j1
      repeat' first
      | (with_reducible exact ih0 _ _ _ _ _ _ _ _)
      | (with_reducible exact ih1 _ _ _ _ _ _ _ _)
      | (with_reducible exact ih2 _ _ _ _ _ _ _ _)
      | (with_reducible exact ih3 _ _ _ _ _ _ _ _ _)
      | (with_reducible exact drydockref16_find.mono _ _ _ _)
      | (with_reducible exact drydockref16_why.mono _ _ _ _ _ _)
      | (with_reducible exact LeO.refl _)
      | (with_reducible exact LeO.none _)
      | (with_reducible refine LeO.ite ?_ ?_)
      | (with_reducible refine LeO.bind ?_ (fun _ => ?_))
      | exact ih0 _ _ _ _ _ _ _ _
      | exact ih1 _ _ _ _ _ _ _ _
      | exact ih2 _ _ _ _ _ _ _ _
      | exact ih3 _ _ _ _ _ _ _ _ _
      | exact drydockref16_find.mono _ _ _ _
      | exact drydockref16_why.mono _ _ _ _ _ _
      | exact LeO.none _
      | refine LeO.ite ?_ ?_
      | refine LeO.bind ?_ (fun _ => ?_)
    · intro y0 y1 y2 y3 y4 y5 y6 y7
      unfold drydockref16_Attach.j2
      repeat' first
      | (with_reducible exact ih0 _ _ _ _ _ _ _ _)
      | (with_reducible exact ih1 _ _ _ _ _ _ _ _)
      | (with_reducible exact ih2 _ _ _ _ _ _ _ _)
      | (with_reducible exact ih3 _ _ _ _ _ _ _ _ _)
      | (with_reducible exact drydockref16_find.mono _ _ _ _)
      | (with_reducible exact drydockref16_why.mono _ _ _ _ _ _)
      | (with_reducible exact LeO.refl _)
      | (with_reducible exact LeO.none _)
      | (with_reducible refine LeO.ite ?_ ?_)
      | (with_reducible refine LeO.bind ?_ (fun _ => ?_))
      | exact ih0 _ _ _ _ _ _ _ _
      | exact ih1 _ _ _ _ _ _ _ _
      | exact ih2 _ _ _ _ _ _ _ _
      | exact ih3 _ _ _ _ _ _ _ _ _
      | exact drydockref16_find.mono _ _ _ _
      | exact drydockref16_why.mono _ _ _ _ _ _
      | exact LeO.none _
      | refine LeO.ite ?_ ?_
      | refine LeO.bind ?_ (fun _ => ?_)
    · intro y0 y1 y2 y3 y4 y5 y6 y7 y8
      unfold drydockref16_Attach.l0
      repeat' first
      | (with_reducible exact ih0 _ _ _ _ _ _ _ _)
      | (with_reducible exact ih1 _ _ _ _ _ _ _ _)
      | (with_reducible exact ih2 _ _ _ _ _ _ _ _)
      | (with_reducible exact ih3 _ _ _ _ _ _ _ _ _)
      | (with_reducible exact drydockref16_find.mono _ _ _ _)
      | (with_reducible exact drydockref16_why.mono _ _ _ _ _ _)
      | (with_reducible exact LeO.refl _)
      | (with_reducible exact LeO.none _)
      | (with_reducible refine LeO.ite ?_ ?_)
      | (with_reducible refine LeO.bind ?_ (fun _ => ?_))
      | exact ih0 _ _ _ _ _ _ _ _
      | exact ih1 _ _ _ _ _ _ _ _
      | exact ih2 _ _ _ _ _ _ _ _
      | exact ih3 _ _ _ _ _ _ _ _ _
      | exact drydockref16_find.mono _ _ _ _
      | exact drydockref16_why.mono _ _ _ _ _ _
      | exact LeO.none _
      | refine LeO.ite ?_ ?_
      | refine LeO.bind ?_ (fun _ => ?_)
theorem drydockref16_Attach.mono : ∀ a0 a1 a2 a3 a4 a5 a6 k, LeO (drydockref16_Attach.f k a0 a1 a2 a3 a4 a5 a6) (drydockref16_Attach.f (k + 1) a0 a1 a2 a3 a4 a5 a6) := by
 intro a0 a1 a2 a3 a4 a5 a6 k
 obtain ⟨ih0, ih1, ih2, ih3⟩ := drydockref16_Attach.mono_l k
 unfold drydockref16_Attach.f
 repeat' first
  | (with_reducible exact ih0 _ _ _ _ _ _ _ _)
  | (with_reducible exact ih1 _ _ _ _ _ _ _ _)
  | (with_reducible exact ih2 _ _ _ _ _ _ _ _)
  | (with_reducible exact ih3 _ _ _ _ _ _ _ _ _)
  | (with_reducible exact drydockref16_find.mono _ _ _ _)
  | (with_reducible exact drydockref16_why.mono _ _ _ _ _ _)
  | (with_reducible exact LeO.refl _)
  | (with_reducible exact LeO.none _)
  | (with_reducible refine LeO.ite ?_ ?_)
  | (with_reducible refine LeO.bind ?_ (fun _ => ?_))
  | exact ih0 _ _ _ _ _ _ _ _
  | exact ih1 _ _ _ _ _ _ _ _
  | exact ih2 _ _ _ _ _ _ _ _
  | exact ih3 _ _ _ _ _ _ _ _ _
  | exact drydockref16_find.mono _ _ _ _
  | exact drydockref16_why.mono _ _ _ _ _ _
  | exact LeO.none _
  | refine LeO.ite ?_ ?_
  | refine LeO.bind ?_ (fun _ => ?_)
def drydockref16_Attach.T19 : Bool × List (List Nat × List Nat) := (true, [([], []), ([0], [0]), ([], []), ([2], [2]), ([], []), ([3, 4], [3, 4]), ([5], [5]), ([6], [6]), ([1, 7], [1, 7]), ([0, 1, 2, 3, 4, 5, 6, 7, 8], []), ([9, 8, 8, 0, 1, 2, 3, 4, 5, 6, 7, 8], [8, 9])])
def drydockref16_Attach.B19 : List Nat := [0, 1, 0, 4, 0, 28, 60, 124, 255, 511, 1023]
theorem drydockref16_Attach.tab19 : rtab .any (opsOf Try.f13 19) = drydockref16_Attach.T19 := by kernel_rfl
theorem drydockref16_Attach.bits19 : waitsOk drydockref16_Attach.T19.2 drydockref16_Attach.B19 = true := by kernel_rfl
set_option maxHeartbeats 8000000 in
set_option maxRecDepth 100000 in
theorem drydockref16_Attach.calls (k : Nat) (a0_0 : Int) (A0_1 : Option Addr) (c0_1 : Nat) (l0_1 : List (S26)) (a1_0 : Int) (a1_1 : Int) (a2 : Int) (a3 : Int) (a4 : Int) (r1 : Int) (r2 : List (S26)) (r3 : Int) (w : World) (hr0_1 : Kd.C k26 w A0_1 l0_1.length l0_1) (hc0_1 : l0_1.length ≤ c0_1) (h : drydockref16_Attach.f k a0_0 l0_1 a1_0 a1_1 a2 a3 a4 = some (r1, r2, r3)) :
    Calls Try.prog 13 #[.agg #[.int .i64 a0_0, .slice A0_1 l0_1.length c0_1], .agg #[.int .i64 a1_0, .int .i64 a1_1], .int .i64 a2, .int .i64 a3, .int .i64 a4] w fun e w' => ∃ v1_ : Value, e = .returned (.tuple #[.agg #[.int .i64 r1, v1_], .int .i64 r3]) ∧ Kd.R k26 26 w' w.heap.size (fun _ => True) v1_ r2 ∧ Below w.heap.size w w' := by
 have hu24 := Try.underlying24
 have hu26 := Try.underlying26
 have HR0_1 := Aside0.mk hr0_1
 have HC0_1 := Aside0.mk hc0_1
 clear hr0_1 hc0_1
 have HB := Aside0.mk (Below.refl w.heap.size w)
 have H : ((drydockref16_why.f k a0_0 l0_1 a1_0 a1_1 a4).bind fun t169 => (if t169 = 0 then (if a2 < 0 then (drydockref16_Attach.j0 k a2 a3 a4 true a0_0 l0_1 a1_0 a1_1) else (if a2 > 3 then (drydockref16_Attach.j0 k a2 a3 a4 true a0_0 l0_1 a1_0 a1_1) else ((drydockref16_find.f k a0_0 l0_1 a1_0).bind fun t170 => (drydockref16_Attach.j0 k a2 a3 a4 (decide (t170 ≥ 0)) a0_0 l0_1 a1_0 a1_1)))) else (some (0, ([] : List (S26)), t169)))) = some (r1, r2, r3) := h
 clear h
 replace H := Option.bind_eq_some_iff.mp H
 obtain ⟨t169, A60, H⟩ := H
 replace H : (if t169 = 0 then (if a2 < 0 then (drydockref16_Attach.j0 k a2 a3 a4 true a0_0 l0_1 a1_0 a1_1) else (if a2 > 3 then (drydockref16_Attach.j0 k a2 a3 a4 true a0_0 l0_1 a1_0 a1_1) else ((drydockref16_find.f k a0_0 l0_1 a1_0).bind fun t170 => (drydockref16_Attach.j0 k a2 a3 a4 (decide (t170 ≥ 0)) a0_0 l0_1 a1_0 a1_1)))) else (some (0, ([] : List (S26)), t169))) = some (r1, r2, r3) := H
 have A6 := Aside0.mk A60
 clear A60
 by_cases c7 : t169 = 0
 ·rw [if_pos c7] at H
  have c7b0 : (t169 == 0) = true := beq_iff_eq.mpr c7
  have c7b1 : (t169 != 0) = false := bne_eq_false_iff_eq.mpr c7
  clear c7
  have HC8 := Aside0.mk H
  clear H
  go_enter Try.func13, Try.ntmps13
  go_upto_region 4 with (first | ((with_reducible refine gate_dst (N := 5) rfl ?_); refine box_event ?hg (N := 5) ?hd (cs := #[.int .i64 a0_0, .slice A0_1 l0_1.length c0_1]) (t := 24) ?hr ?_; (case hd => rfl); (case hg => rfl); (case hr => first | (go_simp; done) | (go_simp; rfl)); intro gb166 hg w9 hbox hb; have n0_ := Aside0.mk (below_step bs_ hb); have n1_ := Aside0.mk (hbox); have n2_ := Aside0.mk ((by rw [hg]; exact (below_size bs_) : w.heap.size ≤ gb166)); have n3_ := Aside0.mk ((by rw [hg]; exact (below_size bs_) : w.heap.size ≤ gb166)); clear HB; have HB := n0_; have BK166 := n1_; have GW166 := n2_; have GE166 := n3_; clear n0_ n1_ n2_ n3_; clear hb hbox hg) | ((with_reducible refine gate_dst (N := 6) rfl ?_); refine box_event ?hg (N := 6) ?hd (cs := #[.int .i64 a1_0, .int .i64 a1_1]) (t := 26) ?hr ?_; (case hd => rfl); (case hg => rfl); (case hr => first | (go_simp; done) | (go_simp; rfl)); intro gb167 hg w10 hbox hb; have n0_ := Aside0.mk (blk_below (bk_ BK166) hb); have n1_ := Aside0.mk (below_step bs_ hb); have n2_ := Aside0.mk (hbox); have n3_ := Aside0.mk ((by rw [hg]; exact (below_size bs_) : w.heap.size ≤ gb167)); have n4_ := Aside0.mk ((by rw [hg]; exact (below_size bs_) : w.heap.size ≤ gb167)); have n5_ := Aside0.mk ((by rw [hg]; exact Nat.ne_of_lt (blk_lt (bk_ BK166)) : gb166 ≠ gb167)); have n6_ := Aside0.mk ((by rw [hg]; exact Nat.ne_of_gt (blk_lt (bk_ BK166)) : gb167 ≠ gb166)); clear BK166 HB; have BK166 := n0_; have HB := n1_; have BK167 := n2_; have GW167 := n3_; have GE167 := n4_; have NB166_167 := n5_; have NB167_166 := n6_; clear n0_ n1_ n2_ n3_ n4_ n5_ n6_; clear hb hbox hg) | ((with_reducible refine gate_dst (N := 10) rfl ?_); refine box_event ?hg (N := 10) ?hd (cs := #[.int .i64 0, .slice none 0 0]) (t := 24) ?hr ?_; (case hd => rfl); (case hg => rfl); (case hr => first | (go_simp; done) | (go_simp; rfl)); intro gb168 hg w11 hbox hb; have n0_ := Aside0.mk (blk_below (bk_ BK166) hb); have n1_ := Aside0.mk (blk_below (bk_ BK167) hb); have n2_ := Aside0.mk (below_step bs_ hb); have n3_ := Aside0.mk (hbox); have n4_ := Aside0.mk ((by rw [hg]; exact (below_size bs_) : w.heap.size ≤ gb168)); have n5_ := Aside0.mk ((by rw [hg]; exact (below_size bs_) : w.heap.size ≤ gb168)); have n6_ := Aside0.mk ((by rw [hg]; exact Nat.ne_of_lt (blk_lt (bk_ BK166)) : gb166 ≠ gb168)); have n7_ := Aside0.mk ((by rw [hg]; exact Nat.ne_of_gt (blk_lt (bk_ BK166)) : gb168 ≠ gb166)); have n8_ := Aside0.mk ((by rw [hg]; exact Nat.ne_of_lt (blk_lt (bk_ BK167)) : gb167 ≠ gb168)); have n9_ := Aside0.mk ((by rw [hg]; exact Nat.ne_of_gt (blk_lt (bk_ BK167)) : gb168 ≠ gb167)); clear BK166 BK167 HB; have BK166 := n0_; have BK167 := n1_; have HB := n2_; have BK168 := n3_; have GW168 := n4_; have GE168 := n5_; have NB166_168 := n6_; have NB168_166 := n7_; have NB167_168 := n8_; have NB168_167 := n9_; clear n0_ n1_ n2_ n3_ n4_ n5_ n6_ n7_ n8_ n9_; clear hb hbox hg; have hnb12 := NB166_167.out; have hnc12 := NB167_166.out; have hnb13 := NB166_168.out; have hnc13 := NB168_166.out; obtain ⟨hcz14_0, hcz14_1, hfz14_0, hfz14_1⟩ := blk2 BK166; have hnb15 := NB167_168.out; have hnc15 := NB168_167.out; obtain ⟨hcz16_0, hcz16_1, hfz16_0, hfz16_1⟩ := blk2 BK167) | ((with_reducible refine gate_callee (f := 26) rfl ?_); refine goesL_ (some 19) rfl rfl Try.func26 (by kernel_rfl) rfl #[.agg #[.int .i64 a0_0, .slice A0_1 l0_1.length c0_1], .agg #[.int .i64 a1_0, .int .i64 a1_1], .int .i64 a4] rfl (by (try simp only [List.map_toArray, List.map_cons, List.map_nil]); first | done | rfl | (simp only [List.length_drop, List.length_take]; rfl)) ?_; (with_reducible refine (drydockref16_why.calls k a0_0 _ _ l0_1 a1_0 a1_1 a4 t169 _ ?side1 ?side2 A6.out).mono ?_); (case side1 => repeat (first | exact (Kd.C_below HR0_1.out HB.out) | (with_reducible refine Kd.C_alloc ?_ _) | (with_reducible refine Kd.C_drewN ?_ _) | (with_reducible refine Kd.C_drew ?_))); (case side2 => exact HC0_1.out); rintro e w17 ⟨rfl, hb⟩; refine ⟨_, rfl, ?_⟩; have n0_ := Aside0.mk (blk_below (bk_ BK166) hb); have n1_ := Aside0.mk (blk_below (bk_ BK167) hb); have n2_ := Aside0.mk (blk_below (bk_ BK168) hb); have n3_ := Aside0.mk (below_step bs_ hb); clear BK166 BK167 BK168 HB; have BK166 := n0_; have BK167 := n1_; have BK168 := n2_; have HB := n3_; clear n0_ n1_ n2_ n3_; (try clear hb); (try clear hb2); (try clear hk); (try clear hi)))
  (try simp only [Act.put, List.setIfInBounds_toArray, List.set_cons_zero, List.set_cons_succ])
  go_cut [36] (fun v36 wc => ∃ (kq : Nat) (x36_7 : Bool), v36 = .bool x36_7 ∧ Aside0 (drydockref16_Attach.j0 kq a2 a3 a4 x36_7 a0_0 l0_1 a1_0 a1_1 = some (r1, r2, r3)) ∧ Aside0 (kq ≤ k) ∧ Aside0 (wc.heap[gb166]? = some (.cells #[.int .i64 a0_0, (.slice A0_1 l0_1.length c0_1)] 24 (0, 0))) ∧ Aside0 (wc.heap[gb167]? = some (.cells #[.int .i64 a1_0, .int .i64 a1_1] 26 (0, 0))) ∧ Aside0 (wc.heap[gb168]? = some (.cells #[.int .i64 0, (.slice none 0 0)] 24 (0, 0))) ∧ Aside0 (Below w.heap.size w wc))
  case first =>
   have H := HC8.out
   clear HC8
   by_cases c18 : a2 < 0
   ·rw [if_pos c18] at H
    have c18b0 : decide (a2 < 0) = true := decide_eq_true c18
    clear c18
    (first | rw [c18b0] | (simp only [i64_w, i32_w]; rw [c18b0]) | skip)
    have H' := Aside0.mk H
    clear H
    go_wp2
    go_meet
    case rel => exact ⟨_, (true), (by first | rfl | (simp; done) | (simp [*]; done)), H', ⟨by first | omega | exact Nat.le_refl _⟩, ⟨bk_ BK166⟩, ⟨bk_ BK167⟩, ⟨bk_ BK168⟩, ⟨bs_⟩⟩
   ·rw [if_neg c18] at H
    have c18b0 : decide (a2 < 0) = false := decide_eq_false c18
    clear c18
    (first | rw [c18b0] | (simp only [i64_w, i32_w]; rw [c18b0]) | skip)
    by_cases c19 : a2 > 3
    ·rw [if_pos c19] at H
     have c19b0 : decide (3 < a2) = true := decide_eq_true c19
     clear c19
     have H' := Aside0.mk H
     clear H
     go_wp2
     go_meet
     case rel => exact ⟨_, (true), (by first | rfl | (simp; done) | (simp [*]; done)), H', ⟨by first | omega | exact Nat.le_refl _⟩, ⟨bk_ BK166⟩, ⟨bk_ BK167⟩, ⟨bk_ BK168⟩, ⟨bs_⟩⟩
    ·rw [if_neg c19] at H
     have c19b0 : decide (3 < a2) = false := decide_eq_false c19
     clear c19
     replace H := Option.bind_eq_some_iff.mp H
     obtain ⟨t170, A200, H⟩ := H
     replace H : (drydockref16_Attach.j0 k a2 a3 a4 (decide (t170 ≥ 0)) a0_0 l0_1 a1_0 a1_1) = some (r1, r2, r3) := H
     have A20 := Aside0.mk A200
     clear A200
     have H' := Aside0.mk H
     clear H
     have hnb21 := NB166_167.out
     have hnc21 := NB167_166.out
     have hnb22 := NB166_168.out
     have hnc22 := NB168_166.out
     obtain ⟨hcz23_0, hcz23_1, hfz23_0, hfz23_1⟩ := blk2 BK166
     have hnb24 := NB167_168.out
     have hnc24 := NB168_167.out
     obtain ⟨hcz25_0, hcz25_1, hfz25_0, hfz25_1⟩ := blk2 BK167
     go_wp2_with (first | (go_at_call 27; (with_reducible refine (drydockref16_find.calls k a0_0 _ _ l0_1 a1_0 t170 _ ?side1 ?side2 A20.out).mono ?_); (case side1 => repeat (first | exact (Kd.C_below HR0_1.out HB.out) | (with_reducible refine Kd.C_alloc ?_ _) | (with_reducible refine Kd.C_drewN ?_ _) | (with_reducible refine Kd.C_drew ?_))); (case side2 => exact HC0_1.out); rintro e w26 ⟨rfl, hb⟩; have n0_ := Aside0.mk (blk_below (bk_ BK166) hb); have n1_ := Aside0.mk (blk_below (bk_ BK167) hb); have n2_ := Aside0.mk (blk_below (bk_ BK168) hb); have n3_ := Aside0.mk (below_step bs_ hb); clear BK166 BK167 BK168 HB; have BK166 := n0_; have BK167 := n1_; have BK168 := n2_; have HB := n3_; clear n0_ n1_ n2_ n3_; (try clear hb); (try clear hb2); (try clear hk); (try clear hi)))
     go_meet
     case rel => exact ⟨_, (decide (t170 ≥ 0)), (by first | rfl | (simp; done) | (simp [*]; done)), H', ⟨by first | omega | exact Nat.le_refl _⟩, ⟨bk_ BK166⟩, ⟨bk_ BK167⟩, ⟨bk_ BK168⟩, ⟨bs_⟩⟩
  case rest =>
   clear HC8
   try clear c7
   try clear c7b0
   try clear c7b1
   try clear hcz14_0
   try clear hcz14_1
   try clear hcz16_0
   try clear hcz16_1
   try clear hfz14_0
   try clear hfz14_1
   try clear hfz16_0
   try clear hfz16_1
   obtain ⟨kq, x36_7, rfl, HA, HJ7, BK166, BK167, BK168, HB⟩ := hcut
   cases kq with
   | zero => exact absurd HA.out (by simp [drydockref16_Attach.j0])
   | succ kj7 =>
    have H := HA.out
    clear HA
    simp only [drydockref16_Attach.j0] at H
    by_cases c27 : x36_7 = true
    ·subst c27
     have H1 : (some (0, ([] : List (S26)), 1)) = some (r1, r2, r3) := by rw [if_pos rfl] at H; exact H
     clear H
     have H := H1
     clear H1
     simp only [Option.some.injEq, Prod.mk.injEq] at H
     obtain ⟨rfl, rfl, rfl⟩ := H
     have hnb28 := NB168_166.out
     have hnc28 := NB166_168.out
     have hnb29 := NB168_167.out
     have hnc29 := NB167_168.out
     obtain ⟨hcz30_0, hcz30_1, hfz30_0, hfz30_1⟩ := blk2 BK168
     go_wp2
     refine bodyPost_ret (results_ct rfl _ _ gb168 24 #[.int .i64 0, .slice none 0 0] (0, 0) _ rfl (bp_ BK168) Try.underlying24 rfl (by kernel_rfl)) rfl ?_
     exact ⟨_, by first | rfl | (simp [errW_none, errW_some] <;> rfl) | (simp [*, errW_none, errW_some] <;> rfl), by first | exact Kd.R_nil _ _ _ _ _ | exact Kd.N_nil _ _ _ _ _ | exact Kd.V_nil _ _ _ _ _ | exact Kd.Q_nil _ _ _ _ _ | exact Kd.S_nil _ _ _ _ _, by repeat (first | (with_reducible first | exact HB.out | apply below_alloc | apply pw_below_drewN | apply below_drew1 | refine below_set ?_ GE166.out | refine below_set ?_ GE167.out | refine below_set ?_ GE168.out) | exact HB.out)⟩
    ·replace c27 := Bool.eq_false_iff.mpr c27
     subst c27
     have H1 : (if a2 ≥ 2 then ((drydockref16_find.f kj7 a0_0 l0_1 a3).bind fun t171 => (drydockref16_Attach.j1 kj7 a2 a3 a4 (decide (t171 < 0)) a0_0 l0_1 a1_0 a1_1)) else (drydockref16_Attach.j1 kj7 a2 a3 a4 false a0_0 l0_1 a1_0 a1_1)) = some (r1, r2, r3) := by rw [if_neg (show ¬ (false = true) by decide)] at H; exact H
     clear H
     have H := H1
     clear H1
     have HC31 := Aside0.mk H
     clear H
     go_upto_region 6 with (fail)
     go_cut [45] (fun v45 wc => ∃ (kq : Nat) (x45_30 : Bool), v45 = .bool x45_30 ∧ Aside0 (drydockref16_Attach.j1 kq a2 a3 a4 x45_30 a0_0 l0_1 a1_0 a1_1 = some (r1, r2, r3)) ∧ Aside0 (kq ≤ kj7) ∧ Aside0 (wc.heap[gb166]? = some (.cells #[.int .i64 a0_0, (.slice A0_1 l0_1.length c0_1)] 24 (0, 0))) ∧ Aside0 (wc.heap[gb167]? = some (.cells #[.int .i64 a1_0, .int .i64 a1_1] 26 (0, 0))) ∧ Aside0 (wc.heap[gb168]? = some (.cells #[.int .i64 0, (.slice none 0 0)] 24 (0, 0))) ∧ Aside0 (Below w.heap.size w wc))
     case first =>
      have H := HC31.out
      clear HC31
      by_cases c32 : a2 ≥ 2
      ·rw [if_pos c32] at H
       have c32b0 : decide (2 ≤ a2) = true := decide_eq_true c32
       clear c32
       (first | rw [c32b0] | (simp only [i64_w, i32_w]; rw [c32b0]) | skip)
       replace H := Option.bind_eq_some_iff.mp H
       obtain ⟨t171, A330, H⟩ := H
       replace H : (drydockref16_Attach.j1 kj7 a2 a3 a4 (decide (t171 < 0)) a0_0 l0_1 a1_0 a1_1) = some (r1, r2, r3) := H
       have A33 := Aside0.mk A330
       clear A330
       have H' := Aside0.mk H
       clear H
       have hnb34 := NB166_167.out
       have hnc34 := NB167_166.out
       have hnb35 := NB166_168.out
       have hnc35 := NB168_166.out
       obtain ⟨hcz36_0, hcz36_1, hfz36_0, hfz36_1⟩ := blk2 BK166
       go_wp2_with (first | (go_at_call 27; (with_reducible refine (drydockref16_find.calls kj7 a0_0 _ _ l0_1 a3 t171 _ ?side1 ?side2 A33.out).mono ?_); (case side1 => repeat (first | exact (Kd.C_below HR0_1.out HB.out) | (with_reducible refine Kd.C_alloc ?_ _) | (with_reducible refine Kd.C_drewN ?_ _) | (with_reducible refine Kd.C_drew ?_))); (case side2 => exact HC0_1.out); rintro e w37 ⟨rfl, hb⟩; have n0_ := Aside0.mk (blk_below (bk_ BK166) hb); have n1_ := Aside0.mk (blk_below (bk_ BK167) hb); have n2_ := Aside0.mk (blk_below (bk_ BK168) hb); have n3_ := Aside0.mk (below_step bs_ hb); clear BK166 BK167 BK168 HB; have BK166 := n0_; have BK167 := n1_; have BK168 := n2_; have HB := n3_; clear n0_ n1_ n2_ n3_; (try clear hb); (try clear hb2); (try clear hk); (try clear hi)))
       go_meet
       case rel => exact ⟨_, (decide (t171 < 0)), (by first | rfl | (simp; done) | (simp [*]; done)), H', ⟨by have := HJ7.out; first | omega | exact Nat.le_refl _⟩, ⟨bk_ BK166⟩, ⟨bk_ BK167⟩, ⟨bk_ BK168⟩, ⟨bs_⟩⟩
      ·rw [if_neg c32] at H
       have c32b0 : decide (2 ≤ a2) = false := decide_eq_false c32
       clear c32
       (first | rw [c32b0] | (simp only [i64_w, i32_w]; rw [c32b0]) | skip)
       have H' := Aside0.mk H
       clear H
       go_wp2
       go_meet
       case rel => exact ⟨_, (false), (by first | rfl | (simp; done) | (simp [*]; done)), H', ⟨by have := HJ7.out; first | omega | exact Nat.le_refl _⟩, ⟨bk_ BK166⟩, ⟨bk_ BK167⟩, ⟨bk_ BK168⟩, ⟨bs_⟩⟩
     case rest =>
      clear HC31
      try clear c7
      try clear c7b0
      try clear c7b1
      try clear c27
      try clear hcz14_0
      try clear hcz14_1
      try clear hcz16_0
      try clear hcz16_1
      try clear hfz14_0
      try clear hfz14_1
      try clear hfz16_0
      try clear hfz16_1
      obtain ⟨kq, x45_30, rfl, HA, HJ30, BK166, BK167, BK168, HB⟩ := hcut
      cases kq with
      | zero => exact absurd HA.out (by simp [drydockref16_Attach.j1])
      | succ kj30 =>
       have H := HA.out
       clear HA
       simp only [drydockref16_Attach.j1] at H
       by_cases c38 : x45_30 = true
       ·subst c38
        have H1 : (some (0, ([] : List (S26)), 3)) = some (r1, r2, r3) := by rw [if_pos rfl] at H; exact H
        clear H
        have H := H1
        clear H1
        simp only [Option.some.injEq, Prod.mk.injEq] at H
        obtain ⟨rfl, rfl, rfl⟩ := H
        have hnb39 := NB168_166.out
        have hnc39 := NB166_168.out
        have hnb40 := NB168_167.out
        have hnc40 := NB167_168.out
        obtain ⟨hcz41_0, hcz41_1, hfz41_0, hfz41_1⟩ := blk2 BK168
        go_wp2
        refine bodyPost_ret (results_ct rfl _ _ gb168 24 #[.int .i64 0, .slice none 0 0] (0, 0) _ rfl (bp_ BK168) Try.underlying24 rfl (by kernel_rfl)) rfl ?_
        exact ⟨_, by first | rfl | (simp [errW_none, errW_some] <;> rfl) | (simp [*, errW_none, errW_some] <;> rfl), by first | exact Kd.R_nil _ _ _ _ _ | exact Kd.N_nil _ _ _ _ _ | exact Kd.V_nil _ _ _ _ _ | exact Kd.Q_nil _ _ _ _ _ | exact Kd.S_nil _ _ _ _ _, by repeat (first | (with_reducible first | exact HB.out | apply below_alloc | apply pw_below_drewN | apply below_drew1 | refine below_set ?_ GE166.out | refine below_set ?_ GE167.out | refine below_set ?_ GE168.out) | exact HB.out)⟩
       ·replace c38 := Bool.eq_false_iff.mpr c38
        subst c38
        have H1 : (if (l0_1.length : Int) ≥ 4 then (some (0, ([] : List (S26)), 4)) else (if a2 = 0 then (if ([] : List (S26)).length < 8796093022208 then (drydockref16_Attach.j2 kj30 a2 a3 a0_0 l0_1 a1_0 a1_1 (wrap64 (a4 + 1)) (([] : List (S26)) ++ [(⟨a1_0, a1_1⟩ : S26)])) else (none)) else (drydockref16_Attach.j2 kj30 a2 a3 a0_0 l0_1 a1_0 a1_1 (wrap64 (a4 + 1)) ([] : List (S26))))) = some (r1, r2, r3) := by rw [if_neg (show ¬ (false = true) by decide)] at H; exact H
        clear H
        have H := H1
        clear H1
        by_cases c42 : (l0_1.length : Int) ≥ 4
        ·rw [if_pos c42] at H
         have c42b0 : decide (4 ≤ (l0_1.length : Int)) = true := decide_eq_true c42
         have c42b1 : decide (4 ≤ l0_1.length) = true := decide_eq_true (by omega)
         clear c42
         simp only [Option.some.injEq, Prod.mk.injEq] at H
         obtain ⟨rfl, rfl, rfl⟩ := H
         have hnb43 := NB166_167.out
         have hnc43 := NB167_166.out
         have hnb44 := NB166_168.out
         have hnc44 := NB168_166.out
         obtain ⟨hcz45_0, hcz45_1, hfz45_0, hfz45_1⟩ := blk2 BK166
         have hnb46 := NB168_167.out
         have hnc46 := NB167_168.out
         obtain ⟨hcz47_0, hcz47_1, hfz47_0, hfz47_1⟩ := blk2 BK168
         go_wp2
         refine bodyPost_ret (results_ct rfl _ _ gb168 24 #[.int .i64 0, .slice none 0 0] (0, 0) _ rfl (bp_ BK168) Try.underlying24 rfl (by kernel_rfl)) rfl ?_
         exact ⟨_, by first | rfl | (simp [errW_none, errW_some] <;> rfl) | (simp [*, errW_none, errW_some] <;> rfl), by first | exact Kd.R_nil _ _ _ _ _ | exact Kd.N_nil _ _ _ _ _ | exact Kd.V_nil _ _ _ _ _ | exact Kd.Q_nil _ _ _ _ _ | exact Kd.S_nil _ _ _ _ _, by repeat (first | (with_reducible first | exact HB.out | apply below_alloc | apply pw_below_drewN | apply below_drew1 | refine below_set ?_ GE166.out | refine below_set ?_ GE167.out | refine below_set ?_ GE168.out) | exact HB.out)⟩
        ·rw [if_neg c42] at H
         have c42b0 : decide (4 ≤ (l0_1.length : Int)) = false := decide_eq_false c42
         have c42b1 : decide (4 ≤ l0_1.length) = false := decide_eq_false (by omega)
         clear c42
         have HC48 := Aside0.mk H
         clear H
         have hnb49 := NB166_167.out
         have hnc49 := NB167_166.out
         have hnb50 := NB166_168.out
         have hnc50 := NB168_166.out
         obtain ⟨hcz51_0, hcz51_1, hfz51_0, hfz51_1⟩ := blk2 BK166
         go_upto_if 56 with (first | ((with_reducible refine gate_dst (N := 13) rfl ?_); refine box_event ?hg (N := 13) ?hd (cs := #[.int .i64 0, .slice none 0 0]) (t := 24) ?hr ?_; (case hd => rfl); (case hg => rfl); (case hr => first | (go_simp; done) | (go_simp; rfl)); intro gb172 hg w52 hbox hb; have n0_ := Aside0.mk (blk_below (bk_ BK166) hb); have n1_ := Aside0.mk (blk_below (bk_ BK167) hb); have n2_ := Aside0.mk (blk_below (bk_ BK168) hb); have n3_ := Aside0.mk (below_step bs_ hb); have n4_ := Aside0.mk (hbox); have n5_ := Aside0.mk ((by rw [hg]; exact (below_size bs_) : w.heap.size ≤ gb172)); have n6_ := Aside0.mk ((by rw [hg]; exact (below_size bs_) : w.heap.size ≤ gb172)); have n7_ := Aside0.mk ((by rw [hg]; exact Nat.ne_of_lt (blk_lt (bk_ BK166)) : gb166 ≠ gb172)); have n8_ := Aside0.mk ((by rw [hg]; exact Nat.ne_of_gt (blk_lt (bk_ BK166)) : gb172 ≠ gb166)); have n9_ := Aside0.mk ((by rw [hg]; exact Nat.ne_of_lt (blk_lt (bk_ BK167)) : gb167 ≠ gb172)); have n10_ := Aside0.mk ((by rw [hg]; exact Nat.ne_of_gt (blk_lt (bk_ BK167)) : gb172 ≠ gb167)); have n11_ := Aside0.mk ((by rw [hg]; exact Nat.ne_of_lt (blk_lt (bk_ BK168)) : gb168 ≠ gb172)); have n12_ := Aside0.mk ((by rw [hg]; exact Nat.ne_of_gt (blk_lt (bk_ BK168)) : gb172 ≠ gb168)); clear BK166 BK167 BK168 HB; have BK166 := n0_; have BK167 := n1_; have BK168 := n2_; have HB := n3_; have BK172 := n4_; have GW172 := n5_; have GE172 := n6_; have NB166_172 := n7_; have NB172_166 := n8_; have NB167_172 := n9_; have NB172_167 := n10_; have NB168_172 := n11_; have NB172_168 := n12_; clear n0_ n1_ n2_ n3_ n4_ n5_ n6_ n7_ n8_ n9_ n10_ n11_ n12_; clear hb hbox hg; have hnb53 := NB172_166.out; have hnc53 := NB166_172.out; have hnb54 := NB172_167.out; have hnc54 := NB167_172.out; have hnb55 := NB172_168.out; have hnc55 := NB168_172.out; obtain ⟨hcz56_0, hcz56_1, hfz56_0, hfz56_1⟩ := blk2 BK172))
         (try simp only [Act.put, List.setIfInBounds_toArray, List.set_cons_zero, List.set_cons_succ])
         go_cut [] (fun wc => ∃ (kq : Nat) (x173001_47 : List (S26)) (u173001 : Value), Aside0 (drydockref16_Attach.j2 kq a2 a3 a0_0 l0_1 a1_0 a1_1 (wrap64 (a4 + 1)) x173001_47 = some (r1, r2, r3)) ∧ Aside0 (kq ≤ kj30) ∧ Aside0 (Kd.R k26 26 wc w.heap.size (fun k_ => k_ ≠ gb167) u173001 x173001_47) ∧ Aside0 (wc.heap[gb166]? = some (.cells #[.int .i64 a0_0, (.slice A0_1 l0_1.length c0_1)] 24 (0, 0))) ∧ Aside0 (wc.heap[gb167]? = some (.cells #[.int .i64 a1_0, .int .i64 a1_1] 26 (0, 0))) ∧ Aside0 (wc.heap[gb168]? = some (.cells #[.int .i64 0, (.slice none 0 0)] 24 (0, 0))) ∧ Aside0 (wc.heap[gb172]? = some (.cells #[.int .i64 (wrap64 (a4 + 1)), u173001] 24 (0, 0))) ∧ Aside0 (Below w.heap.size w wc))
         case first =>
          have H := HC48.out
          clear HC48
          by_cases c57 : a2 = 0
          ·rw [if_pos c57] at H
           have c57b0 : (a2 == 0) = true := beq_iff_eq.mpr c57
           have c57b1 : (a2 != 0) = false := bne_eq_false_iff_eq.mpr c57
           clear c57
           (first | rw [c57b0] | (simp only [i64_w, i32_w]; rw [c57b0]) | skip)
           by_cases c58 : ([] : List (S26)).length < 8796093022208
           ·rw [if_pos c58] at H
            have LMc58 := Aside0.mk c58
            clear c58
            obtain ⟨y173, hy173⟩ : ∃ y_ : List (S26), y_ = (([] : List (S26)) ++ [(⟨a1_0, a1_1⟩ : S26)]) := ⟨_, rfl⟩
            replace H : (drydockref16_Attach.j2 kj30 a2 a3 a0_0 l0_1 a1_0 a1_1 (wrap64 (a4 + 1)) y173) = some (r1, r2, r3) := by first | (rw [hy173]; with_reducible exact H) | (have H2_ := (Option.bind_some _ _).symm.trans H; rw [hy173]; with_reducible exact H2_) | (have H2_ := (Option.bind_some _ _).symm.trans H; with_reducible exact H2_) | with_reducible exact H | (rw [hy173]; exact H) | exact H
            have Ny173 := Aside0.mk hy173
            clear hy173
            have H' := Aside0.mk H
            clear H
            have hnb59 := NB172_166.out
            have hnc59 := NB166_172.out
            have hnb60 := NB172_167.out
            have hnc60 := NB167_172.out
            have hnb61 := NB172_168.out
            have hnc61 := NB168_172.out
            obtain ⟨hcz62_0, hcz62_1, hfz62_0, hfz62_1⟩ := blk2 BK172
            have hnb63 := NB167_166.out
            have hnc63 := NB166_167.out
            have hnb64 := NB167_168.out
            have hnc64 := NB168_167.out
            obtain ⟨hcz65_0, hcz65_1, hfz65_0, hfz65_1⟩ := blk2 BK167
            go_wp2_with (first | ((with_reducible refine gate_builtin (b := .append) (xs := #[.tmp 58, .tmp 60]) rfl ?_); at_builtin; refine Kd.R_append k26 (w0 := w) w.heap.size rfl (.tmp 58) (.tmp 60) 22 26 (.agg #[(.int .i64 0), (.int .i64 0)]) 16 rfl Try.underlying22 info26 rfl (by decide) (by omega) (.slice none 0 0) ([] : List (S26)) (⟨a1_0, a1_1⟩ : S26) [.int .i64 a1_0, .int .i64 a1_1] (fun k_ => k_ ≠ gb167) (fun _ => False) rfl (by first | (go_simp; done) | (go_simp; rfl)) ?aP (fun _ hk => hk.elim) ?aF ?aO ?aB ?aS ?aL ?_; (case aP => exact k26_mkM _ _ _ (⟨a1_0, a1_1⟩ : S26)); (case aB => exact bs_); (case aF => exact (fun k_ hk => Kd.freshB (g := gb167) (o := .cells #[.int .i64 a1_0, .int .i64 a1_1] 26 (0, 0)) (bf_ BK167) k_ hk)); (case aO => exact ((Kd.R_nil _ _ _ _ (fun k_ => k_ ≠ gb167)))); (case aS => exact (below_size bs_)); (case aL => have := LMc58.out; omega); intro v174 w66 ho hb hg hat; rw [← Ny173.out] at ho; have n0_ := Aside0.mk (blk_grown (g := gb166) (o := .cells #[.int .i64 a0_0, .slice A0_1 l0_1.length c0_1] 24 (0, 0)) (bf_ BK166) hg (by simp [Value.ownBlock])); have n1_ := Aside0.mk (blk_grown (g := gb167) (o := .cells #[.int .i64 a1_0, .int .i64 a1_1] 26 (0, 0)) (bf_ BK167) hg (by simp [Value.ownBlock])); have n2_ := Aside0.mk (blk_grown (g := gb168) (o := .cells #[.int .i64 0, .slice none 0 0] 24 (0, 0)) (bf_ BK168) hg (by simp [Value.ownBlock])); have n3_ := Aside0.mk (blk_grown (g := gb172) (o := .cells #[.int .i64 (wrap64 (a4 + 1)), .slice none 0 0] 24 (0, 0)) (bp_ BK172) hg (by simp [Value.ownBlock])); have n4_ := Aside0.mk (hb); have n5_ := Aside0.mk (ho); clear BK166 BK167 BK168 BK172 HB; have BK166 := n0_; have BK167 := n1_; have BK168 := n2_; have BK172 := n3_; have HB := n4_; have HO175 := n5_; clear n0_ n1_ n2_ n3_ n4_ n5_; clear ho hb hg hat; obtain ⟨Ao67, co67, eo67⟩ := Kd.R_slice HO175.out; subst eo67; obtain ⟨hcz68_0, hcz68_1, hfz68_0, hfz68_1⟩ := blk2 BK172))
            go_meet
            case rel => exact ⟨_, (y173), (.slice Ao67 y173.length co67), H', ⟨by have := HJ7.out; have := HJ30.out; first | omega | exact Nat.le_refl _⟩, ⟨by (with_reducible repeat (first | apply Kd.R_alloc | apply Kd.R_drewN | apply Kd.R_drew)); exact Kd.R_mono (Kd.R_far (p := ⟨gb172, 1, none⟩) (Kd.R_types HO175.out BK172.out (by decide)) (fun _ hk => hk.2) (.slice Ao67 y173.length co67)) (fun _ hk => by first | exact hk.1 | trivial)⟩, ⟨bf_ BK166⟩, ⟨bf_ BK167⟩, ⟨bf_ BK168⟩, ⟨bp_ BK172⟩, ⟨bs_⟩⟩
           ·rw [if_neg c58] at H
            exact absurd H (by simp)
          ·rw [if_neg c57] at H
           have c57b0 : (a2 == 0) = false := beq_eq_false_iff_ne.mpr c57
           have c57b1 : (a2 != 0) = true := bne_iff_ne.mpr c57
           (first | rw [c57b0] | (simp only [i64_w, i32_w]; rw [c57b0]) | skip)
           have H' := Aside0.mk H
           clear H
           go_wp2
           go_meet
           case rel => exact ⟨_, (([] : List (S26))), (.slice none 0 0), H', ⟨by have := HJ7.out; have := HJ30.out; first | omega | exact Nat.le_refl _⟩, ⟨by first | exact Kd.R_nil _ _ _ _ _ | exact Kd.N_nil _ _ _ _ _ | exact Kd.V_nil _ _ _ _ _ | exact Kd.Q_nil _ _ _ _ _ | exact Kd.S_nil _ _ _ _ _⟩, ⟨bf_ BK166⟩, ⟨bf_ BK167⟩, ⟨bf_ BK168⟩, ⟨bp_ BK172⟩, ⟨bs_⟩⟩
         case rest =>
          clear HC48
          try clear c7
          try clear c7b0
          try clear c7b1
          try clear c27
          try clear c38
          try clear c42
          try clear c42b0
          try clear c42b1
          try clear hcz14_0
          try clear hcz14_1
          try clear hcz16_0
          try clear hcz16_1
          try clear hcz51_0
          try clear hcz51_1
          try clear hcz56_0
          try clear hcz56_1
          try clear hfz14_0
          try clear hfz14_1
          try clear hfz16_0
          try clear hfz16_1
          try clear hfz51_0
          try clear hfz51_1
          try clear hfz56_0
          try clear hfz56_1
          obtain ⟨kq, x173001_47, u173001, HA, HJ47, HO_173001, BK166, BK167, BK168, BK172, HB⟩ := hcut
          cases kq with
          | zero => exact absurd HA.out (by simp [drydockref16_Attach.j2])
          | succ kj47 =>
           have H := HA.out
           clear HA
           simp only [drydockref16_Attach.j2] at H
           have H' := Aside0.mk H
           clear H
           go_wp2
           go_loopg [14] kj47 (fun kq v14 w' => ∃ (x14_4 : Int) (x173001_4 : List (S26)) (u173001 : Value), v14 = .int .i64 x14_4 ∧ Aside0 (drydockref16_Attach.l0 kq a2 a3 x14_4 a0_0 l0_1 a1_0 a1_1 (wrap64 (a4 + 1)) x173001_4 = some (r1, r2, r3)) ∧ Aside0 (kq ≤ kj47) ∧ Aside0 (Kd.R k26 26 w' w.heap.size (fun k_ => k_ ≠ gb167) u173001 x173001_4) ∧ Aside0 (w'.heap[gb166]? = some (.cells #[.int .i64 a0_0, (.slice A0_1 l0_1.length c0_1)] 24 (0, 0))) ∧ Aside0 (w'.heap[gb167]? = some (.cells #[.int .i64 a1_0, .int .i64 a1_1] 26 (0, 0))) ∧ Aside0 (w'.heap[gb168]? = some (.cells #[.int .i64 0, (.slice none 0 0)] 24 (0, 0))) ∧ Aside0 (w'.heap[gb172]? = some (.cells #[.int .i64 (wrap64 (a4 + 1)), u173001] 24 (0, 0))) ∧ Aside0 (Below w.heap.size w w'))
           case atStart => exact ⟨(0), (x173001_47), (u173001), (by first | rfl | (simp; done) | (simp [*]; done)), H', ⟨Nat.le_refl _⟩, ⟨by (with_reducible repeat (first | apply Kd.R_alloc | apply Kd.R_drewN | apply Kd.R_drew)); exact HO_173001.out⟩, ⟨bk_ BK166⟩, ⟨bk_ BK167⟩, ⟨bk_ BK168⟩, ⟨bk_ BK172⟩, ⟨bs_⟩⟩
           case round =>
            clear H'
            try clear c7
            try clear c7b0
            try clear c7b1
            try clear c27
            try clear c38
            try clear c42
            try clear c42b0
            try clear c42b1
            try clear hcz14_0
            try clear hcz14_1
            try clear hcz16_0
            try clear hcz16_1
            try clear hcz51_0
            try clear hcz51_1
            try clear hcz56_0
            try clear hcz56_1
            try clear hfz14_0
            try clear hfz14_1
            try clear hfz16_0
            try clear hfz16_1
            try clear hfz51_0
            try clear hfz51_1
            try clear hfz56_0
            try clear hfz56_1
            obtain ⟨x14_4, x173001_4, u173001, rfl, HA, HK4, HO_173001, BK166, BK167, BK168, BK172, HB⟩ := hrel
            cases gk with
            | zero => exact absurd HA.out (by simp [drydockref16_Attach.l0])
            | succ k4 =>
             have H := HA.out
             clear HA
             simp only [drydockref16_Attach.l0] at H
             by_cases c69 : x14_4 < (l0_1.length : Int)
             ·rw [if_pos c69] at H
              have c69b0 : decide (x14_4 < (l0_1.length : Int)) = true := decide_eq_true c69
              clear c69
              by_cases c70 : 0 ≤ x14_4
              ·rw [if_pos c70] at H
               have c70b0 : decide (0 ≤ x14_4) = true := decide_eq_true c70
               clear c70
               by_cases c71 : ((rd_T26 l0_1 x14_4).f0) = a3
               ·rw [if_pos c71] at H
                have c71b0 : (((rd_T26 l0_1 x14_4).f0) == a3) = true := beq_iff_eq.mpr c71
                have c71b1 : (((rd_T26 l0_1 x14_4).f0) != a3) = false := bne_eq_false_iff_eq.mpr c71
                clear c71
                by_cases c72 : a2 = 2
                ·rw [if_pos c72] at H
                 have c72b0 : (a2 == 2) = true := beq_iff_eq.mpr c72
                 have c72b1 : (a2 != 2) = false := bne_eq_false_iff_eq.mpr c72
                 clear c72
                 by_cases c73 : x173001_4.length < 8796093022208
                 ·rw [if_pos c73] at H
                  have LMc73 := Aside0.mk c73
                  clear c73
                  obtain ⟨y177, hy177⟩ : ∃ y_ : List (S26), y_ = (x173001_4 ++ [(⟨a1_0, a1_1⟩ : S26)]) := ⟨_, rfl⟩
                  replace H : (if y177.length < 8796093022208 then ((some (y177 ++ [(⟨(rd_T26 l0_1 x14_4).f0, (rd_T26 l0_1 x14_4).f1⟩ : S26)] : List (S26))).bind fun y181 => (if a2 = 3 then (if y181.length < 8796093022208 then (drydockref16_Attach.l0 k4 a2 a3 (wrap64 (x14_4 + 1)) a0_0 l0_1 a1_0 a1_1 (wrap64 (a4 + 1)) (y181 ++ [(⟨a1_0, a1_1⟩ : S26)])) else (none)) else (drydockref16_Attach.l0 k4 a2 a3 (wrap64 (x14_4 + 1)) a0_0 l0_1 a1_0 a1_1 (wrap64 (a4 + 1)) y181))) else (none)) = some (r1, r2, r3) := by first | (rw [hy177]; with_reducible exact H) | (have H2_ := (Option.bind_some _ _).symm.trans H; rw [hy177]; with_reducible exact H2_) | (have H2_ := (Option.bind_some _ _).symm.trans H; with_reducible exact H2_) | with_reducible exact H | (rw [hy177]; exact H) | exact H
                  have Ny177 := Aside0.mk hy177
                  clear hy177
                  by_cases c74 : y177.length < 8796093022208
                  ·rw [if_pos c74] at H
                   have LMc74 := Aside0.mk c74
                   clear c74
                   obtain ⟨y181, hy181⟩ : ∃ y_ : List (S26), y_ = (y177 ++ [(⟨(rd_T26 l0_1 x14_4).f0, (rd_T26 l0_1 x14_4).f1⟩ : S26)]) := ⟨_, rfl⟩
                   replace H : (if a2 = 3 then (if y181.length < 8796093022208 then (drydockref16_Attach.l0 k4 a2 a3 (wrap64 (x14_4 + 1)) a0_0 l0_1 a1_0 a1_1 (wrap64 (a4 + 1)) (y181 ++ [(⟨a1_0, a1_1⟩ : S26)])) else (none)) else (drydockref16_Attach.l0 k4 a2 a3 (wrap64 (x14_4 + 1)) a0_0 l0_1 a1_0 a1_1 (wrap64 (a4 + 1)) y181)) = some (r1, r2, r3) := by first | (rw [hy181]; with_reducible exact H) | (have H2_ := (Option.bind_some _ _).symm.trans H; rw [hy181]; with_reducible exact H2_) | (have H2_ := (Option.bind_some _ _).symm.trans H; with_reducible exact H2_) | with_reducible exact H | (rw [hy181]; exact H) | exact H
                   have Ny181 := Aside0.mk hy181
                   clear hy181
                   by_cases c75 : a2 = 3
                   ·rw [if_pos c75] at H
                    have c75b0 : (a2 == 3) = true := beq_iff_eq.mpr c75
                    have c75b1 : (a2 != 3) = false := bne_eq_false_iff_eq.mpr c75
                    clear c75
                    by_cases c76 : y181.length < 8796093022208
                    ·rw [if_pos c76] at H
                     have LMc76 := Aside0.mk c76
                     clear c76
                     obtain ⟨y184, hy184⟩ : ∃ y_ : List (S26), y_ = (y181 ++ [(⟨a1_0, a1_1⟩ : S26)]) := ⟨_, rfl⟩
                     replace H : (drydockref16_Attach.l0 k4 a2 a3 (wrap64 (x14_4 + 1)) a0_0 l0_1 a1_0 a1_1 (wrap64 (a4 + 1)) y184) = some (r1, r2, r3) := by first | (rw [hy184]; with_reducible exact H) | (have H2_ := (Option.bind_some _ _).symm.trans H; rw [hy184]; with_reducible exact H2_) | (have H2_ := (Option.bind_some _ _).symm.trans H; with_reducible exact H2_) | with_reducible exact H | (rw [hy184]; exact H) | exact H
                     have Ny184 := Aside0.mk hy184
                     clear hy184
                     have H' := Aside0.mk H
                     clear H
                     have hnb77 := NB166_167.out
                     have hnc77 := NB167_166.out
                     have hnb78 := NB166_168.out
                     have hnc78 := NB168_166.out
                     have hnb79 := NB166_172.out
                     have hnc79 := NB172_166.out
                     obtain ⟨hcz80_0, hcz80_1, hfz80_0, hfz80_1⟩ := blk2 BK166
                     have p176 : 0 ≤ (x14_4 : Int) := of_decide_eq_true (by first | (with_reducible assumption) | assumption)
                     have q176 : x14_4 < (l0_1.length : Int) := of_decide_eq_true (by first | (with_reducible assumption) | assumption)
                     obtain ⟨ad176, e176, hx176_0, hx176_1⟩ := at_T26 HR0_1.out x14_4 p176 q176
                     cases e176
                     replace hx176_0 := (HB.out.cell (World.block_lt_of_cell? w _ hx176_0)).trans hx176_0
                     replace hx176_1 := (HB.out.cell (World.block_lt_of_cell? w _ hx176_1)).trans hx176_1
                     replace p176 := eq_true p176
                     replace q176 := eq_true q176
                     have hnb81 := NB172_167.out
                     have hnc81 := NB167_172.out
                     have hnb82 := NB172_168.out
                     have hnc82 := NB168_172.out
                     obtain ⟨hcz83_0, hcz83_1, hfz83_0, hfz83_1⟩ := blk2 BK172
                     have hnb84 := NB167_168.out
                     have hnc84 := NB168_167.out
                     obtain ⟨hcz85_0, hcz85_1, hfz85_0, hfz85_1⟩ := blk2 BK167
                     try go_wp2_with (first | ((with_reducible refine gate_builtin (b := .append) (xs := #[.tmp 84, .tmp 86]) rfl ?_); at_builtin; refine Kd.R_append k26 (w0 := w) w.heap.size rfl (.tmp 84) (.tmp 86) 22 26 (.agg #[(.int .i64 0), (.int .i64 0)]) 16 rfl Try.underlying22 info26 rfl (by decide) (by omega) u173001 x173001_4 (⟨a1_0, a1_1⟩ : S26) [.int .i64 a1_0, .int .i64 a1_1] (fun k_ => k_ ≠ gb167) (fun _ => False) rfl rfl ?aP (fun _ hk => hk.elim) ?aF ?aO ?aB ?aS ?aL ?_; (case aP => exact k26_mkM _ _ _ (⟨a1_0, a1_1⟩ : S26)); (case aB => exact bs_); (case aF => exact (fun k_ hk => Kd.freshB (g := gb167) (o := .cells #[.int .i64 a1_0, .int .i64 a1_1] 26 (0, 0)) (by (with_reducible repeat (first | refine blk_drewN ?_ _ | refine blk_drew ?_ | refine blk_alloc ?_ _)); exact BK167.out) k_ hk)); (case aO => exact (rk_ HO_173001)); (case aS => exact (below_size bs_)); (case aL => have := LMc73.out; omega); intro v178 w86 ho hb hg hat; rw [← Ny177.out] at ho; have n0_ := Aside0.mk (blk_grown (g := gb166) (o := .cells #[.int .i64 a0_0, .slice (some ad176) l0_1.length c0_1] 24 (0, 0)) (by (with_reducible repeat (first | refine blk_drewN ?_ _ | refine blk_drew ?_ | refine blk_alloc ?_ _)); exact BK166.out) hg (Kd.R_ne HO_173001.out BK166.out (by decide))); have n1_ := Aside0.mk (blk_grown (g := gb167) (o := .cells #[.int .i64 a1_0, .int .i64 a1_1] 26 (0, 0)) (by (with_reducible repeat (first | refine blk_drewN ?_ _ | refine blk_drew ?_ | refine blk_alloc ?_ _)); exact BK167.out) hg (Kd.R_away HO_173001.out (fun _ hk => hk))); have n2_ := Aside0.mk (blk_grown (g := gb168) (o := .cells #[.int .i64 0, .slice none 0 0] 24 (0, 0)) (by (with_reducible repeat (first | refine blk_drewN ?_ _ | refine blk_drew ?_ | refine blk_alloc ?_ _)); exact BK168.out) hg (Kd.R_ne HO_173001.out BK168.out (by decide))); have n3_ := Aside0.mk (blk_grown (g := gb172) (o := .cells #[.int .i64 (wrap64 (a4 + 1)), u173001] 24 (0, 0)) (by (with_reducible repeat (first | refine blk_drewN ?_ _ | refine blk_drew ?_ | refine blk_alloc ?_ _)); exact BK172.out) hg (Kd.R_ne HO_173001.out BK172.out (by decide))); have n4_ := Aside0.mk (hb); have n5_ := Aside0.mk (ho); clear BK166 BK167 BK168 BK172 HB HO_173001; have BK166 := n0_; have BK167 := n1_; have BK168 := n2_; have BK172 := n3_; have HB := n4_; have HO179 := n5_; clear n0_ n1_ n2_ n3_ n4_ n5_; clear ho hb hg hat; obtain ⟨Ao87, co87, eo87⟩ := Kd.R_slice HO179.out; subst eo87; obtain ⟨hcz88_0, hcz88_1, hfz88_0, hfz88_1⟩ := blk2 BK172))
                     have n0_ : Aside0 (Kd.R k26 26 (w86.setCell ⟨gb172, 1, none⟩ (.slice Ao87 y177.length co87)) w.heap.size (fun k_ => k_ ≠ gb167) (.slice Ao87 y177.length co87) y177) := ⟨by (with_reducible repeat (first | apply Kd.R_alloc | apply Kd.R_drewN | apply Kd.R_drew)); exact Kd.R_mono (Kd.R_far (p := ⟨gb172, 1, none⟩) (Kd.R_types HO179.out BK172.out (by decide)) (fun _ hk => hk.2) (.slice Ao87 y177.length co87)) (fun _ hk => hk.1)⟩
                     have n1_ : Aside0 ((w86.setCell ⟨gb172, 1, none⟩ (.slice Ao87 y177.length co87)).heap[gb166]? = some (.cells #[.int .i64 a0_0, .slice (some ad176) l0_1.length c0_1] 24 (0, 0))) := ⟨bf_ BK166⟩
                     have n2_ : Aside0 ((w86.setCell ⟨gb172, 1, none⟩ (.slice Ao87 y177.length co87)).heap[gb167]? = some (.cells #[.int .i64 a1_0, .int .i64 a1_1] 26 (0, 0))) := ⟨bf_ BK167⟩
                     have n3_ : Aside0 ((w86.setCell ⟨gb172, 1, none⟩ (.slice Ao87 y177.length co87)).heap[gb168]? = some (.cells #[.int .i64 0, .slice none 0 0] 24 (0, 0))) := ⟨bf_ BK168⟩
                     have n4_ : Aside0 ((w86.setCell ⟨gb172, 1, none⟩ (.slice Ao87 y177.length co87)).heap[gb172]? = some (.cells #[.int .i64 (wrap64 (a4 + 1)), .slice Ao87 y177.length co87] 24 (0, 0))) := ⟨bp_ BK172⟩
                     have n5_ : Aside0 (Below w.heap.size w (w86.setCell ⟨gb172, 1, none⟩ (.slice Ao87 y177.length co87))) := ⟨bs_⟩
                     (try clear HO179)
                     (try clear BK166)
                     (try clear BK167)
                     (try clear BK168)
                     (try clear BK172)
                     (try clear HB)
                     generalize (w86.setCell ⟨gb172, 1, none⟩ (.slice Ao87 y177.length co87)) = w89 at n0_ n1_ n2_ n3_ n4_ n5_ ⊢
                     have HO179 := n0_
                     have BK166 := n1_
                     have BK167 := n2_
                     have BK168 := n3_
                     have BK172 := n4_
                     have HB := n5_
                     clear n0_ n1_ n2_ n3_ n4_ n5_
                     have n0_ := Aside0.mk (Kd.R_drew HO179.out)
                     have n1_ := Aside0.mk (blk_drew BK166.out)
                     have n2_ := Aside0.mk (blk_drew BK167.out)
                     have n3_ := Aside0.mk (blk_drew BK168.out)
                     have n4_ := Aside0.mk (blk_drew BK172.out)
                     have n5_ := Aside0.mk (below_drew1 HB.out)
                     clear HO179
                     clear BK166
                     clear BK167
                     clear BK168
                     clear BK172
                     clear HB
                     have HO179 := n0_
                     have BK166 := n1_
                     have BK167 := n2_
                     have BK168 := n3_
                     have BK172 := n4_
                     have HB := n5_
                     clear n0_ n1_ n2_ n3_ n4_ n5_
                     have p180 : 0 ≤ (x14_4 : Int) := of_decide_eq_true (by first | (with_reducible assumption) | assumption)
                     have q180 : x14_4 < (l0_1.length : Int) := of_decide_eq_true (by first | (with_reducible assumption) | assumption)
                     obtain ⟨ad180, e180, hx180_0, hx180_1⟩ := at_T26 HR0_1.out x14_4 p180 q180
                     have hw180_1 := hx180_1
                     have hw180_0 := hx180_0
                     obtain rfl : ad176 = ad180 := (by injection e180)
                     replace hx180_0 := (HB.out.cell (World.block_lt_of_cell? w _ hx180_0)).trans hx180_0
                     replace hx180_1 := (HB.out.cell (World.block_lt_of_cell? w _ hx180_1)).trans hx180_1
                     replace p180 := eq_true p180
                     replace q180 := eq_true q180
                     refine start_ (n := 11) (S := fun w' => w'.cell? ⟨gb172, 0, none⟩ = some (.int .i64 (wrap64 (a4 + 1))) ∧ w'.cell? ⟨gb172, 1, none⟩ = some (.slice Ao87 y177.length co87) ∧ w'.cell? ⟨gb166, 0, none⟩ = some (.int .i64 a0_0) ∧ w'.cell? ⟨gb166, 1, none⟩ = some (.slice (some ad176) l0_1.length c0_1) ∧ w'.cell? (ad176.add ((x14_4).toNat * 2)) = some (.int .i64 ((rd_T26 l0_1 x14_4).f0)) ∧ w'.cell? ⟨(ad176.add ((x14_4).toNat * 2)).block, (ad176.add ((x14_4).toNat * 2)).off + 1, none⟩ = some (.int .i64 ((rd_T26 l0_1 x14_4).f1))) (ds := [10]) #[false, false, false, false, false, false, false, false, false, false, false] (by kernel_rfl) rfl rfl ⟨(blk_cell BK172.out 0).trans rfl, (blk_cell BK172.out 1).trans rfl, (blk_cell BK166.out 0).trans rfl, (blk_cell BK166.out 1).trans rfl, ((HB.out.cell (World.block_lt_of_cell? w _ hw180_0)).trans hw180_0), ((HB.out.cell (World.block_lt_of_cell? w _ hw180_1)).trans hw180_1)⟩ (fun hHeld => ?_); refine with_tabW drydockref16_Attach.tab19 drydockref16_Attach.bits19 (fun HT_ HW_ => ?_)
                     generalize w89.drew = w90 at HO179 BK166 BK167 BK168 BK172 HB hx180_0 hx180_1 hHeld ⊢
                     refine pv_ 0 (some 89) HT_ (h := ?_)
                     refine pv_ 2 (some 91) HT_ (h := ?_)
                     refine pv_ 4 (some 93) HT_ (h := ?_)
                     refine tk_ 1 (some 90) HT_ HW_ hHeld (h := ?_)
                     refine tk_ 3 (some 92) HT_ HW_ hHeld (h := ?_)
                     refine pv_ 5 (some 94) HT_ (h := ?_)
                     refine tk_ 6 (some 95) HT_ HW_ hHeld (h := ?_)
                     refine one_ (i := 7) (N := some 96) #[true, true, true, true, true, true, true, true, false, false, false] rfl rfl (one_of HT_.out (by kernel_rfl)) (by decide) (fun K hK => ?_)
                     refine value_ (w1 := ?_) (v := ?_) (by rfl) rfl ?_ ?_
                     rotate_left 2
                     ·go_simp
                      constructor
                      ·rfl
                      ·rfl
                     refine hK.out _ _ ⟨(blk_cell (blk_alloc BK172.out _) 0).trans rfl, (blk_cell (blk_alloc BK172.out _) 1).trans rfl, (blk_cell (blk_alloc BK166.out _) 0).trans rfl, (blk_cell (blk_alloc BK166.out _) 1).trans rfl, (World.cell?_alloc_lt _ _ _ (World.block_lt_of_cell? _ _ (((HB.out.cell (World.block_lt_of_cell? w _ hw180_0)).trans hw180_0)))).trans (((HB.out.cell (World.block_lt_of_cell? w _ hw180_0)).trans hw180_0)), (World.cell?_alloc_lt _ _ _ (World.block_lt_of_cell? _ _ (((HB.out.cell (World.block_lt_of_cell? w _ hw180_1)).trans hw180_1)))).trans (((HB.out.cell (World.block_lt_of_cell? w _ hw180_1)).trans hw180_1))⟩ (fun hHeld => ?_)
                     clear hK K
                     refine norm_ (a' := ?_) ?_ ?_
                     rotate_left
                     ·show Act.put _ (some 96) _ = _
                      simp only [Act.put, List.setIfInBounds_toArray, List.set_cons_zero, List.set_cons_succ, i64_w, i32_w]
                      rfl
                     refine one_ (i := 8) (N := some 97) #[true, true, true, true, true, true, true, true, true, false, false] rfl rfl (one_of HT_.out (by kernel_rfl)) (by decide) (fun K hK => ?_)
                     refine Kd.R_append_step k26 (w0 := w) w.heap.size (by rfl) (.tmp 90) (.tmp 96) 22 26 (.agg #[(.int .i64 0), (.int .i64 0)]) 16 rfl Try.underlying22 info26 rfl (by decide) (by omega) (.slice Ao87 y177.length co87) y177 (⟨(rd_T26 l0_1 x14_4).f0, (rd_T26 l0_1 x14_4).f1⟩ : S26) [.int .i64 ((rd_T26 l0_1 x14_4).f0), .int .i64 ((rd_T26 l0_1 x14_4).f1)] (fun k_ => k_ ≠ gb167) (fun _ => False) rfl rfl ?aP (fun _ hk => hk.elim) ?aF ?aO ?aB ?aS ?aL ?_
                     (case aP => exact k26_mkM _ _ _ (⟨(rd_T26 l0_1 x14_4).f0, (rd_T26 l0_1 x14_4).f1⟩ : S26))
                     (case aB => exact bs_)
                     (case aF => exact (fun k_ hk => Kd.freshB (g := gb167) (o := .cells #[.int .i64 a1_0, .int .i64 a1_1] 26 (0, 0)) (by (with_reducible repeat (first | refine blk_drewN ?_ _ | refine blk_drew ?_ | refine blk_alloc ?_ _)); exact BK167.out) k_ hk))
                     (case aO => exact (rk_ HO179))
                     (case aS => exact (below_size bs_))
                     (case aL => have := LMc74.out; omega)
                     intro v182 w91 ho hb hg hat
                     rw [← Ny181.out] at ho
                     have n0_ := Aside0.mk (blk_grown (g := gb166) (o := .cells #[.int .i64 a0_0, .slice (some ad176) l0_1.length c0_1] 24 (0, 0)) (by (with_reducible repeat (first | refine blk_drewN ?_ _ | refine blk_drew ?_ | refine blk_alloc ?_ _)); exact BK166.out) hg (Kd.R_ne HO179.out BK166.out (by decide)))
                     have n1_ := Aside0.mk (blk_grown (g := gb167) (o := .cells #[.int .i64 a1_0, .int .i64 a1_1] 26 (0, 0)) (by (with_reducible repeat (first | refine blk_drewN ?_ _ | refine blk_drew ?_ | refine blk_alloc ?_ _)); exact BK167.out) hg (Kd.R_away HO179.out (fun _ hk => hk)))
                     have n2_ := Aside0.mk (blk_grown (g := gb168) (o := .cells #[.int .i64 0, .slice none 0 0] 24 (0, 0)) (by (with_reducible repeat (first | refine blk_drewN ?_ _ | refine blk_drew ?_ | refine blk_alloc ?_ _)); exact BK168.out) hg (Kd.R_ne HO179.out BK168.out (by decide)))
                     have n3_ := Aside0.mk (blk_grown (g := gb172) (o := .cells #[.int .i64 (wrap64 (a4 + 1)), .slice Ao87 y177.length co87] 24 (0, 0)) (by (with_reducible repeat (first | refine blk_drewN ?_ _ | refine blk_drew ?_ | refine blk_alloc ?_ _)); exact BK172.out) hg (Kd.R_ne HO179.out BK172.out (by decide)))
                     have n4_ := Aside0.mk (hb)
                     have n5_ := Aside0.mk (ho)
                     clear BK166
                     clear BK167
                     clear BK168
                     clear BK172
                     clear HB
                     clear HO179
                     have BK166 := n0_
                     have BK167 := n1_
                     have BK168 := n2_
                     have BK172 := n3_
                     have HB := n4_
                     have HO183 := n5_
                     clear n0_ n1_ n2_ n3_ n4_ n5_
                     clear ho hb hg hat
                     obtain ⟨Ao92, co92, eo92⟩ := Kd.R_slice HO183.out
                     (first | subst eo92 | (injection eo92 with f1_ f2_ f3_; have f4_ := f1_.symm; have f5_ := f3_.symm; clear f1_ f2_ f3_; subst f4_; subst f5_))
                     refine hK.out _ _ ⟨(blk_cell BK172.out 0).trans rfl, (blk_cell BK172.out 1).trans rfl, (blk_cell BK166.out 0).trans rfl, (blk_cell BK166.out 1).trans rfl, ((HB.out.cell (World.block_lt_of_cell? w _ hw180_0)).trans hw180_0), ((HB.out.cell (World.block_lt_of_cell? w _ hw180_1)).trans hw180_1)⟩ (fun hHeld => ?_)
                     clear hK K
                     refine norm_ (a' := ?_) ?_ ?_
                     rotate_left
                     ·show Act.put _ (some 97) _ = _
                      simp only [Act.put, List.setIfInBounds_toArray, List.set_cons_zero, List.set_cons_succ, i64_w, i32_w]
                      rfl
                     refine pv_ 9 (some 98) HT_ (h := ?_)
                     refine last_ (i := 10) (N := none) #[true, true, true, true, true, true, true, true, true, true, true] rfl rfl (one_of HT_.out (by kernel_rfl)) (by decide) (fun K hK => ?_)
                     have hs93 : w91.cell? ⟨gb172, 1, none⟩ = some (.slice Ao87 y177.length co87) := (blk_cell BK172.out 1).trans rfl
                     have hfs93 := blk_frozen BK172.out 1
                     have hns93_0 := NB166_172.out
                     have hns93_1 := NB167_172.out
                     have hns93_2 := NB168_172.out
                     have hms93_0 := NB172_166.out
                     have hms93_1 := NB172_167.out
                     have hms93_2 := NB172_168.out
                     refine skip_ (w1 := ?_) (by rfl) rfl ?_ ?_
                     rotate_left
                     ·go_simp
                      rfl
                     refine hK.out _ _ ?_
                     clear hK K
                     refine done_ (done_of HT_.out (by kernel_rfl)) ?_
                     obtain ⟨hcz94_0, hcz94_1, hfz94_0, hfz94_1⟩ := blk2 BK172
                     obtain ⟨hcz95_0, hcz95_1, hfz95_0, hfz95_1⟩ := blk2 BK167
                     try go_wp2_with (first | ((with_reducible refine gate_builtin (b := .append) (xs := #[.tmp 105, .tmp 107]) rfl ?_); at_builtin; refine Kd.R_append k26 (w0 := w) w.heap.size rfl (.tmp 105) (.tmp 107) 22 26 (.agg #[(.int .i64 0), (.int .i64 0)]) 16 rfl Try.underlying22 info26 rfl (by decide) (by omega) (.slice Ao92 y181.length co92) y181 (⟨a1_0, a1_1⟩ : S26) [.int .i64 a1_0, .int .i64 a1_1] (fun k_ => k_ ≠ gb167) (fun _ => False) rfl (by first | (go_simp; done) | (go_simp; rfl)) ?aP (fun _ hk => hk.elim) ?aF ?aO ?aB ?aS ?aL ?_; (case aP => exact k26_mkM _ _ _ (⟨a1_0, a1_1⟩ : S26)); (case aB => exact bs_); (case aF => exact (fun k_ hk => Kd.freshB (g := gb167) (o := .cells #[.int .i64 a1_0, .int .i64 a1_1] 26 (0, 0)) (bf_ BK167) k_ hk)); (case aO => exact (by (with_reducible repeat (first | apply Kd.R_alloc | apply Kd.R_drewN | apply Kd.R_drew)); exact Kd.R_mono (Kd.R_far (p := ⟨gb172, 1, none⟩) (Kd.R_types HO183.out BK172.out (by decide)) (fun _ hk => hk.2) (.slice Ao92 y181.length co92)) (fun _ hk => hk.1))); (case aS => exact (below_size bs_)); (case aL => have := LMc76.out; omega); intro v185 w96 ho hb hg hat; rw [← Ny184.out] at ho; have n0_ := Aside0.mk (blk_grown (g := gb166) (o := .cells #[.int .i64 a0_0, .slice (some ad176) l0_1.length c0_1] 24 (0, 0)) (bf_ BK166) hg (Kd.R_ne HO183.out BK166.out (by decide))); have n1_ := Aside0.mk (blk_grown (g := gb167) (o := .cells #[.int .i64 a1_0, .int .i64 a1_1] 26 (0, 0)) (bf_ BK167) hg (Kd.R_away HO183.out (fun _ hk => hk))); have n2_ := Aside0.mk (blk_grown (g := gb168) (o := .cells #[.int .i64 0, .slice none 0 0] 24 (0, 0)) (bf_ BK168) hg (Kd.R_ne HO183.out BK168.out (by decide))); have n3_ := Aside0.mk (blk_grown (g := gb172) (o := .cells #[.int .i64 (wrap64 (a4 + 1)), .slice Ao92 y181.length co92] 24 (0, 0)) (bp_ BK172) hg (Kd.R_ne HO183.out BK172.out (by decide))); have n4_ := Aside0.mk (hb); have n5_ := Aside0.mk (ho); clear BK166 BK167 BK168 BK172 HB HO183; have BK166 := n0_; have BK167 := n1_; have BK168 := n2_; have BK172 := n3_; have HB := n4_; have HO186 := n5_; clear n0_ n1_ n2_ n3_ n4_ n5_; clear ho hb hg hat; obtain ⟨Ao97, co97, eo97⟩ := Kd.R_slice HO186.out; subst eo97; obtain ⟨hcz98_0, hcz98_1, hfz98_0, hfz98_1⟩ := blk2 BK172))
                     go_roundg k4
                     case measure => have := HJ7.out; have := HJ30.out; have := HJ47.out; have := HK4.out; omega
                     case rel => exact ⟨(wrap64 (x14_4 + 1)), (y184), (.slice Ao97 y184.length co97), (by first | rfl | (simp; done) | (simp [*]; done)), H', ⟨by have := HJ7.out; have := HJ30.out; have := HJ47.out; have := HK4.out; omega⟩, ⟨by (with_reducible repeat (first | apply Kd.R_alloc | apply Kd.R_drewN | apply Kd.R_drew)); exact Kd.R_mono (Kd.R_far (p := ⟨gb172, 1, none⟩) (Kd.R_types HO186.out BK172.out (by decide)) (fun _ hk => hk.2) (.slice Ao97 y184.length co97)) (fun _ hk => by first | exact hk.1 | trivial)⟩, ⟨bf_ BK166⟩, ⟨bf_ BK167⟩, ⟨bf_ BK168⟩, ⟨bp_ BK172⟩, ⟨bs_⟩⟩
                    ·rw [if_neg c76] at H
                     exact absurd H (by simp)
                   ·rw [if_neg c75] at H
                    have c75b0 : (a2 == 3) = false := beq_eq_false_iff_ne.mpr c75
                    have c75b1 : (a2 != 3) = true := bne_iff_ne.mpr c75
                    have H' := Aside0.mk H
                    clear H
                    have hnb99 := NB166_167.out
                    have hnc99 := NB167_166.out
                    have hnb100 := NB166_168.out
                    have hnc100 := NB168_166.out
                    have hnb101 := NB166_172.out
                    have hnc101 := NB172_166.out
                    obtain ⟨hcz102_0, hcz102_1, hfz102_0, hfz102_1⟩ := blk2 BK166
                    have p176 : 0 ≤ (x14_4 : Int) := of_decide_eq_true (by first | (with_reducible assumption) | assumption)
                    have q176 : x14_4 < (l0_1.length : Int) := of_decide_eq_true (by first | (with_reducible assumption) | assumption)
                    obtain ⟨ad176, e176, hx176_0, hx176_1⟩ := at_T26 HR0_1.out x14_4 p176 q176
                    cases e176
                    replace hx176_0 := (HB.out.cell (World.block_lt_of_cell? w _ hx176_0)).trans hx176_0
                    replace hx176_1 := (HB.out.cell (World.block_lt_of_cell? w _ hx176_1)).trans hx176_1
                    replace p176 := eq_true p176
                    replace q176 := eq_true q176
                    have hnb103 := NB172_167.out
                    have hnc103 := NB167_172.out
                    have hnb104 := NB172_168.out
                    have hnc104 := NB168_172.out
                    obtain ⟨hcz105_0, hcz105_1, hfz105_0, hfz105_1⟩ := blk2 BK172
                    have hnb106 := NB167_168.out
                    have hnc106 := NB168_167.out
                    obtain ⟨hcz107_0, hcz107_1, hfz107_0, hfz107_1⟩ := blk2 BK167
                    try go_wp2_with (first | ((with_reducible refine gate_builtin (b := .append) (xs := #[.tmp 84, .tmp 86]) rfl ?_); at_builtin; refine Kd.R_append k26 (w0 := w) w.heap.size rfl (.tmp 84) (.tmp 86) 22 26 (.agg #[(.int .i64 0), (.int .i64 0)]) 16 rfl Try.underlying22 info26 rfl (by decide) (by omega) u173001 x173001_4 (⟨a1_0, a1_1⟩ : S26) [.int .i64 a1_0, .int .i64 a1_1] (fun k_ => k_ ≠ gb167) (fun _ => False) rfl rfl ?aP (fun _ hk => hk.elim) ?aF ?aO ?aB ?aS ?aL ?_; (case aP => exact k26_mkM _ _ _ (⟨a1_0, a1_1⟩ : S26)); (case aB => exact bs_); (case aF => exact (fun k_ hk => Kd.freshB (g := gb167) (o := .cells #[.int .i64 a1_0, .int .i64 a1_1] 26 (0, 0)) (by (with_reducible repeat (first | refine blk_drewN ?_ _ | refine blk_drew ?_ | refine blk_alloc ?_ _)); exact BK167.out) k_ hk)); (case aO => exact (rk_ HO_173001)); (case aS => exact (below_size bs_)); (case aL => have := LMc73.out; omega); intro v178 w108 ho hb hg hat; rw [← Ny177.out] at ho; have n0_ := Aside0.mk (blk_grown (g := gb166) (o := .cells #[.int .i64 a0_0, .slice (some ad176) l0_1.length c0_1] 24 (0, 0)) (by (with_reducible repeat (first | refine blk_drewN ?_ _ | refine blk_drew ?_ | refine blk_alloc ?_ _)); exact BK166.out) hg (Kd.R_ne HO_173001.out BK166.out (by decide))); have n1_ := Aside0.mk (blk_grown (g := gb167) (o := .cells #[.int .i64 a1_0, .int .i64 a1_1] 26 (0, 0)) (by (with_reducible repeat (first | refine blk_drewN ?_ _ | refine blk_drew ?_ | refine blk_alloc ?_ _)); exact BK167.out) hg (Kd.R_away HO_173001.out (fun _ hk => hk))); have n2_ := Aside0.mk (blk_grown (g := gb168) (o := .cells #[.int .i64 0, .slice none 0 0] 24 (0, 0)) (by (with_reducible repeat (first | refine blk_drewN ?_ _ | refine blk_drew ?_ | refine blk_alloc ?_ _)); exact BK168.out) hg (Kd.R_ne HO_173001.out BK168.out (by decide))); have n3_ := Aside0.mk (blk_grown (g := gb172) (o := .cells #[.int .i64 (wrap64 (a4 + 1)), u173001] 24 (0, 0)) (by (with_reducible repeat (first | refine blk_drewN ?_ _ | refine blk_drew ?_ | refine blk_alloc ?_ _)); exact BK172.out) hg (Kd.R_ne HO_173001.out BK172.out (by decide))); have n4_ := Aside0.mk (hb); have n5_ := Aside0.mk (ho); clear BK166 BK167 BK168 BK172 HB HO_173001; have BK166 := n0_; have BK167 := n1_; have BK168 := n2_; have BK172 := n3_; have HB := n4_; have HO179 := n5_; clear n0_ n1_ n2_ n3_ n4_ n5_; clear ho hb hg hat; obtain ⟨Ao109, co109, eo109⟩ := Kd.R_slice HO179.out; subst eo109; obtain ⟨hcz110_0, hcz110_1, hfz110_0, hfz110_1⟩ := blk2 BK172))
                    have n0_ : Aside0 (Kd.R k26 26 (w108.setCell ⟨gb172, 1, none⟩ (.slice Ao109 y177.length co109)) w.heap.size (fun k_ => k_ ≠ gb167) (.slice Ao109 y177.length co109) y177) := ⟨by (with_reducible repeat (first | apply Kd.R_alloc | apply Kd.R_drewN | apply Kd.R_drew)); exact Kd.R_mono (Kd.R_far (p := ⟨gb172, 1, none⟩) (Kd.R_types HO179.out BK172.out (by decide)) (fun _ hk => hk.2) (.slice Ao109 y177.length co109)) (fun _ hk => hk.1)⟩
                    have n1_ : Aside0 ((w108.setCell ⟨gb172, 1, none⟩ (.slice Ao109 y177.length co109)).heap[gb166]? = some (.cells #[.int .i64 a0_0, .slice (some ad176) l0_1.length c0_1] 24 (0, 0))) := ⟨bf_ BK166⟩
                    have n2_ : Aside0 ((w108.setCell ⟨gb172, 1, none⟩ (.slice Ao109 y177.length co109)).heap[gb167]? = some (.cells #[.int .i64 a1_0, .int .i64 a1_1] 26 (0, 0))) := ⟨bf_ BK167⟩
                    have n3_ : Aside0 ((w108.setCell ⟨gb172, 1, none⟩ (.slice Ao109 y177.length co109)).heap[gb168]? = some (.cells #[.int .i64 0, .slice none 0 0] 24 (0, 0))) := ⟨bf_ BK168⟩
                    have n4_ : Aside0 ((w108.setCell ⟨gb172, 1, none⟩ (.slice Ao109 y177.length co109)).heap[gb172]? = some (.cells #[.int .i64 (wrap64 (a4 + 1)), .slice Ao109 y177.length co109] 24 (0, 0))) := ⟨bp_ BK172⟩
                    have n5_ : Aside0 (Below w.heap.size w (w108.setCell ⟨gb172, 1, none⟩ (.slice Ao109 y177.length co109))) := ⟨bs_⟩
                    (try clear HO179)
                    (try clear BK166)
                    (try clear BK167)
                    (try clear BK168)
                    (try clear BK172)
                    (try clear HB)
                    generalize (w108.setCell ⟨gb172, 1, none⟩ (.slice Ao109 y177.length co109)) = w111 at n0_ n1_ n2_ n3_ n4_ n5_ ⊢
                    have HO179 := n0_
                    have BK166 := n1_
                    have BK167 := n2_
                    have BK168 := n3_
                    have BK172 := n4_
                    have HB := n5_
                    clear n0_ n1_ n2_ n3_ n4_ n5_
                    have n0_ := Aside0.mk (Kd.R_drew HO179.out)
                    have n1_ := Aside0.mk (blk_drew BK166.out)
                    have n2_ := Aside0.mk (blk_drew BK167.out)
                    have n3_ := Aside0.mk (blk_drew BK168.out)
                    have n4_ := Aside0.mk (blk_drew BK172.out)
                    have n5_ := Aside0.mk (below_drew1 HB.out)
                    clear HO179
                    clear BK166
                    clear BK167
                    clear BK168
                    clear BK172
                    clear HB
                    have HO179 := n0_
                    have BK166 := n1_
                    have BK167 := n2_
                    have BK168 := n3_
                    have BK172 := n4_
                    have HB := n5_
                    clear n0_ n1_ n2_ n3_ n4_ n5_
                    have p180 : 0 ≤ (x14_4 : Int) := of_decide_eq_true (by first | (with_reducible assumption) | assumption)
                    have q180 : x14_4 < (l0_1.length : Int) := of_decide_eq_true (by first | (with_reducible assumption) | assumption)
                    obtain ⟨ad180, e180, hx180_0, hx180_1⟩ := at_T26 HR0_1.out x14_4 p180 q180
                    have hw180_1 := hx180_1
                    have hw180_0 := hx180_0
                    obtain rfl : ad176 = ad180 := (by injection e180)
                    replace hx180_0 := (HB.out.cell (World.block_lt_of_cell? w _ hx180_0)).trans hx180_0
                    replace hx180_1 := (HB.out.cell (World.block_lt_of_cell? w _ hx180_1)).trans hx180_1
                    replace p180 := eq_true p180
                    replace q180 := eq_true q180
                    refine start_ (n := 11) (S := fun w' => w'.cell? ⟨gb172, 0, none⟩ = some (.int .i64 (wrap64 (a4 + 1))) ∧ w'.cell? ⟨gb172, 1, none⟩ = some (.slice Ao109 y177.length co109) ∧ w'.cell? ⟨gb166, 0, none⟩ = some (.int .i64 a0_0) ∧ w'.cell? ⟨gb166, 1, none⟩ = some (.slice (some ad176) l0_1.length c0_1) ∧ w'.cell? (ad176.add ((x14_4).toNat * 2)) = some (.int .i64 ((rd_T26 l0_1 x14_4).f0)) ∧ w'.cell? ⟨(ad176.add ((x14_4).toNat * 2)).block, (ad176.add ((x14_4).toNat * 2)).off + 1, none⟩ = some (.int .i64 ((rd_T26 l0_1 x14_4).f1))) (ds := [10]) #[false, false, false, false, false, false, false, false, false, false, false] (by kernel_rfl) rfl rfl ⟨(blk_cell BK172.out 0).trans rfl, (blk_cell BK172.out 1).trans rfl, (blk_cell BK166.out 0).trans rfl, (blk_cell BK166.out 1).trans rfl, ((HB.out.cell (World.block_lt_of_cell? w _ hw180_0)).trans hw180_0), ((HB.out.cell (World.block_lt_of_cell? w _ hw180_1)).trans hw180_1)⟩ (fun hHeld => ?_); refine with_tabW drydockref16_Attach.tab19 drydockref16_Attach.bits19 (fun HT_ HW_ => ?_)
                    generalize w111.drew = w112 at HO179 BK166 BK167 BK168 BK172 HB hx180_0 hx180_1 hHeld ⊢
                    refine pv_ 0 (some 89) HT_ (h := ?_)
                    refine pv_ 2 (some 91) HT_ (h := ?_)
                    refine pv_ 4 (some 93) HT_ (h := ?_)
                    refine tk_ 1 (some 90) HT_ HW_ hHeld (h := ?_)
                    refine tk_ 3 (some 92) HT_ HW_ hHeld (h := ?_)
                    refine pv_ 5 (some 94) HT_ (h := ?_)
                    refine tk_ 6 (some 95) HT_ HW_ hHeld (h := ?_)
                    refine one_ (i := 7) (N := some 96) #[true, true, true, true, true, true, true, true, false, false, false] rfl rfl (one_of HT_.out (by kernel_rfl)) (by decide) (fun K hK => ?_)
                    refine value_ (w1 := ?_) (v := ?_) (by rfl) rfl ?_ ?_
                    rotate_left 2
                    ·go_simp
                     constructor
                     ·rfl
                     ·rfl
                    refine hK.out _ _ ⟨(blk_cell (blk_alloc BK172.out _) 0).trans rfl, (blk_cell (blk_alloc BK172.out _) 1).trans rfl, (blk_cell (blk_alloc BK166.out _) 0).trans rfl, (blk_cell (blk_alloc BK166.out _) 1).trans rfl, (World.cell?_alloc_lt _ _ _ (World.block_lt_of_cell? _ _ (((HB.out.cell (World.block_lt_of_cell? w _ hw180_0)).trans hw180_0)))).trans (((HB.out.cell (World.block_lt_of_cell? w _ hw180_0)).trans hw180_0)), (World.cell?_alloc_lt _ _ _ (World.block_lt_of_cell? _ _ (((HB.out.cell (World.block_lt_of_cell? w _ hw180_1)).trans hw180_1)))).trans (((HB.out.cell (World.block_lt_of_cell? w _ hw180_1)).trans hw180_1))⟩ (fun hHeld => ?_)
                    clear hK K
                    refine norm_ (a' := ?_) ?_ ?_
                    rotate_left
                    ·show Act.put _ (some 96) _ = _
                     simp only [Act.put, List.setIfInBounds_toArray, List.set_cons_zero, List.set_cons_succ, i64_w, i32_w]
                     rfl
                    refine one_ (i := 8) (N := some 97) #[true, true, true, true, true, true, true, true, true, false, false] rfl rfl (one_of HT_.out (by kernel_rfl)) (by decide) (fun K hK => ?_)
                    refine Kd.R_append_step k26 (w0 := w) w.heap.size (by rfl) (.tmp 90) (.tmp 96) 22 26 (.agg #[(.int .i64 0), (.int .i64 0)]) 16 rfl Try.underlying22 info26 rfl (by decide) (by omega) (.slice Ao109 y177.length co109) y177 (⟨(rd_T26 l0_1 x14_4).f0, (rd_T26 l0_1 x14_4).f1⟩ : S26) [.int .i64 ((rd_T26 l0_1 x14_4).f0), .int .i64 ((rd_T26 l0_1 x14_4).f1)] (fun k_ => k_ ≠ gb167) (fun _ => False) rfl rfl ?aP (fun _ hk => hk.elim) ?aF ?aO ?aB ?aS ?aL ?_
                    (case aP => exact k26_mkM _ _ _ (⟨(rd_T26 l0_1 x14_4).f0, (rd_T26 l0_1 x14_4).f1⟩ : S26))
                    (case aB => exact bs_)
                    (case aF => exact (fun k_ hk => Kd.freshB (g := gb167) (o := .cells #[.int .i64 a1_0, .int .i64 a1_1] 26 (0, 0)) (by (with_reducible repeat (first | refine blk_drewN ?_ _ | refine blk_drew ?_ | refine blk_alloc ?_ _)); exact BK167.out) k_ hk))
                    (case aO => exact (rk_ HO179))
                    (case aS => exact (below_size bs_))
                    (case aL => have := LMc74.out; omega)
                    intro v182 w113 ho hb hg hat
                    rw [← Ny181.out] at ho
                    have n0_ := Aside0.mk (blk_grown (g := gb166) (o := .cells #[.int .i64 a0_0, .slice (some ad176) l0_1.length c0_1] 24 (0, 0)) (by (with_reducible repeat (first | refine blk_drewN ?_ _ | refine blk_drew ?_ | refine blk_alloc ?_ _)); exact BK166.out) hg (Kd.R_ne HO179.out BK166.out (by decide)))
                    have n1_ := Aside0.mk (blk_grown (g := gb167) (o := .cells #[.int .i64 a1_0, .int .i64 a1_1] 26 (0, 0)) (by (with_reducible repeat (first | refine blk_drewN ?_ _ | refine blk_drew ?_ | refine blk_alloc ?_ _)); exact BK167.out) hg (Kd.R_away HO179.out (fun _ hk => hk)))
                    have n2_ := Aside0.mk (blk_grown (g := gb168) (o := .cells #[.int .i64 0, .slice none 0 0] 24 (0, 0)) (by (with_reducible repeat (first | refine blk_drewN ?_ _ | refine blk_drew ?_ | refine blk_alloc ?_ _)); exact BK168.out) hg (Kd.R_ne HO179.out BK168.out (by decide)))
                    have n3_ := Aside0.mk (blk_grown (g := gb172) (o := .cells #[.int .i64 (wrap64 (a4 + 1)), .slice Ao109 y177.length co109] 24 (0, 0)) (by (with_reducible repeat (first | refine blk_drewN ?_ _ | refine blk_drew ?_ | refine blk_alloc ?_ _)); exact BK172.out) hg (Kd.R_ne HO179.out BK172.out (by decide)))
                    have n4_ := Aside0.mk (hb)
                    have n5_ := Aside0.mk (ho)
                    clear BK166
                    clear BK167
                    clear BK168
                    clear BK172
                    clear HB
                    clear HO179
                    have BK166 := n0_
                    have BK167 := n1_
                    have BK168 := n2_
                    have BK172 := n3_
                    have HB := n4_
                    have HO183 := n5_
                    clear n0_ n1_ n2_ n3_ n4_ n5_
                    clear ho hb hg hat
                    obtain ⟨Ao114, co114, eo114⟩ := Kd.R_slice HO183.out
                    (first | subst eo114 | (injection eo114 with f1_ f2_ f3_; have f4_ := f1_.symm; have f5_ := f3_.symm; clear f1_ f2_ f3_; subst f4_; subst f5_))
                    refine hK.out _ _ ⟨(blk_cell BK172.out 0).trans rfl, (blk_cell BK172.out 1).trans rfl, (blk_cell BK166.out 0).trans rfl, (blk_cell BK166.out 1).trans rfl, ((HB.out.cell (World.block_lt_of_cell? w _ hw180_0)).trans hw180_0), ((HB.out.cell (World.block_lt_of_cell? w _ hw180_1)).trans hw180_1)⟩ (fun hHeld => ?_)
                    clear hK K
                    refine norm_ (a' := ?_) ?_ ?_
                    rotate_left
                    ·show Act.put _ (some 97) _ = _
                     simp only [Act.put, List.setIfInBounds_toArray, List.set_cons_zero, List.set_cons_succ, i64_w, i32_w]
                     rfl
                    refine pv_ 9 (some 98) HT_ (h := ?_)
                    refine last_ (i := 10) (N := none) #[true, true, true, true, true, true, true, true, true, true, true] rfl rfl (one_of HT_.out (by kernel_rfl)) (by decide) (fun K hK => ?_)
                    have hs115 : w113.cell? ⟨gb172, 1, none⟩ = some (.slice Ao109 y177.length co109) := (blk_cell BK172.out 1).trans rfl
                    have hfs115 := blk_frozen BK172.out 1
                    have hns115_0 := NB166_172.out
                    have hns115_1 := NB167_172.out
                    have hns115_2 := NB168_172.out
                    have hms115_0 := NB172_166.out
                    have hms115_1 := NB172_167.out
                    have hms115_2 := NB172_168.out
                    refine skip_ (w1 := ?_) (by rfl) rfl ?_ ?_
                    rotate_left
                    ·go_simp
                     rfl
                    refine hK.out _ _ ?_
                    clear hK K
                    refine done_ (done_of HT_.out (by kernel_rfl)) ?_
                    try go_wp2
                    go_roundg k4
                    case measure => have := HJ7.out; have := HJ30.out; have := HJ47.out; have := HK4.out; omega
                    case rel => exact ⟨(wrap64 (x14_4 + 1)), (y181), (.slice Ao114 y181.length co114), (by first | rfl | (simp; done) | (simp [*]; done)), H', ⟨by have := HJ7.out; have := HJ30.out; have := HJ47.out; have := HK4.out; omega⟩, ⟨by (with_reducible repeat (first | apply Kd.R_alloc | apply Kd.R_drewN | apply Kd.R_drew)); exact Kd.R_mono (Kd.R_far (p := ⟨gb172, 1, none⟩) (Kd.R_types HO183.out BK172.out (by decide)) (fun _ hk => hk.2) (.slice Ao114 y181.length co114)) (fun _ hk => by first | exact hk.1 | trivial)⟩, ⟨bf_ BK166⟩, ⟨bf_ BK167⟩, ⟨bf_ BK168⟩, ⟨bp_ BK172⟩, ⟨bs_⟩⟩
                  ·rw [if_neg c74] at H
                   exact absurd H (by simp)
                 ·rw [if_neg c73] at H
                  exact absurd H (by simp)
                ·rw [if_neg c72] at H
                 have c72b0 : (a2 == 2) = false := beq_eq_false_iff_ne.mpr c72
                 have c72b1 : (a2 != 2) = true := bne_iff_ne.mpr c72
                 by_cases c116 : x173001_4.length < 8796093022208
                 ·rw [if_pos c116] at H
                  have LMc116 := Aside0.mk c116
                  clear c116
                  obtain ⟨y188, hy188⟩ : ∃ y_ : List (S26), y_ = (x173001_4 ++ [(⟨(rd_T26 l0_1 x14_4).f0, (rd_T26 l0_1 x14_4).f1⟩ : S26)]) := ⟨_, rfl⟩
                  replace H : (if a2 = 3 then (if y188.length < 8796093022208 then (drydockref16_Attach.l0 k4 a2 a3 (wrap64 (x14_4 + 1)) a0_0 l0_1 a1_0 a1_1 (wrap64 (a4 + 1)) (y188 ++ [(⟨a1_0, a1_1⟩ : S26)])) else (none)) else (drydockref16_Attach.l0 k4 a2 a3 (wrap64 (x14_4 + 1)) a0_0 l0_1 a1_0 a1_1 (wrap64 (a4 + 1)) y188)) = some (r1, r2, r3) := by first | (rw [hy188]; with_reducible exact H) | (have H2_ := (Option.bind_some _ _).symm.trans H; rw [hy188]; with_reducible exact H2_) | (have H2_ := (Option.bind_some _ _).symm.trans H; with_reducible exact H2_) | with_reducible exact H | (rw [hy188]; exact H) | exact H
                  have Ny188 := Aside0.mk hy188
                  clear hy188
                  by_cases c117 : a2 = 3
                  ·rw [if_pos c117] at H
                   have c117b0 : (a2 == 3) = true := beq_iff_eq.mpr c117
                   have c117b1 : (a2 != 3) = false := bne_eq_false_iff_eq.mpr c117
                   clear c117
                   by_cases c118 : y188.length < 8796093022208
                   ·rw [if_pos c118] at H
                    have LMc118 := Aside0.mk c118
                    clear c118
                    obtain ⟨y191, hy191⟩ : ∃ y_ : List (S26), y_ = (y188 ++ [(⟨a1_0, a1_1⟩ : S26)]) := ⟨_, rfl⟩
                    replace H : (drydockref16_Attach.l0 k4 a2 a3 (wrap64 (x14_4 + 1)) a0_0 l0_1 a1_0 a1_1 (wrap64 (a4 + 1)) y191) = some (r1, r2, r3) := by first | (rw [hy191]; with_reducible exact H) | (have H2_ := (Option.bind_some _ _).symm.trans H; rw [hy191]; with_reducible exact H2_) | (have H2_ := (Option.bind_some _ _).symm.trans H; with_reducible exact H2_) | with_reducible exact H | (rw [hy191]; exact H) | exact H
                    have Ny191 := Aside0.mk hy191
                    clear hy191
                    have H' := Aside0.mk H
                    clear H
                    have hnb119 := NB166_167.out
                    have hnc119 := NB167_166.out
                    have hnb120 := NB166_168.out
                    have hnc120 := NB168_166.out
                    have hnb121 := NB166_172.out
                    have hnc121 := NB172_166.out
                    obtain ⟨hcz122_0, hcz122_1, hfz122_0, hfz122_1⟩ := blk2 BK166
                    have p176 : 0 ≤ (x14_4 : Int) := of_decide_eq_true (by first | (with_reducible assumption) | assumption)
                    have q176 : x14_4 < (l0_1.length : Int) := of_decide_eq_true (by first | (with_reducible assumption) | assumption)
                    obtain ⟨ad176, e176, hx176_0, hx176_1⟩ := at_T26 HR0_1.out x14_4 p176 q176
                    cases e176
                    replace hx176_0 := (HB.out.cell (World.block_lt_of_cell? w _ hx176_0)).trans hx176_0
                    replace hx176_1 := (HB.out.cell (World.block_lt_of_cell? w _ hx176_1)).trans hx176_1
                    replace p176 := eq_true p176
                    replace q176 := eq_true q176
                    try go_wp2
                    have n0_ := Aside0.mk (Kd.R_drew HO_173001.out)
                    have n1_ := Aside0.mk (blk_drew BK166.out)
                    have n2_ := Aside0.mk (blk_drew BK167.out)
                    have n3_ := Aside0.mk (blk_drew BK168.out)
                    have n4_ := Aside0.mk (blk_drew BK172.out)
                    have n5_ := Aside0.mk (below_drew1 HB.out)
                    clear HO_173001
                    clear BK166
                    clear BK167
                    clear BK168
                    clear BK172
                    clear HB
                    have HO_173001 := n0_
                    have BK166 := n1_
                    have BK167 := n2_
                    have BK168 := n3_
                    have BK172 := n4_
                    have HB := n5_
                    clear n0_ n1_ n2_ n3_ n4_ n5_
                    have p187 : 0 ≤ (x14_4 : Int) := of_decide_eq_true (by first | (with_reducible assumption) | assumption)
                    have q187 : x14_4 < (l0_1.length : Int) := of_decide_eq_true (by first | (with_reducible assumption) | assumption)
                    obtain ⟨ad187, e187, hx187_0, hx187_1⟩ := at_T26 HR0_1.out x14_4 p187 q187
                    have hw187_1 := hx187_1
                    have hw187_0 := hx187_0
                    obtain rfl : ad176 = ad187 := (by injection e187)
                    replace hx187_0 := (HB.out.cell (World.block_lt_of_cell? w _ hx187_0)).trans hx187_0
                    replace hx187_1 := (HB.out.cell (World.block_lt_of_cell? w _ hx187_1)).trans hx187_1
                    replace p187 := eq_true p187
                    replace q187 := eq_true q187
                    refine start_ (n := 11) (S := fun w' => w'.cell? ⟨gb172, 0, none⟩ = some (.int .i64 (wrap64 (a4 + 1))) ∧ w'.cell? ⟨gb172, 1, none⟩ = some (u173001) ∧ w'.cell? ⟨gb166, 0, none⟩ = some (.int .i64 a0_0) ∧ w'.cell? ⟨gb166, 1, none⟩ = some (.slice (some ad176) l0_1.length c0_1) ∧ w'.cell? (ad176.add ((x14_4).toNat * 2)) = some (.int .i64 ((rd_T26 l0_1 x14_4).f0)) ∧ w'.cell? ⟨(ad176.add ((x14_4).toNat * 2)).block, (ad176.add ((x14_4).toNat * 2)).off + 1, none⟩ = some (.int .i64 ((rd_T26 l0_1 x14_4).f1))) (ds := [10]) #[false, false, false, false, false, false, false, false, false, false, false] (by kernel_rfl) rfl rfl ⟨(blk_cell BK172.out 0).trans rfl, (blk_cell BK172.out 1).trans rfl, (blk_cell BK166.out 0).trans rfl, (blk_cell BK166.out 1).trans rfl, ((HB.out.cell (World.block_lt_of_cell? w _ hw187_0)).trans hw187_0), ((HB.out.cell (World.block_lt_of_cell? w _ hw187_1)).trans hw187_1)⟩ (fun hHeld => ?_); refine with_tabW drydockref16_Attach.tab19 drydockref16_Attach.bits19 (fun HT_ HW_ => ?_)
                    generalize wr.drew = w123 at HO_173001 BK166 BK167 BK168 BK172 HB hx187_0 hx187_1 hHeld ⊢
                    refine pv_ 0 (some 89) HT_ (h := ?_)
                    refine pv_ 2 (some 91) HT_ (h := ?_)
                    refine pv_ 4 (some 93) HT_ (h := ?_)
                    refine tk_ 1 (some 90) HT_ HW_ hHeld (h := ?_)
                    refine tk_ 3 (some 92) HT_ HW_ hHeld (h := ?_)
                    refine pv_ 5 (some 94) HT_ (h := ?_)
                    refine tk_ 6 (some 95) HT_ HW_ hHeld (h := ?_)
                    refine one_ (i := 7) (N := some 96) #[true, true, true, true, true, true, true, true, false, false, false] rfl rfl (one_of HT_.out (by kernel_rfl)) (by decide) (fun K hK => ?_)
                    refine value_ (w1 := ?_) (v := ?_) (by rfl) rfl ?_ ?_
                    rotate_left 2
                    ·go_simp
                     constructor
                     ·rfl
                     ·rfl
                    refine hK.out _ _ ⟨(blk_cell (blk_alloc BK172.out _) 0).trans rfl, (blk_cell (blk_alloc BK172.out _) 1).trans rfl, (blk_cell (blk_alloc BK166.out _) 0).trans rfl, (blk_cell (blk_alloc BK166.out _) 1).trans rfl, (World.cell?_alloc_lt _ _ _ (World.block_lt_of_cell? _ _ (((HB.out.cell (World.block_lt_of_cell? w _ hw187_0)).trans hw187_0)))).trans (((HB.out.cell (World.block_lt_of_cell? w _ hw187_0)).trans hw187_0)), (World.cell?_alloc_lt _ _ _ (World.block_lt_of_cell? _ _ (((HB.out.cell (World.block_lt_of_cell? w _ hw187_1)).trans hw187_1)))).trans (((HB.out.cell (World.block_lt_of_cell? w _ hw187_1)).trans hw187_1))⟩ (fun hHeld => ?_)
                    clear hK K
                    refine norm_ (a' := ?_) ?_ ?_
                    rotate_left
                    ·show Act.put _ (some 96) _ = _
                     simp only [Act.put, List.setIfInBounds_toArray, List.set_cons_zero, List.set_cons_succ, i64_w, i32_w]
                     rfl
                    refine one_ (i := 8) (N := some 97) #[true, true, true, true, true, true, true, true, true, false, false] rfl rfl (one_of HT_.out (by kernel_rfl)) (by decide) (fun K hK => ?_)
                    refine Kd.R_append_step k26 (w0 := w) w.heap.size (by rfl) (.tmp 90) (.tmp 96) 22 26 (.agg #[(.int .i64 0), (.int .i64 0)]) 16 rfl Try.underlying22 info26 rfl (by decide) (by omega) u173001 x173001_4 (⟨(rd_T26 l0_1 x14_4).f0, (rd_T26 l0_1 x14_4).f1⟩ : S26) [.int .i64 ((rd_T26 l0_1 x14_4).f0), .int .i64 ((rd_T26 l0_1 x14_4).f1)] (fun k_ => k_ ≠ gb167) (fun _ => False) rfl rfl ?aP (fun _ hk => hk.elim) ?aF ?aO ?aB ?aS ?aL ?_
                    (case aP => exact k26_mkM _ _ _ (⟨(rd_T26 l0_1 x14_4).f0, (rd_T26 l0_1 x14_4).f1⟩ : S26))
                    (case aB => exact bs_)
                    (case aF => exact (fun k_ hk => Kd.freshB (g := gb167) (o := .cells #[.int .i64 a1_0, .int .i64 a1_1] 26 (0, 0)) (by (with_reducible repeat (first | refine blk_drewN ?_ _ | refine blk_drew ?_ | refine blk_alloc ?_ _)); exact BK167.out) k_ hk))
                    (case aO => exact (rk_ HO_173001))
                    (case aS => exact (below_size bs_))
                    (case aL => have := LMc116.out; omega)
                    intro v189 w124 ho hb hg hat
                    rw [← Ny188.out] at ho
                    have n0_ := Aside0.mk (blk_grown (g := gb166) (o := .cells #[.int .i64 a0_0, .slice (some ad176) l0_1.length c0_1] 24 (0, 0)) (by (with_reducible repeat (first | refine blk_drewN ?_ _ | refine blk_drew ?_ | refine blk_alloc ?_ _)); exact BK166.out) hg (Kd.R_ne HO_173001.out BK166.out (by decide)))
                    have n1_ := Aside0.mk (blk_grown (g := gb167) (o := .cells #[.int .i64 a1_0, .int .i64 a1_1] 26 (0, 0)) (by (with_reducible repeat (first | refine blk_drewN ?_ _ | refine blk_drew ?_ | refine blk_alloc ?_ _)); exact BK167.out) hg (Kd.R_away HO_173001.out (fun _ hk => hk)))
                    have n2_ := Aside0.mk (blk_grown (g := gb168) (o := .cells #[.int .i64 0, .slice none 0 0] 24 (0, 0)) (by (with_reducible repeat (first | refine blk_drewN ?_ _ | refine blk_drew ?_ | refine blk_alloc ?_ _)); exact BK168.out) hg (Kd.R_ne HO_173001.out BK168.out (by decide)))
                    have n3_ := Aside0.mk (blk_grown (g := gb172) (o := .cells #[.int .i64 (wrap64 (a4 + 1)), u173001] 24 (0, 0)) (by (with_reducible repeat (first | refine blk_drewN ?_ _ | refine blk_drew ?_ | refine blk_alloc ?_ _)); exact BK172.out) hg (Kd.R_ne HO_173001.out BK172.out (by decide)))
                    have n4_ := Aside0.mk (hb)
                    have n5_ := Aside0.mk (ho)
                    clear BK166
                    clear BK167
                    clear BK168
                    clear BK172
                    clear HB
                    clear HO_173001
                    have BK166 := n0_
                    have BK167 := n1_
                    have BK168 := n2_
                    have BK172 := n3_
                    have HB := n4_
                    have HO190 := n5_
                    clear n0_ n1_ n2_ n3_ n4_ n5_
                    clear ho hb hg hat
                    obtain ⟨Ao125, co125, eo125⟩ := Kd.R_slice HO190.out
                    (first | subst eo125 | (injection eo125 with f1_ f2_ f3_; have f4_ := f1_.symm; have f5_ := f3_.symm; clear f1_ f2_ f3_; subst f4_; subst f5_))
                    refine hK.out _ _ ⟨(blk_cell BK172.out 0).trans rfl, (blk_cell BK172.out 1).trans rfl, (blk_cell BK166.out 0).trans rfl, (blk_cell BK166.out 1).trans rfl, ((HB.out.cell (World.block_lt_of_cell? w _ hw187_0)).trans hw187_0), ((HB.out.cell (World.block_lt_of_cell? w _ hw187_1)).trans hw187_1)⟩ (fun hHeld => ?_)
                    clear hK K
                    refine norm_ (a' := ?_) ?_ ?_
                    rotate_left
                    ·show Act.put _ (some 97) _ = _
                     simp only [Act.put, List.setIfInBounds_toArray, List.set_cons_zero, List.set_cons_succ, i64_w, i32_w]
                     rfl
                    refine pv_ 9 (some 98) HT_ (h := ?_)
                    refine last_ (i := 10) (N := none) #[true, true, true, true, true, true, true, true, true, true, true] rfl rfl (one_of HT_.out (by kernel_rfl)) (by decide) (fun K hK => ?_)
                    have hs126 : w124.cell? ⟨gb172, 1, none⟩ = some (u173001) := (blk_cell BK172.out 1).trans rfl
                    have hfs126 := blk_frozen BK172.out 1
                    have hns126_0 := NB166_172.out
                    have hns126_1 := NB167_172.out
                    have hns126_2 := NB168_172.out
                    have hms126_0 := NB172_166.out
                    have hms126_1 := NB172_167.out
                    have hms126_2 := NB172_168.out
                    refine skip_ (w1 := ?_) (by rfl) rfl ?_ ?_
                    rotate_left
                    ·go_simp
                     rfl
                    refine hK.out _ _ ?_
                    clear hK K
                    refine done_ (done_of HT_.out (by kernel_rfl)) ?_
                    have hnb127 := NB172_167.out
                    have hnc127 := NB167_172.out
                    have hnb128 := NB172_168.out
                    have hnc128 := NB168_172.out
                    obtain ⟨hcz129_0, hcz129_1, hfz129_0, hfz129_1⟩ := blk2 BK172
                    have hnb130 := NB167_168.out
                    have hnc130 := NB168_167.out
                    obtain ⟨hcz131_0, hcz131_1, hfz131_0, hfz131_1⟩ := blk2 BK167
                    try go_wp2_with (first | ((with_reducible refine gate_builtin (b := .append) (xs := #[.tmp 105, .tmp 107]) rfl ?_); at_builtin; refine Kd.R_append k26 (w0 := w) w.heap.size rfl (.tmp 105) (.tmp 107) 22 26 (.agg #[(.int .i64 0), (.int .i64 0)]) 16 rfl Try.underlying22 info26 rfl (by decide) (by omega) (.slice Ao125 y188.length co125) y188 (⟨a1_0, a1_1⟩ : S26) [.int .i64 a1_0, .int .i64 a1_1] (fun k_ => k_ ≠ gb167) (fun _ => False) rfl (by first | (go_simp; done) | (go_simp; rfl)) ?aP (fun _ hk => hk.elim) ?aF ?aO ?aB ?aS ?aL ?_; (case aP => exact k26_mkM _ _ _ (⟨a1_0, a1_1⟩ : S26)); (case aB => exact bs_); (case aF => exact (fun k_ hk => Kd.freshB (g := gb167) (o := .cells #[.int .i64 a1_0, .int .i64 a1_1] 26 (0, 0)) (bf_ BK167) k_ hk)); (case aO => exact (by (with_reducible repeat (first | apply Kd.R_alloc | apply Kd.R_drewN | apply Kd.R_drew)); exact Kd.R_mono (Kd.R_far (p := ⟨gb172, 1, none⟩) (Kd.R_types HO190.out BK172.out (by decide)) (fun _ hk => hk.2) (.slice Ao125 y188.length co125)) (fun _ hk => hk.1))); (case aS => exact (below_size bs_)); (case aL => have := LMc118.out; omega); intro v192 w132 ho hb hg hat; rw [← Ny191.out] at ho; have n0_ := Aside0.mk (blk_grown (g := gb166) (o := .cells #[.int .i64 a0_0, .slice (some ad176) l0_1.length c0_1] 24 (0, 0)) (bf_ BK166) hg (Kd.R_ne HO190.out BK166.out (by decide))); have n1_ := Aside0.mk (blk_grown (g := gb167) (o := .cells #[.int .i64 a1_0, .int .i64 a1_1] 26 (0, 0)) (bf_ BK167) hg (Kd.R_away HO190.out (fun _ hk => hk))); have n2_ := Aside0.mk (blk_grown (g := gb168) (o := .cells #[.int .i64 0, .slice none 0 0] 24 (0, 0)) (bf_ BK168) hg (Kd.R_ne HO190.out BK168.out (by decide))); have n3_ := Aside0.mk (blk_grown (g := gb172) (o := .cells #[.int .i64 (wrap64 (a4 + 1)), .slice Ao125 y188.length co125] 24 (0, 0)) (bp_ BK172) hg (Kd.R_ne HO190.out BK172.out (by decide))); have n4_ := Aside0.mk (hb); have n5_ := Aside0.mk (ho); clear BK166 BK167 BK168 BK172 HB HO190; have BK166 := n0_; have BK167 := n1_; have BK168 := n2_; have BK172 := n3_; have HB := n4_; have HO193 := n5_; clear n0_ n1_ n2_ n3_ n4_ n5_; clear ho hb hg hat; obtain ⟨Ao133, co133, eo133⟩ := Kd.R_slice HO193.out; subst eo133; obtain ⟨hcz134_0, hcz134_1, hfz134_0, hfz134_1⟩ := blk2 BK172))
                    go_roundg k4
                    case measure => have := HJ7.out; have := HJ30.out; have := HJ47.out; have := HK4.out; omega
                    case rel => exact ⟨(wrap64 (x14_4 + 1)), (y191), (.slice Ao133 y191.length co133), (by first | rfl | (simp; done) | (simp [*]; done)), H', ⟨by have := HJ7.out; have := HJ30.out; have := HJ47.out; have := HK4.out; omega⟩, ⟨by (with_reducible repeat (first | apply Kd.R_alloc | apply Kd.R_drewN | apply Kd.R_drew)); exact Kd.R_mono (Kd.R_far (p := ⟨gb172, 1, none⟩) (Kd.R_types HO193.out BK172.out (by decide)) (fun _ hk => hk.2) (.slice Ao133 y191.length co133)) (fun _ hk => by first | exact hk.1 | trivial)⟩, ⟨bf_ BK166⟩, ⟨bf_ BK167⟩, ⟨bf_ BK168⟩, ⟨bp_ BK172⟩, ⟨bs_⟩⟩
                   ·rw [if_neg c118] at H
                    exact absurd H (by simp)
                  ·rw [if_neg c117] at H
                   have c117b0 : (a2 == 3) = false := beq_eq_false_iff_ne.mpr c117
                   have c117b1 : (a2 != 3) = true := bne_iff_ne.mpr c117
                   have H' := Aside0.mk H
                   clear H
                   have hnb135 := NB166_167.out
                   have hnc135 := NB167_166.out
                   have hnb136 := NB166_168.out
                   have hnc136 := NB168_166.out
                   have hnb137 := NB166_172.out
                   have hnc137 := NB172_166.out
                   obtain ⟨hcz138_0, hcz138_1, hfz138_0, hfz138_1⟩ := blk2 BK166
                   have p176 : 0 ≤ (x14_4 : Int) := of_decide_eq_true (by first | (with_reducible assumption) | assumption)
                   have q176 : x14_4 < (l0_1.length : Int) := of_decide_eq_true (by first | (with_reducible assumption) | assumption)
                   obtain ⟨ad176, e176, hx176_0, hx176_1⟩ := at_T26 HR0_1.out x14_4 p176 q176
                   cases e176
                   replace hx176_0 := (HB.out.cell (World.block_lt_of_cell? w _ hx176_0)).trans hx176_0
                   replace hx176_1 := (HB.out.cell (World.block_lt_of_cell? w _ hx176_1)).trans hx176_1
                   replace p176 := eq_true p176
                   replace q176 := eq_true q176
                   try go_wp2
                   have n0_ := Aside0.mk (Kd.R_drew HO_173001.out)
                   have n1_ := Aside0.mk (blk_drew BK166.out)
                   have n2_ := Aside0.mk (blk_drew BK167.out)
                   have n3_ := Aside0.mk (blk_drew BK168.out)
                   have n4_ := Aside0.mk (blk_drew BK172.out)
                   have n5_ := Aside0.mk (below_drew1 HB.out)
                   clear HO_173001
                   clear BK166
                   clear BK167
                   clear BK168
                   clear BK172
                   clear HB
                   have HO_173001 := n0_
                   have BK166 := n1_
                   have BK167 := n2_
                   have BK168 := n3_
                   have BK172 := n4_
                   have HB := n5_
                   clear n0_ n1_ n2_ n3_ n4_ n5_
                   have p187 : 0 ≤ (x14_4 : Int) := of_decide_eq_true (by first | (with_reducible assumption) | assumption)
                   have q187 : x14_4 < (l0_1.length : Int) := of_decide_eq_true (by first | (with_reducible assumption) | assumption)
                   obtain ⟨ad187, e187, hx187_0, hx187_1⟩ := at_T26 HR0_1.out x14_4 p187 q187
                   have hw187_1 := hx187_1
                   have hw187_0 := hx187_0
                   obtain rfl : ad176 = ad187 := (by injection e187)
                   replace hx187_0 := (HB.out.cell (World.block_lt_of_cell? w _ hx187_0)).trans hx187_0
                   replace hx187_1 := (HB.out.cell (World.block_lt_of_cell? w _ hx187_1)).trans hx187_1
                   replace p187 := eq_true p187
                   replace q187 := eq_true q187
                   refine start_ (n := 11) (S := fun w' => w'.cell? ⟨gb172, 0, none⟩ = some (.int .i64 (wrap64 (a4 + 1))) ∧ w'.cell? ⟨gb172, 1, none⟩ = some (u173001) ∧ w'.cell? ⟨gb166, 0, none⟩ = some (.int .i64 a0_0) ∧ w'.cell? ⟨gb166, 1, none⟩ = some (.slice (some ad176) l0_1.length c0_1) ∧ w'.cell? (ad176.add ((x14_4).toNat * 2)) = some (.int .i64 ((rd_T26 l0_1 x14_4).f0)) ∧ w'.cell? ⟨(ad176.add ((x14_4).toNat * 2)).block, (ad176.add ((x14_4).toNat * 2)).off + 1, none⟩ = some (.int .i64 ((rd_T26 l0_1 x14_4).f1))) (ds := [10]) #[false, false, false, false, false, false, false, false, false, false, false] (by kernel_rfl) rfl rfl ⟨(blk_cell BK172.out 0).trans rfl, (blk_cell BK172.out 1).trans rfl, (blk_cell BK166.out 0).trans rfl, (blk_cell BK166.out 1).trans rfl, ((HB.out.cell (World.block_lt_of_cell? w _ hw187_0)).trans hw187_0), ((HB.out.cell (World.block_lt_of_cell? w _ hw187_1)).trans hw187_1)⟩ (fun hHeld => ?_); refine with_tabW drydockref16_Attach.tab19 drydockref16_Attach.bits19 (fun HT_ HW_ => ?_)
                   generalize wr.drew = w139 at HO_173001 BK166 BK167 BK168 BK172 HB hx187_0 hx187_1 hHeld ⊢
                   refine pv_ 0 (some 89) HT_ (h := ?_)
                   refine pv_ 2 (some 91) HT_ (h := ?_)
                   refine pv_ 4 (some 93) HT_ (h := ?_)
                   refine tk_ 1 (some 90) HT_ HW_ hHeld (h := ?_)
                   refine tk_ 3 (some 92) HT_ HW_ hHeld (h := ?_)
                   refine pv_ 5 (some 94) HT_ (h := ?_)
                   refine tk_ 6 (some 95) HT_ HW_ hHeld (h := ?_)
                   refine one_ (i := 7) (N := some 96) #[true, true, true, true, true, true, true, true, false, false, false] rfl rfl (one_of HT_.out (by kernel_rfl)) (by decide) (fun K hK => ?_)
                   refine value_ (w1 := ?_) (v := ?_) (by rfl) rfl ?_ ?_
                   rotate_left 2
                   ·go_simp
                    constructor
                    ·rfl
                    ·rfl
                   refine hK.out _ _ ⟨(blk_cell (blk_alloc BK172.out _) 0).trans rfl, (blk_cell (blk_alloc BK172.out _) 1).trans rfl, (blk_cell (blk_alloc BK166.out _) 0).trans rfl, (blk_cell (blk_alloc BK166.out _) 1).trans rfl, (World.cell?_alloc_lt _ _ _ (World.block_lt_of_cell? _ _ (((HB.out.cell (World.block_lt_of_cell? w _ hw187_0)).trans hw187_0)))).trans (((HB.out.cell (World.block_lt_of_cell? w _ hw187_0)).trans hw187_0)), (World.cell?_alloc_lt _ _ _ (World.block_lt_of_cell? _ _ (((HB.out.cell (World.block_lt_of_cell? w _ hw187_1)).trans hw187_1)))).trans (((HB.out.cell (World.block_lt_of_cell? w _ hw187_1)).trans hw187_1))⟩ (fun hHeld => ?_)
                   clear hK K
                   refine norm_ (a' := ?_) ?_ ?_
                   rotate_left
                   ·show Act.put _ (some 96) _ = _
                    simp only [Act.put, List.setIfInBounds_toArray, List.set_cons_zero, List.set_cons_succ, i64_w, i32_w]
                    rfl
                   refine one_ (i := 8) (N := some 97) #[true, true, true, true, true, true, true, true, true, false, false] rfl rfl (one_of HT_.out (by kernel_rfl)) (by decide) (fun K hK => ?_)
                   refine Kd.R_append_step k26 (w0 := w) w.heap.size (by rfl) (.tmp 90) (.tmp 96) 22 26 (.agg #[(.int .i64 0), (.int .i64 0)]) 16 rfl Try.underlying22 info26 rfl (by decide) (by omega) u173001 x173001_4 (⟨(rd_T26 l0_1 x14_4).f0, (rd_T26 l0_1 x14_4).f1⟩ : S26) [.int .i64 ((rd_T26 l0_1 x14_4).f0), .int .i64 ((rd_T26 l0_1 x14_4).f1)] (fun k_ => k_ ≠ gb167) (fun _ => False) rfl rfl ?aP (fun _ hk => hk.elim) ?aF ?aO ?aB ?aS ?aL ?_
                   (case aP => exact k26_mkM _ _ _ (⟨(rd_T26 l0_1 x14_4).f0, (rd_T26 l0_1 x14_4).f1⟩ : S26))
                   (case aB => exact bs_)
                   (case aF => exact (fun k_ hk => Kd.freshB (g := gb167) (o := .cells #[.int .i64 a1_0, .int .i64 a1_1] 26 (0, 0)) (by (with_reducible repeat (first | refine blk_drewN ?_ _ | refine blk_drew ?_ | refine blk_alloc ?_ _)); exact BK167.out) k_ hk))
                   (case aO => exact (rk_ HO_173001))
                   (case aS => exact (below_size bs_))
                   (case aL => have := LMc116.out; omega)
                   intro v189 w140 ho hb hg hat
                   rw [← Ny188.out] at ho
                   have n0_ := Aside0.mk (blk_grown (g := gb166) (o := .cells #[.int .i64 a0_0, .slice (some ad176) l0_1.length c0_1] 24 (0, 0)) (by (with_reducible repeat (first | refine blk_drewN ?_ _ | refine blk_drew ?_ | refine blk_alloc ?_ _)); exact BK166.out) hg (Kd.R_ne HO_173001.out BK166.out (by decide)))
                   have n1_ := Aside0.mk (blk_grown (g := gb167) (o := .cells #[.int .i64 a1_0, .int .i64 a1_1] 26 (0, 0)) (by (with_reducible repeat (first | refine blk_drewN ?_ _ | refine blk_drew ?_ | refine blk_alloc ?_ _)); exact BK167.out) hg (Kd.R_away HO_173001.out (fun _ hk => hk)))
                   have n2_ := Aside0.mk (blk_grown (g := gb168) (o := .cells #[.int .i64 0, .slice none 0 0] 24 (0, 0)) (by (with_reducible repeat (first | refine blk_drewN ?_ _ | refine blk_drew ?_ | refine blk_alloc ?_ _)); exact BK168.out) hg (Kd.R_ne HO_173001.out BK168.out (by decide)))
                   have n3_ := Aside0.mk (blk_grown (g := gb172) (o := .cells #[.int .i64 (wrap64 (a4 + 1)), u173001] 24 (0, 0)) (by (with_reducible repeat (first | refine blk_drewN ?_ _ | refine blk_drew ?_ | refine blk_alloc ?_ _)); exact BK172.out) hg (Kd.R_ne HO_173001.out BK172.out (by decide)))
                   have n4_ := Aside0.mk (hb)
                   have n5_ := Aside0.mk (ho)
                   clear BK166
                   clear BK167
                   clear BK168
                   clear BK172
                   clear HB
                   clear HO_173001
                   have BK166 := n0_
                   have BK167 := n1_
                   have BK168 := n2_
                   have BK172 := n3_
                   have HB := n4_
                   have HO190 := n5_
                   clear n0_ n1_ n2_ n3_ n4_ n5_
                   clear ho hb hg hat
                   obtain ⟨Ao141, co141, eo141⟩ := Kd.R_slice HO190.out
                   (first | subst eo141 | (injection eo141 with f1_ f2_ f3_; have f4_ := f1_.symm; have f5_ := f3_.symm; clear f1_ f2_ f3_; subst f4_; subst f5_))
                   refine hK.out _ _ ⟨(blk_cell BK172.out 0).trans rfl, (blk_cell BK172.out 1).trans rfl, (blk_cell BK166.out 0).trans rfl, (blk_cell BK166.out 1).trans rfl, ((HB.out.cell (World.block_lt_of_cell? w _ hw187_0)).trans hw187_0), ((HB.out.cell (World.block_lt_of_cell? w _ hw187_1)).trans hw187_1)⟩ (fun hHeld => ?_)
                   clear hK K
                   refine norm_ (a' := ?_) ?_ ?_
                   rotate_left
                   ·show Act.put _ (some 97) _ = _
                    simp only [Act.put, List.setIfInBounds_toArray, List.set_cons_zero, List.set_cons_succ, i64_w, i32_w]
                    rfl
                   refine pv_ 9 (some 98) HT_ (h := ?_)
                   refine last_ (i := 10) (N := none) #[true, true, true, true, true, true, true, true, true, true, true] rfl rfl (one_of HT_.out (by kernel_rfl)) (by decide) (fun K hK => ?_)
                   have hs142 : w140.cell? ⟨gb172, 1, none⟩ = some (u173001) := (blk_cell BK172.out 1).trans rfl
                   have hfs142 := blk_frozen BK172.out 1
                   have hns142_0 := NB166_172.out
                   have hns142_1 := NB167_172.out
                   have hns142_2 := NB168_172.out
                   have hms142_0 := NB172_166.out
                   have hms142_1 := NB172_167.out
                   have hms142_2 := NB172_168.out
                   refine skip_ (w1 := ?_) (by rfl) rfl ?_ ?_
                   rotate_left
                   ·go_simp
                    rfl
                   refine hK.out _ _ ?_
                   clear hK K
                   refine done_ (done_of HT_.out (by kernel_rfl)) ?_
                   try go_wp2
                   go_roundg k4
                   case measure => have := HJ7.out; have := HJ30.out; have := HJ47.out; have := HK4.out; omega
                   case rel => exact ⟨(wrap64 (x14_4 + 1)), (y188), (.slice Ao141 y188.length co141), (by first | rfl | (simp; done) | (simp [*]; done)), H', ⟨by have := HJ7.out; have := HJ30.out; have := HJ47.out; have := HK4.out; omega⟩, ⟨by (with_reducible repeat (first | apply Kd.R_alloc | apply Kd.R_drewN | apply Kd.R_drew)); exact Kd.R_mono (Kd.R_far (p := ⟨gb172, 1, none⟩) (Kd.R_types HO190.out BK172.out (by decide)) (fun _ hk => hk.2) (.slice Ao141 y188.length co141)) (fun _ hk => by first | exact hk.1 | trivial)⟩, ⟨bf_ BK166⟩, ⟨bf_ BK167⟩, ⟨bf_ BK168⟩, ⟨bp_ BK172⟩, ⟨bs_⟩⟩
                 ·rw [if_neg c116] at H
                  exact absurd H (by simp)
               ·rw [if_neg c71] at H
                have c71b0 : (((rd_T26 l0_1 x14_4).f0) == a3) = false := beq_eq_false_iff_ne.mpr c71
                have c71b1 : (((rd_T26 l0_1 x14_4).f0) != a3) = true := bne_iff_ne.mpr c71
                by_cases c143 : x173001_4.length < 8796093022208
                ·rw [if_pos c143] at H
                 have LMc143 := Aside0.mk c143
                 clear c143
                 obtain ⟨y195, hy195⟩ : ∃ y_ : List (S26), y_ = (x173001_4 ++ [(⟨(rd_T26 l0_1 x14_4).f0, (rd_T26 l0_1 x14_4).f1⟩ : S26)]) := ⟨_, rfl⟩
                 replace H : (drydockref16_Attach.l0 k4 a2 a3 (wrap64 (x14_4 + 1)) a0_0 l0_1 a1_0 a1_1 (wrap64 (a4 + 1)) y195) = some (r1, r2, r3) := by first | (rw [hy195]; with_reducible exact H) | (have H2_ := (Option.bind_some _ _).symm.trans H; rw [hy195]; with_reducible exact H2_) | (have H2_ := (Option.bind_some _ _).symm.trans H; with_reducible exact H2_) | with_reducible exact H | (rw [hy195]; exact H) | exact H
                 have Ny195 := Aside0.mk hy195
                 clear hy195
                 have H' := Aside0.mk H
                 clear H
                 have hnb144 := NB166_167.out
                 have hnc144 := NB167_166.out
                 have hnb145 := NB166_168.out
                 have hnc145 := NB168_166.out
                 have hnb146 := NB166_172.out
                 have hnc146 := NB172_166.out
                 obtain ⟨hcz147_0, hcz147_1, hfz147_0, hfz147_1⟩ := blk2 BK166
                 have p176 : 0 ≤ (x14_4 : Int) := of_decide_eq_true (by first | (with_reducible assumption) | assumption)
                 have q176 : x14_4 < (l0_1.length : Int) := of_decide_eq_true (by first | (with_reducible assumption) | assumption)
                 obtain ⟨ad176, e176, hx176_0, hx176_1⟩ := at_T26 HR0_1.out x14_4 p176 q176
                 cases e176
                 replace hx176_0 := (HB.out.cell (World.block_lt_of_cell? w _ hx176_0)).trans hx176_0
                 replace hx176_1 := (HB.out.cell (World.block_lt_of_cell? w _ hx176_1)).trans hx176_1
                 replace p176 := eq_true p176
                 replace q176 := eq_true q176
                 try go_wp2
                 have n0_ := Aside0.mk (Kd.R_drew HO_173001.out)
                 have n1_ := Aside0.mk (blk_drew BK166.out)
                 have n2_ := Aside0.mk (blk_drew BK167.out)
                 have n3_ := Aside0.mk (blk_drew BK168.out)
                 have n4_ := Aside0.mk (blk_drew BK172.out)
                 have n5_ := Aside0.mk (below_drew1 HB.out)
                 clear HO_173001
                 clear BK166
                 clear BK167
                 clear BK168
                 clear BK172
                 clear HB
                 have HO_173001 := n0_
                 have BK166 := n1_
                 have BK167 := n2_
                 have BK168 := n3_
                 have BK172 := n4_
                 have HB := n5_
                 clear n0_ n1_ n2_ n3_ n4_ n5_
                 have p194 : 0 ≤ (x14_4 : Int) := of_decide_eq_true (by first | (with_reducible assumption) | assumption)
                 have q194 : x14_4 < (l0_1.length : Int) := of_decide_eq_true (by first | (with_reducible assumption) | assumption)
                 obtain ⟨ad194, e194, hx194_0, hx194_1⟩ := at_T26 HR0_1.out x14_4 p194 q194
                 have hw194_1 := hx194_1
                 have hw194_0 := hx194_0
                 obtain rfl : ad176 = ad194 := (by injection e194)
                 replace hx194_0 := (HB.out.cell (World.block_lt_of_cell? w _ hx194_0)).trans hx194_0
                 replace hx194_1 := (HB.out.cell (World.block_lt_of_cell? w _ hx194_1)).trans hx194_1
                 replace p194 := eq_true p194
                 replace q194 := eq_true q194
                 refine start_ (n := 11) (S := fun w' => w'.cell? ⟨gb172, 0, none⟩ = some (.int .i64 (wrap64 (a4 + 1))) ∧ w'.cell? ⟨gb172, 1, none⟩ = some (u173001) ∧ w'.cell? ⟨gb166, 0, none⟩ = some (.int .i64 a0_0) ∧ w'.cell? ⟨gb166, 1, none⟩ = some (.slice (some ad176) l0_1.length c0_1) ∧ w'.cell? (ad176.add ((x14_4).toNat * 2)) = some (.int .i64 ((rd_T26 l0_1 x14_4).f0)) ∧ w'.cell? ⟨(ad176.add ((x14_4).toNat * 2)).block, (ad176.add ((x14_4).toNat * 2)).off + 1, none⟩ = some (.int .i64 ((rd_T26 l0_1 x14_4).f1))) (ds := [10]) #[false, false, false, false, false, false, false, false, false, false, false] (by kernel_rfl) rfl rfl ⟨(blk_cell BK172.out 0).trans rfl, (blk_cell BK172.out 1).trans rfl, (blk_cell BK166.out 0).trans rfl, (blk_cell BK166.out 1).trans rfl, ((HB.out.cell (World.block_lt_of_cell? w _ hw194_0)).trans hw194_0), ((HB.out.cell (World.block_lt_of_cell? w _ hw194_1)).trans hw194_1)⟩ (fun hHeld => ?_); refine with_tabW drydockref16_Attach.tab19 drydockref16_Attach.bits19 (fun HT_ HW_ => ?_)
                 generalize wr.drew = w148 at HO_173001 BK166 BK167 BK168 BK172 HB hx194_0 hx194_1 hHeld ⊢
                 refine pv_ 0 (some 89) HT_ (h := ?_)
                 refine pv_ 2 (some 91) HT_ (h := ?_)
                 refine pv_ 4 (some 93) HT_ (h := ?_)
                 refine tk_ 1 (some 90) HT_ HW_ hHeld (h := ?_)
                 refine tk_ 3 (some 92) HT_ HW_ hHeld (h := ?_)
                 refine pv_ 5 (some 94) HT_ (h := ?_)
                 refine tk_ 6 (some 95) HT_ HW_ hHeld (h := ?_)
                 refine one_ (i := 7) (N := some 96) #[true, true, true, true, true, true, true, true, false, false, false] rfl rfl (one_of HT_.out (by kernel_rfl)) (by decide) (fun K hK => ?_)
                 refine value_ (w1 := ?_) (v := ?_) (by rfl) rfl ?_ ?_
                 rotate_left 2
                 ·go_simp
                  constructor
                  ·rfl
                  ·rfl
                 refine hK.out _ _ ⟨(blk_cell (blk_alloc BK172.out _) 0).trans rfl, (blk_cell (blk_alloc BK172.out _) 1).trans rfl, (blk_cell (blk_alloc BK166.out _) 0).trans rfl, (blk_cell (blk_alloc BK166.out _) 1).trans rfl, (World.cell?_alloc_lt _ _ _ (World.block_lt_of_cell? _ _ (((HB.out.cell (World.block_lt_of_cell? w _ hw194_0)).trans hw194_0)))).trans (((HB.out.cell (World.block_lt_of_cell? w _ hw194_0)).trans hw194_0)), (World.cell?_alloc_lt _ _ _ (World.block_lt_of_cell? _ _ (((HB.out.cell (World.block_lt_of_cell? w _ hw194_1)).trans hw194_1)))).trans (((HB.out.cell (World.block_lt_of_cell? w _ hw194_1)).trans hw194_1))⟩ (fun hHeld => ?_)
                 clear hK K
                 refine norm_ (a' := ?_) ?_ ?_
                 rotate_left
                 ·show Act.put _ (some 96) _ = _
                  simp only [Act.put, List.setIfInBounds_toArray, List.set_cons_zero, List.set_cons_succ, i64_w, i32_w]
                  rfl
                 refine one_ (i := 8) (N := some 97) #[true, true, true, true, true, true, true, true, true, false, false] rfl rfl (one_of HT_.out (by kernel_rfl)) (by decide) (fun K hK => ?_)
                 refine Kd.R_append_step k26 (w0 := w) w.heap.size (by rfl) (.tmp 90) (.tmp 96) 22 26 (.agg #[(.int .i64 0), (.int .i64 0)]) 16 rfl Try.underlying22 info26 rfl (by decide) (by omega) u173001 x173001_4 (⟨(rd_T26 l0_1 x14_4).f0, (rd_T26 l0_1 x14_4).f1⟩ : S26) [.int .i64 ((rd_T26 l0_1 x14_4).f0), .int .i64 ((rd_T26 l0_1 x14_4).f1)] (fun k_ => k_ ≠ gb167) (fun _ => False) rfl rfl ?aP (fun _ hk => hk.elim) ?aF ?aO ?aB ?aS ?aL ?_
                 (case aP => exact k26_mkM _ _ _ (⟨(rd_T26 l0_1 x14_4).f0, (rd_T26 l0_1 x14_4).f1⟩ : S26))
                 (case aB => exact bs_)
                 (case aF => exact (fun k_ hk => Kd.freshB (g := gb167) (o := .cells #[.int .i64 a1_0, .int .i64 a1_1] 26 (0, 0)) (by (with_reducible repeat (first | refine blk_drewN ?_ _ | refine blk_drew ?_ | refine blk_alloc ?_ _)); exact BK167.out) k_ hk))
                 (case aO => exact (rk_ HO_173001))
                 (case aS => exact (below_size bs_))
                 (case aL => have := LMc143.out; omega)
                 intro v196 w149 ho hb hg hat
                 rw [← Ny195.out] at ho
                 have n0_ := Aside0.mk (blk_grown (g := gb166) (o := .cells #[.int .i64 a0_0, .slice (some ad176) l0_1.length c0_1] 24 (0, 0)) (by (with_reducible repeat (first | refine blk_drewN ?_ _ | refine blk_drew ?_ | refine blk_alloc ?_ _)); exact BK166.out) hg (Kd.R_ne HO_173001.out BK166.out (by decide)))
                 have n1_ := Aside0.mk (blk_grown (g := gb167) (o := .cells #[.int .i64 a1_0, .int .i64 a1_1] 26 (0, 0)) (by (with_reducible repeat (first | refine blk_drewN ?_ _ | refine blk_drew ?_ | refine blk_alloc ?_ _)); exact BK167.out) hg (Kd.R_away HO_173001.out (fun _ hk => hk)))
                 have n2_ := Aside0.mk (blk_grown (g := gb168) (o := .cells #[.int .i64 0, .slice none 0 0] 24 (0, 0)) (by (with_reducible repeat (first | refine blk_drewN ?_ _ | refine blk_drew ?_ | refine blk_alloc ?_ _)); exact BK168.out) hg (Kd.R_ne HO_173001.out BK168.out (by decide)))
                 have n3_ := Aside0.mk (blk_grown (g := gb172) (o := .cells #[.int .i64 (wrap64 (a4 + 1)), u173001] 24 (0, 0)) (by (with_reducible repeat (first | refine blk_drewN ?_ _ | refine blk_drew ?_ | refine blk_alloc ?_ _)); exact BK172.out) hg (Kd.R_ne HO_173001.out BK172.out (by decide)))
                 have n4_ := Aside0.mk (hb)
                 have n5_ := Aside0.mk (ho)
                 clear BK166
                 clear BK167
                 clear BK168
                 clear BK172
                 clear HB
                 clear HO_173001
                 have BK166 := n0_
                 have BK167 := n1_
                 have BK168 := n2_
                 have BK172 := n3_
                 have HB := n4_
                 have HO197 := n5_
                 clear n0_ n1_ n2_ n3_ n4_ n5_
                 clear ho hb hg hat
                 obtain ⟨Ao150, co150, eo150⟩ := Kd.R_slice HO197.out
                 (first | subst eo150 | (injection eo150 with f1_ f2_ f3_; have f4_ := f1_.symm; have f5_ := f3_.symm; clear f1_ f2_ f3_; subst f4_; subst f5_))
                 refine hK.out _ _ ⟨(blk_cell BK172.out 0).trans rfl, (blk_cell BK172.out 1).trans rfl, (blk_cell BK166.out 0).trans rfl, (blk_cell BK166.out 1).trans rfl, ((HB.out.cell (World.block_lt_of_cell? w _ hw194_0)).trans hw194_0), ((HB.out.cell (World.block_lt_of_cell? w _ hw194_1)).trans hw194_1)⟩ (fun hHeld => ?_)
                 clear hK K
                 refine norm_ (a' := ?_) ?_ ?_
                 rotate_left
                 ·show Act.put _ (some 97) _ = _
                  simp only [Act.put, List.setIfInBounds_toArray, List.set_cons_zero, List.set_cons_succ, i64_w, i32_w]
                  rfl
                 refine pv_ 9 (some 98) HT_ (h := ?_)
                 refine last_ (i := 10) (N := none) #[true, true, true, true, true, true, true, true, true, true, true] rfl rfl (one_of HT_.out (by kernel_rfl)) (by decide) (fun K hK => ?_)
                 have hs151 : w149.cell? ⟨gb172, 1, none⟩ = some (u173001) := (blk_cell BK172.out 1).trans rfl
                 have hfs151 := blk_frozen BK172.out 1
                 have hns151_0 := NB166_172.out
                 have hns151_1 := NB167_172.out
                 have hns151_2 := NB168_172.out
                 have hms151_0 := NB172_166.out
                 have hms151_1 := NB172_167.out
                 have hms151_2 := NB172_168.out
                 refine skip_ (w1 := ?_) (by rfl) rfl ?_ ?_
                 rotate_left
                 ·go_simp
                  rfl
                 refine hK.out _ _ ?_
                 clear hK K
                 refine done_ (done_of HT_.out (by kernel_rfl)) ?_
                 try go_wp2
                 go_roundg k4
                 case measure => have := HJ7.out; have := HJ30.out; have := HJ47.out; have := HK4.out; omega
                 case rel => exact ⟨(wrap64 (x14_4 + 1)), (y195), (.slice Ao150 y195.length co150), (by first | rfl | (simp; done) | (simp [*]; done)), H', ⟨by have := HJ7.out; have := HJ30.out; have := HJ47.out; have := HK4.out; omega⟩, ⟨by (with_reducible repeat (first | apply Kd.R_alloc | apply Kd.R_drewN | apply Kd.R_drew)); exact Kd.R_mono (Kd.R_far (p := ⟨gb172, 1, none⟩) (Kd.R_types HO197.out BK172.out (by decide)) (fun _ hk => hk.2) (.slice Ao150 y195.length co150)) (fun _ hk => by first | exact hk.1 | trivial)⟩, ⟨bf_ BK166⟩, ⟨bf_ BK167⟩, ⟨bf_ BK168⟩, ⟨bp_ BK172⟩, ⟨bs_⟩⟩
                ·rw [if_neg c143] at H
                 exact absurd H (by simp)
              ·rw [if_neg c70] at H
               exact absurd H (by simp)
             ·rw [if_neg c69] at H
              have c69b0 : decide (x14_4 < (l0_1.length : Int)) = false := decide_eq_false c69
              clear c69
              by_cases c152 : a2 = 1
              ·rw [if_pos c152] at H
               have c152b0 : (a2 == 1) = true := beq_iff_eq.mpr c152
               have c152b1 : (a2 != 1) = false := bne_eq_false_iff_eq.mpr c152
               clear c152
               by_cases c153 : x173001_4.length < 8796093022208
               ·rw [if_pos c153] at H
                have LMc153 := Aside0.mk c153
                clear c153
                obtain ⟨y198, hy198⟩ : ∃ y_ : List (S26), y_ = (x173001_4 ++ [(⟨a1_0, a1_1⟩ : S26)]) := ⟨_, rfl⟩
                replace H : (some ((wrap64 (a4 + 1)), y198, 0)) = some (r1, r2, r3) := by first | (rw [hy198]; with_reducible exact H) | (have H2_ := (Option.bind_some _ _).symm.trans H; rw [hy198]; with_reducible exact H2_) | (have H2_ := (Option.bind_some _ _).symm.trans H; with_reducible exact H2_) | with_reducible exact H | (rw [hy198]; exact H) | exact H
                have Ny198 := Aside0.mk hy198
                clear hy198
                simp only [Option.some.injEq, Prod.mk.injEq] at H
                obtain ⟨rfl, rfl, rfl⟩ := H
                have hnb154 := NB166_167.out
                have hnc154 := NB167_166.out
                have hnb155 := NB166_168.out
                have hnc155 := NB168_166.out
                have hnb156 := NB166_172.out
                have hnc156 := NB172_166.out
                obtain ⟨hcz157_0, hcz157_1, hfz157_0, hfz157_1⟩ := blk2 BK166
                have hnb158 := NB172_167.out
                have hnc158 := NB167_172.out
                have hnb159 := NB172_168.out
                have hnc159 := NB168_172.out
                obtain ⟨hcz160_0, hcz160_1, hfz160_0, hfz160_1⟩ := blk2 BK172
                have hnb161 := NB167_168.out
                have hnc161 := NB168_167.out
                obtain ⟨hcz162_0, hcz162_1, hfz162_0, hfz162_1⟩ := blk2 BK167
                go_wp2_with (first | ((with_reducible refine gate_builtin (b := .append) (xs := #[.tmp 113, .tmp 115]) rfl ?_); at_builtin; refine Kd.R_append k26 (w0 := w) w.heap.size rfl (.tmp 113) (.tmp 115) 22 26 (.agg #[(.int .i64 0), (.int .i64 0)]) 16 rfl Try.underlying22 info26 rfl (by decide) (by omega) u173001 x173001_4 (⟨a1_0, a1_1⟩ : S26) [.int .i64 a1_0, .int .i64 a1_1] (fun k_ => k_ ≠ gb167) (fun _ => False) rfl rfl ?aP (fun _ hk => hk.elim) ?aF ?aO ?aB ?aS ?aL ?_; (case aP => exact k26_mkM _ _ _ (⟨a1_0, a1_1⟩ : S26)); (case aB => exact bs_); (case aF => exact (fun k_ hk => Kd.freshB (g := gb167) (o := .cells #[.int .i64 a1_0, .int .i64 a1_1] 26 (0, 0)) (by (with_reducible repeat (first | refine blk_drewN ?_ _ | refine blk_drew ?_ | refine blk_alloc ?_ _)); exact BK167.out) k_ hk)); (case aO => exact (rk_ HO_173001)); (case aS => exact (below_size bs_)); (case aL => have := LMc153.out; omega); intro v199 w163 ho hb hg hat; rw [← Ny198.out] at ho; have n0_ := Aside0.mk (blk_grown (g := gb166) (o := .cells #[.int .i64 a0_0, .slice A0_1 l0_1.length c0_1] 24 (0, 0)) (by (with_reducible repeat (first | refine blk_drewN ?_ _ | refine blk_drew ?_ | refine blk_alloc ?_ _)); exact BK166.out) hg (Kd.R_ne HO_173001.out BK166.out (by decide))); have n1_ := Aside0.mk (blk_grown (g := gb167) (o := .cells #[.int .i64 a1_0, .int .i64 a1_1] 26 (0, 0)) (by (with_reducible repeat (first | refine blk_drewN ?_ _ | refine blk_drew ?_ | refine blk_alloc ?_ _)); exact BK167.out) hg (Kd.R_away HO_173001.out (fun _ hk => hk))); have n2_ := Aside0.mk (blk_grown (g := gb168) (o := .cells #[.int .i64 0, .slice none 0 0] 24 (0, 0)) (by (with_reducible repeat (first | refine blk_drewN ?_ _ | refine blk_drew ?_ | refine blk_alloc ?_ _)); exact BK168.out) hg (Kd.R_ne HO_173001.out BK168.out (by decide))); have n3_ := Aside0.mk (blk_grown (g := gb172) (o := .cells #[.int .i64 (wrap64 (a4 + 1)), u173001] 24 (0, 0)) (by (with_reducible repeat (first | refine blk_drewN ?_ _ | refine blk_drew ?_ | refine blk_alloc ?_ _)); exact BK172.out) hg (Kd.R_ne HO_173001.out BK172.out (by decide))); have n4_ := Aside0.mk (hb); have n5_ := Aside0.mk (ho); clear BK166 BK167 BK168 BK172 HB HO_173001; have BK166 := n0_; have BK167 := n1_; have BK168 := n2_; have BK172 := n3_; have HB := n4_; have HO200 := n5_; clear n0_ n1_ n2_ n3_ n4_ n5_; clear ho hb hg hat; obtain ⟨Ao164, co164, eo164⟩ := Kd.R_slice HO200.out; subst eo164; obtain ⟨hcz165_0, hcz165_1, hfz165_0, hfz165_1⟩ := blk2 BK172; obtain ⟨hcz166_0, hcz166_1, hfz166_0, hfz166_1⟩ := blk2 BK168))
                refine bodyPost_ret (results_ct rfl _ _ gb168 24 #[.int .i64 (wrap64 (a4 + 1)), .slice Ao164 y198.length co164] (0, 0) _ rfl (bp_ BK168) Try.underlying24 rfl (by kernel_rfl)) rfl ?_
                exact ⟨_, by first | rfl | (simp [errW_none, errW_some] <;> rfl) | (simp [*, errW_none, errW_some] <;> rfl), by (with_reducible repeat (first | apply Kd.R_alloc | apply Kd.R_drewN | apply Kd.R_drew)); exact Kd.R_mono (far2 gb168 (Kd.R_far (p := ⟨gb172, 1, none⟩) (Kd.R_types (Kd.R_types HO200.out BK172.out (by decide)) BK168.out (by decide)) (fun _ hk => hk.1.2) (.slice Ao164 y198.length co164)) (fun _ hk => hk.2)) (fun _ hk => trivial), by repeat (first | (with_reducible first | exact HB.out | apply below_alloc | apply pw_below_drewN | apply below_drew1 | refine below_set ?_ GE166.out | refine below_set ?_ GE167.out | refine below_set ?_ GE168.out | refine below_set ?_ GE172.out) | exact HB.out)⟩
               ·rw [if_neg c153] at H
                exact absurd H (by simp)
              ·rw [if_neg c152] at H
               have c152b0 : (a2 == 1) = false := beq_eq_false_iff_ne.mpr c152
               have c152b1 : (a2 != 1) = true := bne_iff_ne.mpr c152
               simp only [Option.some.injEq, Prod.mk.injEq] at H
               obtain ⟨rfl, rfl, rfl⟩ := H
               have hnb167 := NB166_167.out
               have hnc167 := NB167_166.out
               have hnb168 := NB166_168.out
               have hnc168 := NB168_166.out
               have hnb169 := NB166_172.out
               have hnc169 := NB172_166.out
               obtain ⟨hcz170_0, hcz170_1, hfz170_0, hfz170_1⟩ := blk2 BK166
               have hnb171 := NB172_167.out
               have hnc171 := NB167_172.out
               have hnb172 := NB172_168.out
               have hnc172 := NB168_172.out
               obtain ⟨hcz173_0, hcz173_1, hfz173_0, hfz173_1⟩ := blk2 BK172
               have hnb174 := NB168_167.out
               have hnc174 := NB167_168.out
               obtain ⟨hcz175_0, hcz175_1, hfz175_0, hfz175_1⟩ := blk2 BK168
               obtain ⟨Ao176, co176, eo176⟩ := Kd.R_slice HO_173001.out
               subst eo176
               go_wp2
               refine bodyPost_ret (results_ct rfl _ _ gb168 24 #[.int .i64 (wrap64 (a4 + 1)), .slice Ao176 x173001_4.length co176] (0, 0) _ rfl (bp_ BK168) Try.underlying24 rfl (by kernel_rfl)) rfl ?_
               exact ⟨_, by first | rfl | (simp [errW_none, errW_some] <;> rfl) | (simp [*, errW_none, errW_some] <;> rfl), by (with_reducible repeat (first | apply Kd.R_alloc | apply Kd.R_drewN | apply Kd.R_drew)); exact Kd.R_mono (far2 gb168 (Kd.R_types HO_173001.out BK168.out (by decide)) (fun _ hk => hk.2)) (fun _ hk => trivial), by repeat (first | (with_reducible first | exact HB.out | apply below_alloc | apply pw_below_drewN | apply below_drew1 | refine below_set ?_ GE166.out | refine below_set ?_ GE167.out | refine below_set ?_ GE168.out | refine below_set ?_ GE172.out) | exact HB.out)⟩
 ·rw [if_neg c7] at H
  have c7b0 : (t169 == 0) = false := beq_eq_false_iff_ne.mpr c7
  have c7b1 : (t169 != 0) = true := bne_iff_ne.mpr c7
  simp only [Option.some.injEq, Prod.mk.injEq] at H
  obtain ⟨rfl, rfl, rfl⟩ := H
  go_enter Try.func13, Try.ntmps13
  go_wp2_with (first | ((with_reducible refine gate_dst (N := 5) rfl ?_); refine box_event ?hg (N := 5) ?hd (cs := #[.int .i64 a0_0, .slice A0_1 l0_1.length c0_1]) (t := 24) ?hr ?_; (case hd => rfl); (case hg => rfl); (case hr => first | (go_simp; done) | (go_simp; rfl)); intro gb166 hg w177 hbox hb; have n0_ := Aside0.mk (below_step bs_ hb); have n1_ := Aside0.mk (hbox); have n2_ := Aside0.mk ((by rw [hg]; exact (below_size bs_) : w.heap.size ≤ gb166)); have n3_ := Aside0.mk ((by rw [hg]; exact (below_size bs_) : w.heap.size ≤ gb166)); clear HB; have HB := n0_; have BK166 := n1_; have GW166 := n2_; have GE166 := n3_; clear n0_ n1_ n2_ n3_; clear hb hbox hg) | ((with_reducible refine gate_dst (N := 6) rfl ?_); refine box_event ?hg (N := 6) ?hd (cs := #[.int .i64 a1_0, .int .i64 a1_1]) (t := 26) ?hr ?_; (case hd => rfl); (case hg => rfl); (case hr => first | (go_simp; done) | (go_simp; rfl)); intro gb167 hg w178 hbox hb; have n0_ := Aside0.mk (blk_below (bk_ BK166) hb); have n1_ := Aside0.mk (below_step bs_ hb); have n2_ := Aside0.mk (hbox); have n3_ := Aside0.mk ((by rw [hg]; exact (below_size bs_) : w.heap.size ≤ gb167)); have n4_ := Aside0.mk ((by rw [hg]; exact (below_size bs_) : w.heap.size ≤ gb167)); have n5_ := Aside0.mk ((by rw [hg]; exact Nat.ne_of_lt (blk_lt (bk_ BK166)) : gb166 ≠ gb167)); have n6_ := Aside0.mk ((by rw [hg]; exact Nat.ne_of_gt (blk_lt (bk_ BK166)) : gb167 ≠ gb166)); clear BK166 HB; have BK166 := n0_; have HB := n1_; have BK167 := n2_; have GW167 := n3_; have GE167 := n4_; have NB166_167 := n5_; have NB167_166 := n6_; clear n0_ n1_ n2_ n3_ n4_ n5_ n6_; clear hb hbox hg) | ((with_reducible refine gate_dst (N := 10) rfl ?_); refine box_event ?hg (N := 10) ?hd (cs := #[.int .i64 0, .slice none 0 0]) (t := 24) ?hr ?_; (case hd => rfl); (case hg => rfl); (case hr => first | (go_simp; done) | (go_simp; rfl)); intro gb168 hg w179 hbox hb; have n0_ := Aside0.mk (blk_below (bk_ BK166) hb); have n1_ := Aside0.mk (blk_below (bk_ BK167) hb); have n2_ := Aside0.mk (below_step bs_ hb); have n3_ := Aside0.mk (hbox); have n4_ := Aside0.mk ((by rw [hg]; exact (below_size bs_) : w.heap.size ≤ gb168)); have n5_ := Aside0.mk ((by rw [hg]; exact (below_size bs_) : w.heap.size ≤ gb168)); have n6_ := Aside0.mk ((by rw [hg]; exact Nat.ne_of_lt (blk_lt (bk_ BK166)) : gb166 ≠ gb168)); have n7_ := Aside0.mk ((by rw [hg]; exact Nat.ne_of_gt (blk_lt (bk_ BK166)) : gb168 ≠ gb166)); have n8_ := Aside0.mk ((by rw [hg]; exact Nat.ne_of_lt (blk_lt (bk_ BK167)) : gb167 ≠ gb168)); have n9_ := Aside0.mk ((by rw [hg]; exact Nat.ne_of_gt (blk_lt (bk_ BK167)) : gb168 ≠ gb167)); clear BK166 BK167 HB; have BK166 := n0_; have BK167 := n1_; have HB := n2_; have BK168 := n3_; have GW168 := n4_; have GE168 := n5_; have NB166_168 := n6_; have NB168_166 := n7_; have NB167_168 := n8_; have NB168_167 := n9_; clear n0_ n1_ n2_ n3_ n4_ n5_ n6_ n7_ n8_ n9_; clear hb hbox hg; have hnb180 := NB166_167.out; have hnc180 := NB167_166.out; have hnb181 := NB166_168.out; have hnc181 := NB168_166.out; obtain ⟨hcz182_0, hcz182_1, hfz182_0, hfz182_1⟩ := blk2 BK166; have hnb183 := NB167_168.out; have hnc183 := NB168_167.out; obtain ⟨hcz184_0, hcz184_1, hfz184_0, hfz184_1⟩ := blk2 BK167) | ((with_reducible refine gate_callee (f := 26) rfl ?_); refine goesL_ (some 19) rfl rfl Try.func26 (by kernel_rfl) rfl #[.agg #[.int .i64 a0_0, .slice A0_1 l0_1.length c0_1], .agg #[.int .i64 a1_0, .int .i64 a1_1], .int .i64 a4] rfl (by (try simp only [List.map_toArray, List.map_cons, List.map_nil]); first | done | rfl | (simp only [List.length_drop, List.length_take]; rfl)) ?_; (with_reducible refine (drydockref16_why.calls k a0_0 _ _ l0_1 a1_0 a1_1 a4 t169 _ ?side1 ?side2 A6.out).mono ?_); (case side1 => repeat (first | exact (Kd.C_below HR0_1.out HB.out) | (with_reducible refine Kd.C_alloc ?_ _) | (with_reducible refine Kd.C_drewN ?_ _) | (with_reducible refine Kd.C_drew ?_))); (case side2 => exact HC0_1.out); rintro e w185 ⟨rfl, hb⟩; refine ⟨_, rfl, ?_⟩; have n0_ := Aside0.mk (blk_below (bk_ BK166) hb); have n1_ := Aside0.mk (blk_below (bk_ BK167) hb); have n2_ := Aside0.mk (blk_below (bk_ BK168) hb); have n3_ := Aside0.mk (below_step bs_ hb); clear BK166 BK167 BK168 HB; have BK166 := n0_; have BK167 := n1_; have BK168 := n2_; have HB := n3_; clear n0_ n1_ n2_ n3_; (try clear hb); (try clear hb2); (try clear hk); (try clear hi); obtain ⟨hcz186_0, hcz186_1, hfz186_0, hfz186_1⟩ := blk2 BK168))
  refine bodyPost_ret (results_ct rfl _ _ gb168 24 #[.int .i64 0, .slice none 0 0] (0, 0) _ rfl (bp_ BK168) Try.underlying24 rfl (by kernel_rfl)) rfl ?_
  exact ⟨_, by first | rfl | (simp [errW_none, errW_some] <;> rfl) | (simp [*, errW_none, errW_some] <;> rfl), by first | exact Kd.R_nil _ _ _ _ _ | exact Kd.N_nil _ _ _ _ _ | exact Kd.V_nil _ _ _ _ _ | exact Kd.Q_nil _ _ _ _ _ | exact Kd.S_nil _ _ _ _ _, by repeat (first | (with_reducible first | exact HB.out | apply below_alloc | apply pw_below_drewN | apply below_drew1 | refine below_set ?_ GE166.out | refine below_set ?_ GE167.out | refine below_set ?_ GE168.out) | exact HB.out)⟩

end Go.Proofs.Ytoehingbhmaidaa.P
