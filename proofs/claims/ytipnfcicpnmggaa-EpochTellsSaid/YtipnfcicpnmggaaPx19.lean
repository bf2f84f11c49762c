-- Written by a program of this session over the kit's print of the translation. Lean checks it.
import Derived.Test.YtipnfcicpnmggaaPx0
import Derived.Test.YtipnfcicpnmggaaPx11
import Derived.Test.YtipnfcicpnmggaaPx18
-- shorter
namespace Go.Proofs.Ytipnfcicpnmggaa.P
open Go.RowKit Go.Proofs.YtipnfcicpnmggaaW.PrintWords Go.Proofs.YtipnfcicpnmggaaW.PrintLast Go.Proofs.YtipnfcicpnmggaaW.PrintMore
attribute [local go_sem] max2_int min2_int max_two min_two max_three min_three max_four min_four   -- for this text's walks alone
set_option linter.unusedVariables false
set_option linter.unusedSimpArgs false

/-! ### drydockref17_Clear: function 19 -/
mutual
def drydockref17_Clear.l0 : Nat → List Int → Int → Int → Int → Int → Int → Int → List (S43) → Int → Int → Int → Int → Int → List (S43) → Option (Int × Int × Int × Int × Int × (List (S43)) × List Int)
  | 0, _, _, _, _, _, _, _, _, _, _, _, _, _, _ => none
  | k + 1, x4, x6, x307000, x307001, x307002, x307003, x307004, x307005, x320000, x320001, x320002, x320003, x320004, x320005 => if x6 < (x307005.length : Int) then (drydockref17_Clear.l1 k x4 x6 false 0 x307000 x307001 x307002 x307003 x307004 x307005 x320000 x320001 x320002 x320003 x320004 x320005) else (some (x320000, x320001, x320002, x320003, x320004, x320005, x4))
def drydockref17_Clear.l1 : Nat → List Int → Int → Bool → Int → Int → Int → Int → Int → Int → List (S43) → Int → Int → Int → Int → Int → List (S43) → Option (Int × Int × Int × Int × Int × (List (S43)) × List Int)
  | 0, _, _, _, _, _, _, _, _, _, _, _, _, _, _, _, _ => none
  | k + 1, x4, x6, x7, x8, x307000, x307001, x307002, x307003, x307004, x307005, x320000, x320001, x320002, x320003, x320004, x320005 => if x8 < (x4.length : Int) then (if x7 = true then (drydockref17_Clear.l1 k x4 x6 true (wrap64 (x8 + 1)) x307000 x307001 x307002 x307003 x307004 x307005 x320000 x320001 x320002 x320003 x320004 x320005) else (if 0 ≤ x8 then (if 0 ≤ x6 then (if x6 < (x307005.length : Int) then (drydockref17_Clear.l1 k x4 x6 ((rd x4 x8) == ((rd_T43 x307005 x6).f0)) (wrap64 (x8 + 1)) x307000 x307001 x307002 x307003 x307004 x307005 x320000 x320001 x320002 x320003 x320004 x320005) else (none)) else (none)) else (none))) else (if x7 = true then (drydockref17_Clear.l0 k x4 (wrap64 (x6 + 1)) x307000 x307001 x307002 x307003 x307004 x307005 x320000 x320001 x320002 x320003 x320004 x320005) else (if 0 ≤ x6 then (if x6 < (x307005.length : Int) then (if x320005.length < 8796093022208 then (drydockref17_Clear.l0 k x4 (wrap64 (x6 + 1)) x307000 x307001 x307002 x307003 x307004 x307005 x320000 x320001 x320002 x320003 x320004 (x320005 ++ [(⟨(rd_T43 x307005 x6).f0, (rd_T43 x307005 x6).f1⟩ : S43)])) else (none)) else (none)) else (none)))
end
def drydockref17_Clear.f (k : Nat) (a0_0 : Int) (a0_1 : Int) (a0_2 : Int) (a0_3 : Int) (a0_4 : Int) (l0_5 : List (S43)) : Option (Int × Int × Int × Int × Int × (List (S43)) × List Int) := (drydockref17_Ready.f k a0_0 a0_1 a0_2 a0_3 a0_4 l0_5).bind fun t308 => ((drydockref17_Own.f a0_0 a0_1 a0_2 a0_3 a0_4 l0_5).bind fun bt311 => (drydockref17_Clear.l0 k t308 0 a0_0 a0_1 a0_2 a0_3 a0_4 l0_5 bt311.1 bt311.2.1 bt311.2.2.1 bt311.2.2.2.1 bt311.2.2.2.2.1 ([] : List (S43))))
theorem drydockref17_Clear.mono_l : ∀ k, (∀ y0 y1 y2 y3 y4 y5 y6 y7 y8 y9 y10 y11 y12 y13, LeO (drydockref17_Clear.l0 k y0 y1 y2 y3 y4 y5 y6 y7 y8 y9 y10 y11 y12 y13) (drydockref17_Clear.l0 (k + 1) y0 y1 y2 y3 y4 y5 y6 y7 y8 y9 y10 y11 y12 y13)) ∧ (∀ y0 y1 y2 y3 y4 y5 y6 y7 y8 y9 y10 y11 y12 y13 y14 y15, LeO (drydockref17_Clear.l1 k y0 y1 y2 y3 y4 y5 y6 y7 y8 y9 y10 y11 y12 y13 y14 y15) (drydockref17_Clear.l1 (k + 1) y0 y1 y2 y3 y4 y5 y6 y7 y8 y9 y10 y11 y12 y13 y14 y15))
  | 0 => ⟨fun _ _ _ _ _ _ _ _ _ _ _ _ _ _ r h => by simp [drydockref17_Clear.l0] at h, fun _ _ _ _ _ _ _ _ _ _ _ _ _ _ _ _ r h => by simp [drydockref17_Clear.l1] at h⟩
  | k + 1 => by
    obtain ⟨ih0, ih1⟩ := drydockref17_Clear.mono_l k
    refine ⟨?_, ?_⟩
    · intro y0 y1 y2 y3 y4 y5 y6 y7 y8 y9 y10 y11 y12 y13
      unfold drydockref17_Clear.l0
      repeat' first
      | (with_reducible exact ih0 _ _ _ _ _ _ _ _ _ _ _ _ _ _)
      | (with_reducible exact ih1 _ _ _ _ _ _ _ _ _ _ _ _ _ _ _ _)
      | (with_reducible exact drydockref17_Ready.mono _ _ _ _ _ _ _)
      | (with_reducible exact LeO.refl _)
      | (with_reducible exact LeO.none _)
      | (with_reducible refine LeO.ite ?_ ?_)
      | (with_reducible refine LeO.bind ?_ (fun _ => ?_))
      | exact ih0 _ _ _ _ _ _ _ _ _ _ _ _ _ _
      | exact ih1 _ _ _ _ _ _ _ _ _ _ _ _ _ _ _ _
      | exact drydockref17_Ready.mono _ _ _ _ _ _ _
      | exact LeO.none _
      | refine LeO.ite ?_ ?_
      | refine LeO.bind ?_ (fun _ => ?_)
    · intro y0 y1 y2 y3 y4 y5 y6 y7 y8 y9 y10 y11 y12 y13 y14 y15
      unfold drydockref17_Clear.l1
      repeat' first
      | (with_reducible exact ih0 _ _ _ _ _ _ _ _ _ _ _ _ _ _)
      | (with_reducible exact ih1 _ _ _ _ _ _ _ _ _ _ _ _ _ _ _ _)
      | (with_reducible exact drydockref17_Ready.mono _ _ _ _ _ _ _)
      | (with_reducible exact LeO.refl _)
      | (with_reducible exact LeO.none _)
      | (with_reducible refine LeO.ite ?_ ?_)
      | (with_reducible refine LeO.bind ?_ (fun _ => ?_))
      | exact ih0 _ _ _ _ _ _ _ _ _ _ _ _ _ _
      | exact ih1 _ _ _ _ _ _ _ _ _ _ _ _ _ _ _ _
      | exact drydockref17_Ready.mono _ _ _ _ _ _ _
      | exact LeO.none _
      | refine LeO.ite ?_ ?_
      | refine LeO.bind ?_ (fun _ => ?_)
theorem drydockref17_Clear.mono : ∀ a0 a1 a2 a3 a4 a5 k, LeO (drydockref17_Clear.f k a0 a1 a2 a3 a4 a5) (drydockref17_Clear.f (k + 1) a0 a1 a2 a3 a4 a5) := by
 intro a0 a1 a2 a3 a4 a5 k
 obtain ⟨ih0, ih1⟩ := drydockref17_Clear.mono_l k
 unfold drydockref17_Clear.f
 repeat' first
  | (with_reducible exact ih0 _ _ _ _ _ _ _ _ _ _ _ _ _ _)
  | (with_reducible exact ih1 _ _ _ _ _ _ _ _ _ _ _ _ _ _ _ _)
  | (with_reducible exact drydockref17_Ready.mono _ _ _ _ _ _ _)
  | (with_reducible exact LeO.refl _)
  | (with_reducible exact LeO.none _)
  | (with_reducible refine LeO.ite ?_ ?_)
  | (with_reducible refine LeO.bind ?_ (fun _ => ?_))
  | exact ih0 _ _ _ _ _ _ _ _ _ _ _ _ _ _
  | exact ih1 _ _ _ _ _ _ _ _ _ _ _ _ _ _ _ _
  | exact drydockref17_Ready.mono _ _ _ _ _ _ _
  | exact LeO.none _
  | refine LeO.ite ?_ ?_
  | refine LeO.bind ?_ (fun _ => ?_)
def drydockref17_Clear.T11 : Bool × List (List Nat × List Nat) := (true, [([], []), ([0], [0]), ([1], [1]), ([1], [1]), ([2, 3, 1], [1, 2, 3]), ([4, 1], [1, 4]), ([1], [1]), ([6, 1], [1, 6]), ([1], [1]), ([7, 8, 1], [1, 7, 8]), ([9, 1], [1, 9]), ([10, 1], [1, 10]), ([5, 11, 1], [1, 5, 11]), ([1, 12], [1, 12]), ([13, 1, 0, 1, 2, 3, 4, 5, 6, 7, 8, 9, 10, 11, 12, 13], [0, 13])])
def drydockref17_Clear.B11 : List Nat := [0, 1, 3, 3, 15, 31, 3, 67, 3, 451, 963, 1987, 4095, 8191, 16383]
theorem drydockref17_Clear.tab11 : rtab .any (opsOf Try.f19 11) = drydockref17_Clear.T11 := by kernel_rfl
theorem drydockref17_Clear.bits11 : waitsOk drydockref17_Clear.T11.2 drydockref17_Clear.B11 = true := by kernel_rfl
def drydockref17_Clear.T13 : Bool × List (List Nat × List Nat) := (true, [([], []), ([0], [0]), ([], []), ([2], [2]), ([], []), ([3, 4], [3, 4]), ([5], [5]), ([6], [6]), ([1, 7], [1, 7]), ([0, 1, 2, 3, 4, 5, 6, 7, 8], []), ([9, 8, 8, 0, 1, 2, 3, 4, 5, 6, 7, 8], [8, 9])])
def drydockref17_Clear.B13 : List Nat := [0, 1, 0, 4, 0, 28, 60, 124, 255, 511, 1023]
theorem drydockref17_Clear.tab13 : rtab .any (opsOf Try.f19 13) = drydockref17_Clear.T13 := by kernel_rfl
theorem drydockref17_Clear.bits13 : waitsOk drydockref17_Clear.T13.2 drydockref17_Clear.B13 = true := by kernel_rfl
set_option maxHeartbeats 8000000 in
set_option maxRecDepth 100000 in
theorem drydockref17_Clear.calls (k : Nat) (a0_0 : Int) (a0_1 : Int) (a0_2 : Int) (a0_3 : Int) (a0_4 : Int) (A0_5 : Option Addr) (c0_5 : Nat) (l0_5 : List (S43)) (r1 : Int) (r2 : Int) (r3 : Int) (r4 : Int) (r5 : Int) (r6 : List (S43)) (r7 : List Int) (w : World) (hr0_5 : Kd.C k43 w A0_5 l0_5.length l0_5) (hc0_5 : l0_5.length ≤ c0_5) (h : drydockref17_Clear.f k a0_0 a0_1 a0_2 a0_3 a0_4 l0_5 = some (r1, r2, r3, r4, r5, r6, r7)) :
    Calls Try.prog 19 #[.agg #[.int .i64 a0_0, .int .i64 a0_1, .int .i64 a0_2, .int .i64 a0_3, .int .i64 a0_4, .slice A0_5 l0_5.length c0_5]] w fun e w' => ∃ v5_ v6_ : Value, e = .returned (.tuple #[.agg #[.int .i64 r1, .int .i64 r2, .int .i64 r3, .int .i64 r4, .int .i64 r5, v5_], v6_]) ∧ Kd.R k43 43 w' w.heap.size (fun _ => True) v5_ r6 ∧ Kd.R (Kd.int .i64) 3 w' w.heap.size (fun _ => True) v6_ r7 ∧ Below w.heap.size w w' := by
 have hu25 := Try.underlying25
 have hu43 := Try.underlying43
 have HR0_5 := Aside0.mk hr0_5
 have HC0_5 := Aside0.mk hc0_5
 clear hr0_5 hc0_5
 have HB := Aside0.mk (Below.refl w.heap.size w)
 have H : ((drydockref17_Ready.f k a0_0 a0_1 a0_2 a0_3 a0_4 l0_5).bind fun t308 => ((drydockref17_Own.f a0_0 a0_1 a0_2 a0_3 a0_4 l0_5).bind fun bt311 => (drydockref17_Clear.l0 k t308 0 a0_0 a0_1 a0_2 a0_3 a0_4 l0_5 bt311.1 bt311.2.1 bt311.2.2.1 bt311.2.2.2.1 bt311.2.2.2.2.1 ([] : List (S43))))) = some (r1, r2, r3, r4, r5, r6, r7) := h
 clear h
 replace H := Option.bind_eq_some_iff.mp H
 obtain ⟨t308, A20, H⟩ := H
 replace H : ((drydockref17_Own.f a0_0 a0_1 a0_2 a0_3 a0_4 l0_5).bind fun bt311 => (drydockref17_Clear.l0 k t308 0 a0_0 a0_1 a0_2 a0_3 a0_4 l0_5 bt311.1 bt311.2.1 bt311.2.2.1 bt311.2.2.2.1 bt311.2.2.2.2.1 ([] : List (S43)))) = some (r1, r2, r3, r4, r5, r6, r7) := H
 have A2 := Aside0.mk A20
 clear A20
 replace H := Option.bind_eq_some_iff.mp H
 obtain ⟨⟨t311, t312, t313, t314, t315, t316⟩, A30, H⟩ := H
 replace H : (drydockref17_Clear.l0 k t308 0 a0_0 a0_1 a0_2 a0_3 a0_4 l0_5 t311 t312 t313 t314 t315 ([] : List (S43))) = some (r1, r2, r3, r4, r5, r6, r7) := H
 have A3 := Aside0.mk A30
 clear A30
 have H' := Aside0.mk H
 clear H
 go_enter Try.func19, Try.ntmps19
 go_wp2_with (first | ((with_reducible refine gate_dst (N := 1) rfl ?_); refine box_event ?hg (N := 1) ?hd (cs := #[.int .i64 a0_0, .int .i64 a0_1, .int .i64 a0_2, .int .i64 a0_3, .int .i64 a0_4, .slice A0_5 l0_5.length c0_5]) (t := 25) ?hr ?_; (case hd => rfl); (case hg => rfl); (case hr => first | (go_simp; done) | (go_simp; rfl)); intro gb306 hg w4 hbox hb; have n0_ := Aside0.mk (below_step bs_ hb); have n1_ := Aside0.mk (hbox); have n2_ := Aside0.mk ((by rw [hg]; exact (below_size bs_) : w.heap.size ≤ gb306)); have n3_ := Aside0.mk ((by rw [hg]; exact (below_size bs_) : w.heap.size ≤ gb306)); clear HB; have HB := n0_; have BK306 := n1_; have GW306 := n2_; have GE306 := n3_; clear n0_ n1_ n2_ n3_; clear hb hbox hg) | ((with_reducible refine gate_dst (N := 2) rfl ?_); refine box_event ?hg (N := 2) ?hd (cs := #[.int .i64 0, .int .i64 0, .int .i64 0, .int .i64 0, .int .i64 0, .slice none 0 0]) (t := 25) ?hr ?_; (case hd => rfl); (case hg => rfl); (case hr => first | (go_simp; done) | (go_simp; rfl)); intro gb307 hg w5 hbox hb; have n0_ := Aside0.mk (blk_below (bk_ BK306) hb); have n1_ := Aside0.mk (below_step bs_ hb); have n2_ := Aside0.mk (hbox); have n3_ := Aside0.mk ((by rw [hg]; exact (below_size bs_) : w.heap.size ≤ gb307)); have n4_ := Aside0.mk ((by rw [hg]; exact (below_size bs_) : w.heap.size ≤ gb307)); have n5_ := Aside0.mk ((by rw [hg]; exact Nat.ne_of_lt (blk_lt (bk_ BK306)) : gb306 ≠ gb307)); have n6_ := Aside0.mk ((by rw [hg]; exact Nat.ne_of_gt (blk_lt (bk_ BK306)) : gb307 ≠ gb306)); clear BK306 HB; have BK306 := n0_; have HB := n1_; have BK307 := n2_; have GW307 := n3_; have GE307 := n4_; have NB306_307 := n5_; have NB307_306 := n6_; clear n0_ n1_ n2_ n3_ n4_ n5_ n6_; clear hb hbox hg; have hnb6 := NB306_307.out; have hnc6 := NB307_306.out; obtain ⟨hcz7_0, hcz7_1, hcz7_2, hcz7_3, hcz7_4, hcz7_5, hfz7_0, hfz7_1, hfz7_2, hfz7_3, hfz7_4, hfz7_5⟩ := blk6 BK306) | ((with_reducible refine gate_callee (f := 22) rfl ?_); refine goesL_ (some 10) rfl rfl Try.func22 (by kernel_rfl) rfl #[.agg #[.int .i64 a0_0, .int .i64 a0_1, .int .i64 a0_2, .int .i64 a0_3, .int .i64 a0_4, .slice A0_5 l0_5.length c0_5]] rfl (by (try simp only [List.map_toArray, List.map_cons, List.map_nil]); first | done | rfl | (simp only [List.length_drop, List.length_take]; rfl)) ?_; (with_reducible refine (drydockref17_Ready.calls k a0_0 a0_1 a0_2 a0_3 a0_4 _ _ l0_5 t308 _ ?side1 ?side2 A2.out).mono ?_); (case side1 => repeat (first | exact (Kd.C_below HR0_5.out HB.out) | (with_reducible refine Kd.C_alloc ?_ _) | (with_reducible refine Kd.C_drewN ?_ _) | (with_reducible refine Kd.C_drew ?_))); (case side2 => exact HC0_5.out); rintro e w8 ⟨v309, rfl, ho0, hb⟩; refine ⟨_, rfl, ?_⟩; have n0_ := Aside0.mk (Kd.R_lower ho0 (below_size bs_)); have n1_ := Aside0.mk (blk_below (bk_ BK306) hb); have n2_ := Aside0.mk (blk_below (bk_ BK307) hb); have n3_ := Aside0.mk (below_step bs_ hb); clear BK306 BK307 HB; have HO310 := n0_; have BK306 := n1_; have BK307 := n2_; have HB := n3_; clear n0_ n1_ n2_ n3_; (try clear hb); (try clear hb2); (try clear hk); (try clear hi); (try clear ho0); obtain ⟨Ao9, co9, eo9⟩ := Kd.R_slice HO310.out; subst eo9; obtain ⟨hcz10_0, hcz10_1, hcz10_2, hcz10_3, hcz10_4, hcz10_5, hfz10_0, hfz10_1, hfz10_2, hfz10_3, hfz10_4, hfz10_5⟩ := blk6 BK306) | ((with_reducible refine gate_callee (f := 10) rfl ?_); refine goesL_ (some 12) rfl rfl Try.func10 (by kernel_rfl) rfl #[.agg #[.int .i64 a0_0, .int .i64 a0_1, .int .i64 a0_2, .int .i64 a0_3, .int .i64 a0_4, .slice A0_5 l0_5.length c0_5]] rfl (by (try simp only [List.map_toArray, List.map_cons, List.map_nil]); first | done | rfl | (simp only [List.length_drop, List.length_take]; rfl)) ?_; (with_reducible refine (drydockref17_Own.calls a0_0 a0_1 a0_2 a0_3 a0_4 _ _ l0_5 t311 t312 t313 t314 t315 t316 _ ?side1 ?side2 A3.out).mono ?_); (case side1 => repeat (first | exact (Kd.C_below HR0_5.out HB.out) | (with_reducible refine Kd.C_alloc ?_ _) | (with_reducible refine Kd.C_drewN ?_ _) | (with_reducible refine Kd.C_drew ?_))); (case side2 => exact HC0_5.out); rintro e w11 ⟨v317, rfl, ho0, hb⟩; refine ⟨_, rfl, ?_⟩; have n0_ := Aside0.mk (Kd.R_below (rk_ HO310) hb); have n1_ := Aside0.mk (Kd.R_lower ho0 (below_size bs_)); have n2_ := Aside0.mk (blk_below (bk_ BK306) hb); have n3_ := Aside0.mk (blk_below (bk_ BK307) hb); have n4_ := Aside0.mk (below_step bs_ hb); clear HO310 BK306 BK307 HB; have HO310 := n0_; have HO318 := n1_; have BK306 := n2_; have BK307 := n3_; have HB := n4_; clear n0_ n1_ n2_ n3_ n4_; (try clear hb); (try clear hb2); (try clear hk); (try clear hi); (try clear ho0); obtain ⟨Ao12, co12, eo12⟩ := Kd.R_slice HO318.out; subst eo12) | ((with_reducible refine gate_dst (N := 5) rfl ?_); refine box_event ?hg (N := 5) ?hd (cs := #[.int .i64 0, .int .i64 0, .int .i64 0, .int .i64 0, .int .i64 0, .slice none 0 0]) (t := 25) ?hr ?_; (case hd => rfl); (case hg => rfl); (case hr => first | (go_simp; done) | (go_simp; rfl)); intro gb319 hg w13 hbox hb; have n0_ := Aside0.mk (Kd.R_below (rk_ HO310) hb); have n1_ := Aside0.mk (Kd.R_below (rk_ HO318) hb); have n2_ := Aside0.mk (blk_below (bk_ BK306) hb); have n3_ := Aside0.mk (blk_below (bk_ BK307) hb); have n4_ := Aside0.mk (below_step bs_ hb); have n5_ := Aside0.mk (hbox); have n6_ := Aside0.mk ((by rw [hg]; exact (below_size bs_) : w.heap.size ≤ gb319)); have n7_ := Aside0.mk ((by rw [hg]; exact (below_size bs_) : w.heap.size ≤ gb319)); have n8_ := Aside0.mk ((by rw [hg]; exact Nat.ne_of_lt (blk_lt (bk_ BK306)) : gb306 ≠ gb319)); have n9_ := Aside0.mk ((by rw [hg]; exact Nat.ne_of_gt (blk_lt (bk_ BK306)) : gb319 ≠ gb306)); have n10_ := Aside0.mk ((by rw [hg]; exact Nat.ne_of_lt (blk_lt (bk_ BK307)) : gb307 ≠ gb319)); have n11_ := Aside0.mk ((by rw [hg]; exact Nat.ne_of_gt (blk_lt (bk_ BK307)) : gb319 ≠ gb307)); clear HO310 HO318 BK306 BK307 HB; have HO310 := n0_; have HO318 := n1_; have BK306 := n2_; have BK307 := n3_; have HB := n4_; have BK319 := n5_; have GW319 := n6_; have GE319 := n7_; have NB306_319 := n8_; have NB319_306 := n9_; have NB307_319 := n10_; have NB319_307 := n11_; clear n0_ n1_ n2_ n3_ n4_ n5_ n6_ n7_ n8_ n9_ n10_ n11_; clear hb hbox hg; have hnb14 := NB319_306.out; have hnc14 := NB306_319.out; have hnb15 := NB319_307.out; have hnc15 := NB307_319.out; obtain ⟨hcz16_0, hcz16_1, hcz16_2, hcz16_3, hcz16_4, hcz16_5, hfz16_0, hfz16_1, hfz16_2, hfz16_3, hfz16_4, hfz16_5⟩ := blk6 BK319))
 go_loopg [6] k (fun kq v6 w' => ∃ (x6_1 : Int) (x320005_1 : List (S43)) (u320005 : Value), v6 = .int .i64 x6_1 ∧ Aside0 (drydockref17_Clear.l0 kq t308 x6_1 a0_0 a0_1 a0_2 a0_3 a0_4 l0_5 t311 t312 t313 t314 t315 x320005_1 = some (r1, r2, r3, r4, r5, r6, r7)) ∧ Aside0 (kq ≤ k) ∧ Aside0 (Kd.R (Kd.int .i64) 3 w' w.heap.size (fun _ => True) (.slice Ao9 t308.length co9) t308) ∧ Aside0 (Kd.R k43 43 w' w.heap.size (fun _ => True) u320005 x320005_1) ∧ Aside0 (w'.heap[gb306]? = some (.cells #[.int .i64 a0_0, .int .i64 a0_1, .int .i64 a0_2, .int .i64 a0_3, .int .i64 a0_4, (.slice A0_5 l0_5.length c0_5)] 25 (0, 0))) ∧ Aside0 (w'.heap[gb307]? = some (.cells #[.int .i64 0, .int .i64 0, .int .i64 0, .int .i64 0, .int .i64 0, (.slice none 0 0)] 25 (0, 0))) ∧ Aside0 (w'.heap[gb319]? = some (.cells #[.int .i64 t311, .int .i64 t312, .int .i64 t313, .int .i64 t314, .int .i64 t315, u320005] 25 (0, 0))) ∧ Aside0 (Below w.heap.size w w'))
 case atStart => exact ⟨(0), (([] : List (S43))), (.slice none 0 0), eq_, H', ⟨Nat.le_refl _⟩, ⟨by (with_reducible repeat (first | apply Kd.R_alloc | apply Kd.R_drewN | apply Kd.R_drew)); exact Kd.R_mono (Kd.R_far (p := ⟨gb319, 5, none⟩) (far6 gb319 (Kd.R_types HO310.out BK319.out (by decide)) (fun _ hk => hk.2)) (fun _ hk => hk.2) (.slice none 0 0)) (fun _ hk => trivial)⟩, ⟨by first | exact Kd.R_nil _ _ _ _ _ | exact Kd.N_nil _ _ _ _ _ | exact Kd.V_nil _ _ _ _ _ | exact Kd.Q_nil _ _ _ _ _ | exact Kd.S_nil _ _ _ _ _⟩, ⟨bf_ BK306⟩, ⟨bf_ BK307⟩, ⟨bp_ BK319⟩, ⟨bs_⟩⟩
 case round =>
  clear H'
  obtain ⟨x6_1, x320005_1, u320005, rfl, HA, HK1, HO_4, HO_320005, BK306, BK307, BK319, HB⟩ := hrel
  cases gk with
  | zero => exact absurd HA.out (by simp [drydockref17_Clear.l0])
  | succ k1 =>
   have H := HA.out
   clear HA
   simp only [drydockref17_Clear.l0] at H
   by_cases c17 : x6_1 < (l0_5.length : Int)
   ·rw [if_pos c17] at H
    have c17b0 : decide (x6_1 < (l0_5.length : Int)) = true := decide_eq_true c17
    clear c17
    have H' := Aside0.mk H
    clear H
    have hnb18 := NB306_307.out
    have hnc18 := NB307_306.out
    have hnb19 := NB306_319.out
    have hnc19 := NB319_306.out
    obtain ⟨hcz20_0, hcz20_1, hcz20_2, hcz20_3, hcz20_4, hcz20_5, hfz20_0, hfz20_1, hfz20_2, hfz20_3, hfz20_4, hfz20_5⟩ := blk6 BK306
    go_wp2
    go_loopg [7, 8] k1 (fun kq v7 v8 w' => ∃ (x7_2 : Bool) (x8_2 : Int), v7 = .bool x7_2 ∧ v8 = .int .i64 x8_2 ∧ Aside0 (drydockref17_Clear.l1 kq t308 x6_1 x7_2 x8_2 a0_0 a0_1 a0_2 a0_3 a0_4 l0_5 t311 t312 t313 t314 t315 x320005_1 = some (r1, r2, r3, r4, r5, r6, r7)) ∧ Aside0 (kq ≤ k1) ∧ Aside0 (Kd.R (Kd.int .i64) 3 w' w.heap.size (fun _ => True) (.slice Ao9 t308.length co9) t308) ∧ Aside0 (Kd.R k43 43 w' w.heap.size (fun _ => True) u320005 x320005_1) ∧ Aside0 (w'.heap[gb306]? = some (.cells #[.int .i64 a0_0, .int .i64 a0_1, .int .i64 a0_2, .int .i64 a0_3, .int .i64 a0_4, (.slice A0_5 l0_5.length c0_5)] 25 (0, 0))) ∧ Aside0 (w'.heap[gb307]? = some (.cells #[.int .i64 0, .int .i64 0, .int .i64 0, .int .i64 0, .int .i64 0, (.slice none 0 0)] 25 (0, 0))) ∧ Aside0 (w'.heap[gb319]? = some (.cells #[.int .i64 t311, .int .i64 t312, .int .i64 t313, .int .i64 t314, .int .i64 t315, u320005] 25 (0, 0))) ∧ Aside0 (Below w.heap.size w w'))
    case atStart => exact ⟨(false), (0), eq_, eq_, H', ⟨Nat.le_refl _⟩, ⟨by (with_reducible repeat (first | apply Kd.R_alloc | apply Kd.R_drewN | apply Kd.R_drew)); exact HO_4.out⟩, ⟨by (with_reducible repeat (first | apply Kd.R_alloc | apply Kd.R_drewN | apply Kd.R_drew)); exact HO_320005.out⟩, ⟨bk_ BK306⟩, ⟨bk_ BK307⟩, ⟨bk_ BK319⟩, ⟨bs_⟩⟩
    case round =>
     clear H'
     try clear c17
     obtain ⟨x7_2, x8_2, rfl, rfl, HA, HK2, HO_4, HO_320005, BK306, BK307, BK319, HB⟩ := hrel
     cases gk with
     | zero => exact absurd HA.out (by simp [drydockref17_Clear.l1])
     | succ k2 =>
      have H := HA.out
      clear HA
      simp only [drydockref17_Clear.l1] at H
      by_cases c21 : x8_2 < (t308.length : Int)
      ·rw [if_pos c21] at H
       have c21b0 : decide (x8_2 < (t308.length : Int)) = true := decide_eq_true c21
       clear c21
       by_cases c22 : x7_2 = true
       ·subst c22
        have H1 : (drydockref17_Clear.l1 k2 t308 x6_1 true (wrap64 (x8_2 + 1)) a0_0 a0_1 a0_2 a0_3 a0_4 l0_5 t311 t312 t313 t314 t315 x320005_1) = some (r1, r2, r3, r4, r5, r6, r7) := by rw [if_pos rfl] at H; exact H
        clear H
        have H := H1
        clear H1
        have H' := Aside0.mk H
        clear H
        try go_wp2
        have n0_ := Aside0.mk (Kd.R_drew HO_4.out)
        have n1_ := Aside0.mk (Kd.R_drew HO_320005.out)
        have n2_ := Aside0.mk (blk_drew BK306.out)
        have n3_ := Aside0.mk (blk_drew BK307.out)
        have n4_ := Aside0.mk (blk_drew BK319.out)
        have n5_ := Aside0.mk (below_drew1 HB.out)
        clear HO_4
        clear HO_320005
        clear BK306
        clear BK307
        clear BK319
        clear HB
        have HO_4 := n0_
        have HO_320005 := n1_
        have BK306 := n2_
        have BK307 := n3_
        have BK319 := n4_
        have HB := n5_
        clear n0_ n1_ n2_ n3_ n4_ n5_
        refine start_ (n := 15) (S := fun w' => True) (ds := []) #[false, false, false, false, false, false, false, false, false, false, false, false, false, false, false] (by kernel_rfl) rfl rfl trivial (fun hHeld => ?_); refine with_tabW drydockref17_Clear.tab11 drydockref17_Clear.bits11 (fun HT_ HW_ => ?_)
        generalize wr.drew = w23 at HO_4 HO_320005 BK306 BK307 BK319 HB hHeld ⊢
        refine pv_ 0 (some 27) HT_ (h := ?_)
        refine pv_ 1 (some 28) HT_ (h := ?_)
        refine pu_ 2 (some 29) HT_ (h := ?_)
        refine pu_ 3 (some 30) HT_ (h := ?_)
        refine pu_ 4 (some 31) HT_ (h := ?_)
        refine pu_ 5 (some 32) HT_ (h := ?_)
        refine pu_ 6 (some 33) HT_ (h := ?_)
        refine pu_ 7 (some 34) HT_ (h := ?_)
        refine pu_ 8 (some 35) HT_ (h := ?_)
        refine pu_ 9 (some 36) HT_ (h := ?_)
        refine pu_ 10 (some 37) HT_ (h := ?_)
        refine pu_ 11 (some 38) HT_ (h := ?_)
        refine pu_ 12 (some 39) HT_ (h := ?_)
        refine pv_ 13 (some 40) HT_ (h := ?_)
        refine pv_ 14 (some 7) HT_ (h := ?_)
        refine done_ (done_of HT_.out (by kernel_rfl)) ?_
        try go_wp2
        go_roundg k2
        case measure => have := HK1.out; have := HK2.out; omega
        case rel => exact ⟨(true), (wrap64 (x8_2 + 1)), eq_, eq_, H', ⟨by have := HK1.out; have := HK2.out; omega⟩, ⟨by (with_reducible repeat (first | apply Kd.R_alloc | apply Kd.R_drewN | apply Kd.R_drew)); exact HO_4.out⟩, ⟨by (with_reducible repeat (first | apply Kd.R_alloc | apply Kd.R_drewN | apply Kd.R_drew)); exact HO_320005.out⟩, ⟨bk_ BK306⟩, ⟨bk_ BK307⟩, ⟨bk_ BK319⟩, ⟨bs_⟩⟩
       ·replace c22 := Bool.eq_false_iff.mpr c22
        subst c22
        have H1 : (if 0 ≤ x8_2 then (if 0 ≤ x6_1 then (if x6_1 < (l0_5.length : Int) then (drydockref17_Clear.l1 k2 t308 x6_1 ((rd t308 x8_2) == ((rd_T43 l0_5 x6_1).f0)) (wrap64 (x8_2 + 1)) a0_0 a0_1 a0_2 a0_3 a0_4 l0_5 t311 t312 t313 t314 t315 x320005_1) else (none)) else (none)) else (none)) = some (r1, r2, r3, r4, r5, r6, r7) := by rw [if_neg (show ¬ (false = true) by decide)] at H; exact H
        clear H
        have H := H1
        clear H1
        by_cases c24 : 0 ≤ x8_2
        ·rw [if_pos c24] at H
         have c24b0 : decide (0 ≤ x8_2) = true := decide_eq_true c24
         clear c24
         by_cases c25 : 0 ≤ x6_1
         ·rw [if_pos c25] at H
          have c25b0 : decide (0 ≤ x6_1) = true := decide_eq_true c25
          clear c25
          by_cases c26 : x6_1 < (l0_5.length : Int)
          ·rw [if_pos c26] at H
           have c26b0 : decide (x6_1 < (l0_5.length : Int)) = true := decide_eq_true c26
           clear c26
           have H' := Aside0.mk H
           clear H
           try go_wp2
           have n0_ := Aside0.mk (Kd.R_drew HO_4.out)
           have n1_ := Aside0.mk (Kd.R_drew HO_320005.out)
           have n2_ := Aside0.mk (blk_drew BK306.out)
           have n3_ := Aside0.mk (blk_drew BK307.out)
           have n4_ := Aside0.mk (blk_drew BK319.out)
           have n5_ := Aside0.mk (below_drew1 HB.out)
           clear HO_4
           clear HO_320005
           clear BK306
           clear BK307
           clear BK319
           clear HB
           have HO_4 := n0_
           have HO_320005 := n1_
           have BK306 := n2_
           have BK307 := n3_
           have BK319 := n4_
           have HB := n5_
           clear n0_ n1_ n2_ n3_ n4_ n5_
           have p320 : 0 ≤ (x8_2 : Int) := of_decide_eq_true (by first | (with_reducible assumption) | assumption)
           have q320 : x8_2 < (t308.length : Int) := of_decide_eq_true (by first | (with_reducible assumption) | assumption)
           obtain ⟨ad320, e320, hx320_0⟩ := Kd.at_int (Kd.R_reads' HO_4.out).2.2 x8_2 p320 q320
           cases e320
           replace p320 := eq_true p320
           replace q320 := eq_true q320
           have p321 : 0 ≤ (x6_1 : Int) := of_decide_eq_true (by first | (with_reducible assumption) | assumption)
           have q321 : x6_1 < (l0_5.length : Int) := of_decide_eq_true (by first | (with_reducible assumption) | assumption)
           obtain ⟨ad321, e321, hx321_0, hx321_1⟩ := at_T43 HR0_5.out x6_1 p321 q321
           have hw321_1 := hx321_1
           have hw321_0 := hx321_0
           cases e321
           replace hx321_0 := (HB.out.cell (World.block_lt_of_cell? w _ hx321_0)).trans hx321_0
           replace hx321_1 := (HB.out.cell (World.block_lt_of_cell? w _ hx321_1)).trans hx321_1
           replace p321 := eq_true p321
           replace q321 := eq_true q321
           refine start_ (n := 15) (S := fun w' => w'.cell? ⟨gb306, 0, none⟩ = some (.int .i64 a0_0) ∧ w'.cell? ⟨gb306, 1, none⟩ = some (.int .i64 a0_1) ∧ w'.cell? ⟨gb306, 2, none⟩ = some (.int .i64 a0_2) ∧ w'.cell? ⟨gb306, 3, none⟩ = some (.int .i64 a0_3) ∧ w'.cell? ⟨gb306, 4, none⟩ = some (.int .i64 a0_4) ∧ w'.cell? ⟨gb306, 5, none⟩ = some (.slice (some ad321) l0_5.length c0_5) ∧ w'.cell? (ad320.add (x8_2).toNat) = some (.int .i64 (rd t308 x8_2)) ∧ w'.cell? (ad321.add ((x6_1).toNat * 2)) = some (.int .i64 ((rd_T43 l0_5 x6_1).f0)) ∧ w'.cell? ⟨(ad321.add ((x6_1).toNat * 2)).block, (ad321.add ((x6_1).toNat * 2)).off + 1, none⟩ = some (.int .i64 ((rd_T43 l0_5 x6_1).f1))) (ds := []) #[false, false, false, false, false, false, false, false, false, false, false, false, false, false, false] (by kernel_rfl) rfl rfl ⟨(blk_cell BK306.out 0).trans rfl, (blk_cell BK306.out 1).trans rfl, (blk_cell BK306.out 2).trans rfl, (blk_cell BK306.out 3).trans rfl, (blk_cell BK306.out 4).trans rfl, (blk_cell BK306.out 5).trans rfl, hx320_0, ((HB.out.cell (World.block_lt_of_cell? w _ hw321_0)).trans hw321_0), ((HB.out.cell (World.block_lt_of_cell? w _ hw321_1)).trans hw321_1)⟩ (fun hHeld => ?_); refine with_tabW drydockref17_Clear.tab11 drydockref17_Clear.bits11 (fun HT_ HW_ => ?_)
           generalize wr.drew = w27 at HO_4 HO_320005 BK306 BK307 BK319 HB hx320_0 hx321_0 hx321_1 hHeld ⊢
           refine pv_ 0 (some 27) HT_ (h := ?_)
           refine pv_ 1 (some 28) HT_ (h := ?_)
           refine pv_ 2 (some 29) HT_ (h := ?_)
           refine pv_ 3 (some 30) HT_ (h := ?_)
           refine pv_ 4 (some 31) HT_ (h := ?_)
           refine pv_ 6 (some 33) HT_ (h := ?_)
           refine pv_ 8 (some 35) HT_ (h := ?_)
           refine tk_ 5 (some 32) HT_ HW_ hHeld (h := ?_)
           refine tk_ 7 (some 34) HT_ HW_ hHeld (h := ?_)
           refine pv_ 9 (some 36) HT_ (h := ?_)
           refine pv_ 10 (some 37) HT_ (h := ?_)
           refine tk_ 11 (some 38) HT_ HW_ hHeld (h := ?_)
           refine pv_ 12 (some 39) HT_ (h := ?_)
           refine pv_ 13 (some 40) HT_ (h := ?_)
           refine pv_ 14 (some 7) HT_ (h := ?_)
           refine done_ (done_of HT_.out (by kernel_rfl)) ?_
           try go_wp2
           go_roundg k2
           case measure => have := HK1.out; have := HK2.out; omega
           case rel => exact ⟨(((rd t308 x8_2) == ((rd_T43 l0_5 x6_1).f0))), (wrap64 (x8_2 + 1)), eq_, eq_, H', ⟨by have := HK1.out; have := HK2.out; omega⟩, ⟨by (with_reducible repeat (first | apply Kd.R_alloc | apply Kd.R_drewN | apply Kd.R_drew)); exact HO_4.out⟩, ⟨by (with_reducible repeat (first | apply Kd.R_alloc | apply Kd.R_drewN | apply Kd.R_drew)); exact HO_320005.out⟩, ⟨bk_ BK306⟩, ⟨bk_ BK307⟩, ⟨bk_ BK319⟩, ⟨bs_⟩⟩
          ·rw [if_neg c26] at H
           exact absurd H (by simp)
         ·rw [if_neg c25] at H
          exact absurd H (by simp)
        ·rw [if_neg c24] at H
         exact absurd H (by simp)
      ·rw [if_neg c21] at H
       have c21b0 : decide (x8_2 < (t308.length : Int)) = false := decide_eq_false c21
       clear c21
       by_cases c28 : x7_2 = true
       ·subst c28
        have H1 : (drydockref17_Clear.l0 k2 t308 (wrap64 (x6_1 + 1)) a0_0 a0_1 a0_2 a0_3 a0_4 l0_5 t311 t312 t313 t314 t315 x320005_1) = some (r1, r2, r3, r4, r5, r6, r7) := by rw [if_pos rfl] at H; exact H
        clear H
        have H := H1
        clear H1
        have H' := Aside0.mk H
        clear H
        go_wp2
        go_roundg k2
        case measure => have := HK1.out; have := HK2.out; omega
        case rel => exact ⟨(wrap64 (x6_1 + 1)), (x320005_1), (u320005), eq_, H', ⟨by have := HK1.out; have := HK2.out; omega⟩, ⟨by (with_reducible repeat (first | apply Kd.R_alloc | apply Kd.R_drewN | apply Kd.R_drew)); exact HO_4.out⟩, ⟨by (with_reducible repeat (first | apply Kd.R_alloc | apply Kd.R_drewN | apply Kd.R_drew)); exact HO_320005.out⟩, ⟨bk_ BK306⟩, ⟨bk_ BK307⟩, ⟨bk_ BK319⟩, ⟨bs_⟩⟩
       ·replace c28 := Bool.eq_false_iff.mpr c28
        subst c28
        have H1 : (if 0 ≤ x6_1 then (if x6_1 < (l0_5.length : Int) then (if x320005_1.length < 8796093022208 then (drydockref17_Clear.l0 k2 t308 (wrap64 (x6_1 + 1)) a0_0 a0_1 a0_2 a0_3 a0_4 l0_5 t311 t312 t313 t314 t315 (x320005_1 ++ [(⟨(rd_T43 l0_5 x6_1).f0, (rd_T43 l0_5 x6_1).f1⟩ : S43)])) else (none)) else (none)) else (none)) = some (r1, r2, r3, r4, r5, r6, r7) := by rw [if_neg (show ¬ (false = true) by decide)] at H; exact H
        clear H
        have H := H1
        clear H1
        by_cases c29 : 0 ≤ x6_1
        ·rw [if_pos c29] at H
         have c29b0 : decide (0 ≤ x6_1) = true := decide_eq_true c29
         clear c29
         by_cases c30 : x6_1 < (l0_5.length : Int)
         ·rw [if_pos c30] at H
          have c30b0 : decide (x6_1 < (l0_5.length : Int)) = true := decide_eq_true c30
          clear c30
          by_cases c31 : x320005_1.length < 8796093022208
          ·rw [if_pos c31] at H
           have LMc31 := Aside0.mk c31
           clear c31
           obtain ⟨y323, hy323⟩ : ∃ y_ : List (S43), y_ = (x320005_1 ++ [(⟨(rd_T43 l0_5 x6_1).f0, (rd_T43 l0_5 x6_1).f1⟩ : S43)]) := ⟨_, rfl⟩
           replace H : (drydockref17_Clear.l0 k2 t308 (wrap64 (x6_1 + 1)) a0_0 a0_1 a0_2 a0_3 a0_4 l0_5 t311 t312 t313 t314 t315 y323) = some (r1, r2, r3, r4, r5, r6, r7) := by first | (rw [hy323]; with_reducible exact H) | (have H2_ := (Option.bind_some _ _).symm.trans H; rw [hy323]; with_reducible exact H2_) | (have H2_ := (Option.bind_some _ _).symm.trans H; with_reducible exact H2_) | with_reducible exact H | (rw [hy323]; exact H) | exact H
           have Ny323 := Aside0.mk hy323
           clear hy323
           have H' := Aside0.mk H
           clear H
           try go_wp2
           have n0_ := Aside0.mk (Kd.R_drew HO_4.out)
           have n1_ := Aside0.mk (Kd.R_drew HO_320005.out)
           have n2_ := Aside0.mk (blk_drew BK306.out)
           have n3_ := Aside0.mk (blk_drew BK307.out)
           have n4_ := Aside0.mk (blk_drew BK319.out)
           have n5_ := Aside0.mk (below_drew1 HB.out)
           clear HO_4
           clear HO_320005
           clear BK306
           clear BK307
           clear BK319
           clear HB
           have HO_4 := n0_
           have HO_320005 := n1_
           have BK306 := n2_
           have BK307 := n3_
           have BK319 := n4_
           have HB := n5_
           clear n0_ n1_ n2_ n3_ n4_ n5_
           have p322 : 0 ≤ (x6_1 : Int) := of_decide_eq_true (by first | (with_reducible assumption) | assumption)
           have q322 : x6_1 < (l0_5.length : Int) := of_decide_eq_true (by first | (with_reducible assumption) | assumption)
           obtain ⟨ad322, e322, hx322_0, hx322_1⟩ := at_T43 HR0_5.out x6_1 p322 q322
           have hw322_1 := hx322_1
           have hw322_0 := hx322_0
           cases e322
           replace hx322_0 := (HB.out.cell (World.block_lt_of_cell? w _ hx322_0)).trans hx322_0
           replace hx322_1 := (HB.out.cell (World.block_lt_of_cell? w _ hx322_1)).trans hx322_1
           replace p322 := eq_true p322
           replace q322 := eq_true q322
           refine start_ (n := 11) (S := fun w' => w'.cell? ⟨gb319, 0, none⟩ = some (.int .i64 t311) ∧ w'.cell? ⟨gb319, 1, none⟩ = some (.int .i64 t312) ∧ w'.cell? ⟨gb319, 2, none⟩ = some (.int .i64 t313) ∧ w'.cell? ⟨gb319, 3, none⟩ = some (.int .i64 t314) ∧ w'.cell? ⟨gb319, 4, none⟩ = some (.int .i64 t315) ∧ w'.cell? ⟨gb319, 5, none⟩ = some (u320005) ∧ w'.cell? ⟨gb306, 0, none⟩ = some (.int .i64 a0_0) ∧ w'.cell? ⟨gb306, 1, none⟩ = some (.int .i64 a0_1) ∧ w'.cell? ⟨gb306, 2, none⟩ = some (.int .i64 a0_2) ∧ w'.cell? ⟨gb306, 3, none⟩ = some (.int .i64 a0_3) ∧ w'.cell? ⟨gb306, 4, none⟩ = some (.int .i64 a0_4) ∧ w'.cell? ⟨gb306, 5, none⟩ = some (.slice (some ad322) l0_5.length c0_5) ∧ w'.cell? (ad322.add ((x6_1).toNat * 2)) = some (.int .i64 ((rd_T43 l0_5 x6_1).f0)) ∧ w'.cell? ⟨(ad322.add ((x6_1).toNat * 2)).block, (ad322.add ((x6_1).toNat * 2)).off + 1, none⟩ = some (.int .i64 ((rd_T43 l0_5 x6_1).f1))) (ds := [10]) #[false, false, false, false, false, false, false, false, false, false, false] (by kernel_rfl) rfl rfl ⟨(blk_cell BK319.out 0).trans rfl, (blk_cell BK319.out 1).trans rfl, (blk_cell BK319.out 2).trans rfl, (blk_cell BK319.out 3).trans rfl, (blk_cell BK319.out 4).trans rfl, (blk_cell BK319.out 5).trans rfl, (blk_cell BK306.out 0).trans rfl, (blk_cell BK306.out 1).trans rfl, (blk_cell BK306.out 2).trans rfl, (blk_cell BK306.out 3).trans rfl, (blk_cell BK306.out 4).trans rfl, (blk_cell BK306.out 5).trans rfl, ((HB.out.cell (World.block_lt_of_cell? w _ hw322_0)).trans hw322_0), ((HB.out.cell (World.block_lt_of_cell? w _ hw322_1)).trans hw322_1)⟩ (fun hHeld => ?_); refine with_tabW drydockref17_Clear.tab13 drydockref17_Clear.bits13 (fun HT_ HW_ => ?_)
           generalize wr.drew = w32 at HO_4 HO_320005 BK306 BK307 BK319 HB hx322_0 hx322_1 hHeld ⊢
           refine pv_ 0 (some 43) HT_ (h := ?_)
           refine pv_ 2 (some 45) HT_ (h := ?_)
           refine pv_ 4 (some 47) HT_ (h := ?_)
           refine tk_ 1 (some 44) HT_ HW_ hHeld (h := ?_)
           refine tk_ 3 (some 46) HT_ HW_ hHeld (h := ?_)
           refine pv_ 5 (some 48) HT_ (h := ?_)
           refine tk_ 6 (some 49) HT_ HW_ hHeld (h := ?_)
           refine one_ (i := 7) (N := some 50) #[true, true, true, true, true, true, true, true, false, false, false] rfl rfl (one_of HT_.out (by kernel_rfl)) (by decide) (fun K hK => ?_)
           refine value_ (w1 := ?_) (v := ?_) (by rfl) rfl ?_ ?_
           rotate_left 2
           ·go_simp
            constructor
            ·rfl
            ·rfl
           refine hK.out _ _ ⟨(blk_cell (blk_alloc BK319.out _) 0).trans rfl, (blk_cell (blk_alloc BK319.out _) 1).trans rfl, (blk_cell (blk_alloc BK319.out _) 2).trans rfl, (blk_cell (blk_alloc BK319.out _) 3).trans rfl, (blk_cell (blk_alloc BK319.out _) 4).trans rfl, (blk_cell (blk_alloc BK319.out _) 5).trans rfl, (blk_cell (blk_alloc BK306.out _) 0).trans rfl, (blk_cell (blk_alloc BK306.out _) 1).trans rfl, (blk_cell (blk_alloc BK306.out _) 2).trans rfl, (blk_cell (blk_alloc BK306.out _) 3).trans rfl, (blk_cell (blk_alloc BK306.out _) 4).trans rfl, (blk_cell (blk_alloc BK306.out _) 5).trans rfl, (World.cell?_alloc_lt _ _ _ (World.block_lt_of_cell? _ _ (((HB.out.cell (World.block_lt_of_cell? w _ hw322_0)).trans hw322_0)))).trans (((HB.out.cell (World.block_lt_of_cell? w _ hw322_0)).trans hw322_0)), (World.cell?_alloc_lt _ _ _ (World.block_lt_of_cell? _ _ (((HB.out.cell (World.block_lt_of_cell? w _ hw322_1)).trans hw322_1)))).trans (((HB.out.cell (World.block_lt_of_cell? w _ hw322_1)).trans hw322_1))⟩ (fun hHeld => ?_)
           clear hK K
           refine norm_ (a' := ?_) ?_ ?_
           rotate_left
           ·show Act.put _ (some 50) _ = _
            simp only [Act.put, List.setIfInBounds_toArray, List.set_cons_zero, List.set_cons_succ, i64_w, i32_w]
            rfl
           refine one_ (i := 8) (N := some 51) #[true, true, true, true, true, true, true, true, true, false, false] rfl rfl (one_of HT_.out (by kernel_rfl)) (by decide) (fun K hK => ?_)
           refine Kd.R_append_step k43 (w0 := w) w.heap.size (by rfl) (.tmp 44) (.tmp 50) 23 43 (.agg #[(.int .i64 0), (.int .i64 0)]) 16 rfl Try.underlying23 info43 rfl (by decide) (by omega) u320005 x320005_1 (⟨(rd_T43 l0_5 x6_1).f0, (rd_T43 l0_5 x6_1).f1⟩ : S43) [.int .i64 ((rd_T43 l0_5 x6_1).f0), .int .i64 ((rd_T43 l0_5 x6_1).f1)] (fun _ => True) (fun _ => False) rfl rfl ?aP (fun _ hk => hk.elim) ?aF ?aO ?aB ?aS ?aL ?_
           (case aP => exact k43_mkM _ _ _ (⟨(rd_T43 l0_5 x6_1).f0, (rd_T43 l0_5 x6_1).f1⟩ : S43))
           (case aB => exact bs_)
           (case aF => exact (fun _ _ => trivial))
           (case aO => exact (rk_ HO_320005))
           (case aS => exact (below_size bs_))
           (case aL => have := LMc31.out; omega)
           intro v324 w33 ho hb hg hat
           rw [← Ny323.out] at ho
           have n0_ := Aside0.mk (Kd.R_over' (rk_ HO_4) (Kd.R_typed (rk_ HO_320005)) (by decide) hg)
           have n1_ := Aside0.mk (blk_grown (g := gb306) (o := .cells #[.int .i64 a0_0, .int .i64 a0_1, .int .i64 a0_2, .int .i64 a0_3, .int .i64 a0_4, .slice (some ad322) l0_5.length c0_5] 25 (0, 0)) (by (with_reducible repeat (first | refine blk_drewN ?_ _ | refine blk_drew ?_ | refine blk_alloc ?_ _)); exact BK306.out) hg (Kd.R_ne HO_320005.out BK306.out (by decide)))
           have n2_ := Aside0.mk (blk_grown (g := gb307) (o := .cells #[.int .i64 0, .int .i64 0, .int .i64 0, .int .i64 0, .int .i64 0, .slice none 0 0] 25 (0, 0)) (by (with_reducible repeat (first | refine blk_drewN ?_ _ | refine blk_drew ?_ | refine blk_alloc ?_ _)); exact BK307.out) hg (Kd.R_ne HO_320005.out BK307.out (by decide)))
           have n3_ := Aside0.mk (blk_grown (g := gb319) (o := .cells #[.int .i64 t311, .int .i64 t312, .int .i64 t313, .int .i64 t314, .int .i64 t315, u320005] 25 (0, 0)) (by (with_reducible repeat (first | refine blk_drewN ?_ _ | refine blk_drew ?_ | refine blk_alloc ?_ _)); exact BK319.out) hg (Kd.R_ne HO_320005.out BK319.out (by decide)))
           have n4_ := Aside0.mk (hb)
           have n5_ := Aside0.mk (ho)
           clear HO_4
           clear BK306
           clear BK307
           clear BK319
           clear HB
           clear HO_320005
           have HO_4 := n0_
           have BK306 := n1_
           have BK307 := n2_
           have BK319 := n3_
           have HB := n4_
           have HO325 := n5_
           clear n0_ n1_ n2_ n3_ n4_ n5_
           clear ho hb hg hat
           obtain ⟨Ao34, co34, eo34⟩ := Kd.R_slice HO325.out
           (first | subst eo34 | (injection eo34 with f1_ f2_ f3_; have f4_ := f1_.symm; have f5_ := f3_.symm; clear f1_ f2_ f3_; subst f4_; subst f5_))
           refine hK.out _ _ ⟨(blk_cell BK319.out 0).trans rfl, (blk_cell BK319.out 1).trans rfl, (blk_cell BK319.out 2).trans rfl, (blk_cell BK319.out 3).trans rfl, (blk_cell BK319.out 4).trans rfl, (blk_cell BK319.out 5).trans rfl, (blk_cell BK306.out 0).trans rfl, (blk_cell BK306.out 1).trans rfl, (blk_cell BK306.out 2).trans rfl, (blk_cell BK306.out 3).trans rfl, (blk_cell BK306.out 4).trans rfl, (blk_cell BK306.out 5).trans rfl, ((HB.out.cell (World.block_lt_of_cell? w _ hw322_0)).trans hw322_0), ((HB.out.cell (World.block_lt_of_cell? w _ hw322_1)).trans hw322_1)⟩ (fun hHeld => ?_)
           clear hK K
           refine norm_ (a' := ?_) ?_ ?_
           rotate_left
           ·show Act.put _ (some 51) _ = _
            simp only [Act.put, List.setIfInBounds_toArray, List.set_cons_zero, List.set_cons_succ, i64_w, i32_w]
            rfl
           refine pv_ 9 (some 52) HT_ (h := ?_)
           refine last_ (i := 10) (N := none) #[true, true, true, true, true, true, true, true, true, true, true] rfl rfl (one_of HT_.out (by kernel_rfl)) (by decide) (fun K hK => ?_)
           have hs35 : w33.cell? ⟨gb319, 5, none⟩ = some (u320005) := (blk_cell BK319.out 5).trans rfl
           have hfs35 := blk_frozen BK319.out 5
           have hns35_0 := NB306_319.out
           have hns35_1 := NB307_319.out
           have hms35_0 := NB319_306.out
           have hms35_1 := NB319_307.out
           refine skip_ (w1 := ?_) (by rfl) rfl ?_ ?_
           rotate_left
           ·go_simp
            rfl
           refine hK.out _ _ ?_
           clear hK K
           refine done_ (done_of HT_.out (by kernel_rfl)) ?_
           try go_wp2
           go_roundg k2
           case measure => have := HK1.out; have := HK2.out; omega
           case rel => exact ⟨(wrap64 (x6_1 + 1)), (y323), (.slice Ao34 y323.length co34), eq_, H', ⟨by have := HK1.out; have := HK2.out; omega⟩, ⟨by (with_reducible repeat (first | apply Kd.R_alloc | apply Kd.R_drewN | apply Kd.R_drew)); exact Kd.R_mono (Kd.R_far (p := ⟨gb319, 5, none⟩) (Kd.R_types HO_4.out BK319.out (by decide)) (fun _ hk => hk.2) (.slice Ao34 y323.length co34)) (fun _ hk => trivial)⟩, ⟨by (with_reducible repeat (first | apply Kd.R_alloc | apply Kd.R_drewN | apply Kd.R_drew)); exact Kd.R_mono (Kd.R_far (p := ⟨gb319, 5, none⟩) (Kd.R_types HO325.out BK319.out (by decide)) (fun _ hk => hk.2) (.slice Ao34 y323.length co34)) (fun _ hk => trivial)⟩, ⟨bf_ BK306⟩, ⟨bf_ BK307⟩, ⟨bp_ BK319⟩, ⟨bs_⟩⟩
          ·rw [if_neg c31] at H
           exact absurd H (by simp)
         ·rw [if_neg c30] at H
          exact absurd H (by simp)
        ·rw [if_neg c29] at H
         exact absurd H (by simp)
   ·rw [if_neg c17] at H
    have c17b0 : decide (x6_1 < (l0_5.length : Int)) = false := decide_eq_false c17
    clear c17
    simp only [Option.some.injEq, Prod.mk.injEq] at H
    obtain ⟨rfl, rfl, rfl, rfl, rfl, rfl, rfl⟩ := H
    have hnb36 := NB306_307.out
    have hnc36 := NB307_306.out
    have hnb37 := NB306_319.out
    have hnc37 := NB319_306.out
    obtain ⟨hcz38_0, hcz38_1, hcz38_2, hcz38_3, hcz38_4, hcz38_5, hfz38_0, hfz38_1, hfz38_2, hfz38_3, hfz38_4, hfz38_5⟩ := blk6 BK306
    have hnb39 := NB319_307.out
    have hnc39 := NB307_319.out
    obtain ⟨hcz40_0, hcz40_1, hcz40_2, hcz40_3, hcz40_4, hcz40_5, hfz40_0, hfz40_1, hfz40_2, hfz40_3, hfz40_4, hfz40_5⟩ := blk6 BK319
    obtain ⟨hcz41_0, hcz41_1, hcz41_2, hcz41_3, hcz41_4, hcz41_5, hfz41_0, hfz41_1, hfz41_2, hfz41_3, hfz41_4, hfz41_5⟩ := blk6 BK307
    obtain ⟨Ao42, co42, eo42⟩ := Kd.R_slice HO_320005.out
    subst eo42
    go_wp2
    refine bodyPost_ret (results_ct rfl _ _ gb307 25 #[.int .i64 t311, .int .i64 t312, .int .i64 t313, .int .i64 t314, .int .i64 t315, .slice Ao42 x320005_1.length co42] (0, 0) _ rfl (bp_ BK307) Try.underlying25 rfl (by kernel_rfl)) rfl ?_
    exact ⟨_, _, by first | rfl | (simp [errW_none, errW_some] <;> rfl) | (simp [*, errW_none, errW_some] <;> rfl), by (with_reducible repeat (first | apply Kd.R_alloc | apply Kd.R_drewN | apply Kd.R_drew)); exact Kd.R_mono (far6 gb307 (Kd.R_types HO_320005.out BK307.out (by decide)) (fun _ hk => hk.2)) (fun _ hk => trivial), by (with_reducible repeat (first | apply Kd.R_alloc | apply Kd.R_drewN | apply Kd.R_drew)); exact Kd.R_mono (far6 gb307 (Kd.R_types HO_4.out BK307.out (by decide)) (fun _ hk => hk.2)) (fun _ hk => trivial), by repeat (first | (with_reducible first | exact HB.out | apply below_alloc | apply pw_below_drewN | apply below_drew1 | refine below_set ?_ GE306.out | refine below_set ?_ GE307.out | refine below_set ?_ GE319.out) | exact HB.out)⟩

end Go.Proofs.Ytipnfcicpnmggaa.P
