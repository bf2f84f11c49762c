-- Written by a program of this session over the kit's print of the translation. Lean checks it.
import Derived.Test.YtoehingbhmaidaaPx0
import Derived.Test.YtoehingbhmaidaaPx9
import Derived.Test.YtoehingbhmaidaaPx11
-- shorter
namespace Go.Proofs.Ytoehingbhmaidaa.P
open Go.RowKit Go.Proofs.YtoehingbhmaidaaW.PrintWords Go.Proofs.YtoehingbhmaidaaW.PrintLast Go.Proofs.YtoehingbhmaidaaW.PrintMore
attribute [local go_sem] max2_int min2_int max_two min_two max_three min_three max_four min_four   -- for this text's walks alone
set_option linter.unusedVariables false
set_option linter.unusedSimpArgs false

/-! ### drydockref16_Detach: function 16 -/
def drydockref16_Detach.l0 : Nat → Int → Int → Int → List (S26) → Int → List (S26) → Option (Int × (List (S26)) × Int)
  | 0, _, _, _, _, _, _ => none
  | k + 1, x1, x10, x206000, x206001, x210000, x210001 => if x10 < (x206001.length : Int) then (if 0 ≤ x10 then (if ((rd_T26 x206001 x10).f0) = x1 then (drydockref16_Detach.l0 k x1 (wrap64 (x10 + 1)) x206000 x206001 x210000 x210001) else (if x210001.length < 8796093022208 then (drydockref16_Detach.l0 k x1 (wrap64 (x10 + 1)) x206000 x206001 x210000 (x210001 ++ [(⟨(rd_T26 x206001 x10).f0, (rd_T26 x206001 x10).f1⟩ : S26)])) else (none))) else (none)) else (some (x210000, x210001, 0))
def drydockref16_Detach.f (k : Nat) (a0_0 : Int) (l0_1 : List (S26)) (a1 : Int) (a2 : Int) : Option (Int × (List (S26)) × Int) := (drydockref16_why.f k a0_0 l0_1 1 0 a2).bind fun t207 => (if t207 = 0 then ((drydockref16_find.f k a0_0 l0_1 a1).bind fun t208 => (if t208 < 0 then (some (0, ([] : List (S26)), 3)) else (drydockref16_Detach.l0 k a1 0 a0_0 l0_1 (wrap64 (a2 + 1)) ([] : List (S26))))) else (some (0, ([] : List (S26)), t207)))
theorem drydockref16_Detach.mono_l : ∀ k, (∀ y0 y1 y2 y3 y4 y5, LeO (drydockref16_Detach.l0 k y0 y1 y2 y3 y4 y5) (drydockref16_Detach.l0 (k + 1) y0 y1 y2 y3 y4 y5))
  | 0 => fun _ _ _ _ _ _ r h => by simp [drydockref16_Detach.l0] at h
  | k + 1 => by
    have ih0 := drydockref16_Detach.mono_l k
    · intro y0 y1 y2 y3 y4 y5
      unfold drydockref16_Detach.l0
      repeat' first
      | (with_reducible exact ih0 _ _ _ _ _ _)
      | (with_reducible exact drydockref16_find.mono _ _ _ _)
      | (with_reducible exact drydockref16_why.mono _ _ _ _ _ _)
      | (with_reducible exact LeO.refl _)
      | (with_reducible exact LeO.none _)
      | (with_reducible refine LeO.ite ?_ ?_)
      | (with_reducible refine LeO.bind ?_ (fun _ => ?_))
      | exact ih0 _ _ _ _ _ _
      | exact drydockref16_find.mono _ _ _ _
      | exact drydockref16_why.mono _ _ _ _ _ _
      | exact LeO.none _
      | refine LeO.ite ?_ ?_
      | refine LeO.bind ?_ (fun _ => ?_)
theorem drydockref16_Detach.mono : ∀ a0 a1 a2 a3 k, LeO (drydockref16_Detach.f k a0 a1 a2 a3) (drydockref16_Detach.f (k + 1) a0 a1 a2 a3) := by
 intro a0 a1 a2 a3 k
 have ih0 := drydockref16_Detach.mono_l k
 unfold drydockref16_Detach.f
 repeat' first
  | (with_reducible exact ih0 _ _ _ _ _ _)
  | (with_reducible exact drydockref16_find.mono _ _ _ _)
  | (with_reducible exact drydockref16_why.mono _ _ _ _ _ _)
  | (with_reducible exact LeO.refl _)
  | (with_reducible exact LeO.none _)
  | (with_reducible refine LeO.ite ?_ ?_)
  | (with_reducible refine LeO.bind ?_ (fun _ => ?_))
  | exact ih0 _ _ _ _ _ _
  | exact drydockref16_find.mono _ _ _ _
  | exact drydockref16_why.mono _ _ _ _ _ _
  | exact LeO.none _
  | refine LeO.ite ?_ ?_
  | refine LeO.bind ?_ (fun _ => ?_)
def drydockref16_Detach.T11 : Bool × List (List Nat × List Nat) := (true, [([], []), ([0], [0]), ([], []), ([2], [2]), ([], []), ([3, 4], [3, 4]), ([5], [5]), ([6], [6]), ([1, 7], [1, 7]), ([0, 1, 2, 3, 4, 5, 6, 7, 8], []), ([9, 8, 8, 0, 1, 2, 3, 4, 5, 6, 7, 8], [8, 9])])
def drydockref16_Detach.B11 : List Nat := [0, 1, 0, 4, 0, 28, 60, 124, 255, 511, 1023]
theorem drydockref16_Detach.tab11 : rtab .any (opsOf Try.f16 11) = drydockref16_Detach.T11 := by kernel_rfl
theorem drydockref16_Detach.bits11 : waitsOk drydockref16_Detach.T11.2 drydockref16_Detach.B11 = true := by kernel_rfl
set_option maxHeartbeats 8000000 in
set_option maxRecDepth 100000 in
theorem drydockref16_Detach.calls (k : Nat) (a0_0 : Int) (A0_1 : Option Addr) (c0_1 : Nat) (l0_1 : List (S26)) (a1 : Int) (a2 : Int) (r1 : Int) (r2 : List (S26)) (r3 : Int) (w : World) (hr0_1 : Kd.C k26 w A0_1 l0_1.length l0_1) (hc0_1 : l0_1.length ≤ c0_1) (h : drydockref16_Detach.f k a0_0 l0_1 a1 a2 = some (r1, r2, r3)) :
    Calls Try.prog 16 #[.agg #[.int .i64 a0_0, .slice A0_1 l0_1.length c0_1], .int .i64 a1, .int .i64 a2] w fun e w' => ∃ v1_ : Value, e = .returned (.tuple #[.agg #[.int .i64 r1, v1_], .int .i64 r3]) ∧ Kd.R k26 26 w' w.heap.size (fun _ => True) v1_ r2 ∧ Below w.heap.size w w' := by
 have hu24 := Try.underlying24
 have hu26 := Try.underlying26
 have HR0_1 := Aside0.mk hr0_1
 have HC0_1 := Aside0.mk hc0_1
 clear hr0_1 hc0_1
 have HB := Aside0.mk (Below.refl w.heap.size w)
 have H : ((drydockref16_why.f k a0_0 l0_1 1 0 a2).bind fun t207 => (if t207 = 0 then ((drydockref16_find.f k a0_0 l0_1 a1).bind fun t208 => (if t208 < 0 then (some (0, ([] : List (S26)), 3)) else (drydockref16_Detach.l0 k a1 0 a0_0 l0_1 (wrap64 (a2 + 1)) ([] : List (S26))))) else (some (0, ([] : List (S26)), t207)))) = some (r1, r2, r3) := h
 clear h
 replace H := Option.bind_eq_some_iff.mp H
 obtain ⟨t207, A40, H⟩ := H
 replace H : (if t207 = 0 then ((drydockref16_find.f k a0_0 l0_1 a1).bind fun t208 => (if t208 < 0 then (some (0, ([] : List (S26)), 3)) else (drydockref16_Detach.l0 k a1 0 a0_0 l0_1 (wrap64 (a2 + 1)) ([] : List (S26))))) else (some (0, ([] : List (S26)), t207))) = some (r1, r2, r3) := H
 have A4 := Aside0.mk A40
 clear A40
 by_cases c5 : t207 = 0
 ·rw [if_pos c5] at H
  have c5b0 : (t207 == 0) = true := beq_iff_eq.mpr c5
  have c5b1 : (t207 != 0) = false := bne_eq_false_iff_eq.mpr c5
  clear c5
  replace H := Option.bind_eq_some_iff.mp H
  obtain ⟨t208, A60, H⟩ := H
  replace H : (if t208 < 0 then (some (0, ([] : List (S26)), 3)) else (drydockref16_Detach.l0 k a1 0 a0_0 l0_1 (wrap64 (a2 + 1)) ([] : List (S26)))) = some (r1, r2, r3) := H
  have A6 := Aside0.mk A60
  clear A60
  by_cases c7 : t208 < 0
  ·rw [if_pos c7] at H
   have c7b0 : decide (t208 < 0) = true := decide_eq_true c7
   clear c7
   simp only [Option.some.injEq, Prod.mk.injEq] at H
   obtain ⟨rfl, rfl, rfl⟩ := H
   go_enter Try.func16, Try.ntmps16
   go_wp2_with (first | ((with_reducible refine gate_dst (N := 3) rfl ?_); refine box_event ?hg (N := 3) ?hd (cs := #[.int .i64 a0_0, .slice A0_1 l0_1.length c0_1]) (t := 24) ?hr ?_; (case hd => rfl); (case hg => rfl); (case hr => first | (go_simp; done) | (go_simp; rfl)); intro gb205 hg w8 hbox hb; have n0_ := Aside0.mk (below_step bs_ hb); have n1_ := Aside0.mk (hbox); have n2_ := Aside0.mk ((by rw [hg]; exact (below_size bs_) : w.heap.size ≤ gb205)); have n3_ := Aside0.mk ((by rw [hg]; exact (below_size bs_) : w.heap.size ≤ gb205)); clear HB; have HB := n0_; have BK205 := n1_; have GW205 := n2_; have GE205 := n3_; clear n0_ n1_ n2_ n3_; clear hb hbox hg) | ((with_reducible refine gate_dst (N := 6) rfl ?_); refine box_event ?hg (N := 6) ?hd (cs := #[.int .i64 0, .slice none 0 0]) (t := 24) ?hr ?_; (case hd => rfl); (case hg => rfl); (case hr => first | (go_simp; done) | (go_simp; rfl)); intro gb206 hg w9 hbox hb; have n0_ := Aside0.mk (blk_below (bk_ BK205) hb); have n1_ := Aside0.mk (below_step bs_ hb); have n2_ := Aside0.mk (hbox); have n3_ := Aside0.mk ((by rw [hg]; exact (below_size bs_) : w.heap.size ≤ gb206)); have n4_ := Aside0.mk ((by rw [hg]; exact (below_size bs_) : w.heap.size ≤ gb206)); have n5_ := Aside0.mk ((by rw [hg]; exact Nat.ne_of_lt (blk_lt (bk_ BK205)) : gb205 ≠ gb206)); have n6_ := Aside0.mk ((by rw [hg]; exact Nat.ne_of_gt (blk_lt (bk_ BK205)) : gb206 ≠ gb205)); clear BK205 HB; have BK205 := n0_; have HB := n1_; have BK206 := n2_; have GW206 := n3_; have GE206 := n4_; have NB205_206 := n5_; have NB206_205 := n6_; clear n0_ n1_ n2_ n3_ n4_ n5_ n6_; clear hb hbox hg; have hnb10 := NB205_206.out; have hnc10 := NB206_205.out; obtain ⟨hcz11_0, hcz11_1, hfz11_0, hfz11_1⟩ := blk2 BK205) | ((with_reducible refine gate_callee (f := 26) rfl ?_); refine goesL_ (some 14) rfl rfl Try.func26 (by kernel_rfl) rfl #[.agg #[.int .i64 a0_0, .slice A0_1 l0_1.length c0_1], .agg #[.int .i64 1, .int .i64 0], .int .i64 a2] rfl (by (try simp only [List.map_toArray, List.map_cons, List.map_nil]); first | done | rfl | (simp only [List.length_drop, List.length_take]; rfl)) ?_; (with_reducible refine (drydockref16_why.calls k a0_0 _ _ l0_1 1 0 a2 t207 _ ?side1 ?side2 A4.out).mono ?_); (case side1 => repeat (first | exact (Kd.C_below HR0_1.out HB.out) | (with_reducible refine Kd.C_alloc ?_ _) | (with_reducible refine Kd.C_drewN ?_ _) | (with_reducible refine Kd.C_drew ?_))); (case side2 => exact HC0_1.out); rintro e w12 ⟨rfl, hb⟩; refine ⟨_, rfl, ?_⟩; have n0_ := Aside0.mk (blk_below (bk_ BK205) hb); have n1_ := Aside0.mk (blk_below (bk_ BK206) hb); have n2_ := Aside0.mk (below_step bs_ hb); clear BK205 BK206 HB; have BK205 := n0_; have BK206 := n1_; have HB := n2_; clear n0_ n1_ n2_; (try clear hb); (try clear hb2); (try clear hk); (try clear hi); obtain ⟨hcz13_0, hcz13_1, hfz13_0, hfz13_1⟩ := blk2 BK205) | ((with_reducible refine gate_callee (f := 27) rfl ?_); refine goesL_ (some 21) rfl rfl Try.func27 (by kernel_rfl) rfl #[.agg #[.int .i64 a0_0, .slice A0_1 l0_1.length c0_1], .int .i64 a1] rfl (by (try simp only [List.map_toArray, List.map_cons, List.map_nil]); first | done | rfl | (simp only [List.length_drop, List.length_take]; rfl)) ?_; (with_reducible refine (drydockref16_find.calls k a0_0 _ _ l0_1 a1 t208 _ ?side1 ?side2 A6.out).mono ?_); (case side1 => repeat (first | exact (Kd.C_below HR0_1.out HB.out) | (with_reducible refine Kd.C_alloc ?_ _) | (with_reducible refine Kd.C_drewN ?_ _) | (with_reducible refine Kd.C_drew ?_))); (case side2 => exact HC0_1.out); rintro e w14 ⟨rfl, hb⟩; refine ⟨_, rfl, ?_⟩; have n0_ := Aside0.mk (blk_below (bk_ BK205) hb); have n1_ := Aside0.mk (blk_below (bk_ BK206) hb); have n2_ := Aside0.mk (below_step bs_ hb); clear BK205 BK206 HB; have BK205 := n0_; have BK206 := n1_; have HB := n2_; clear n0_ n1_ n2_; (try clear hb); (try clear hb2); (try clear hk); (try clear hi); obtain ⟨hcz15_0, hcz15_1, hfz15_0, hfz15_1⟩ := blk2 BK206))
   refine bodyPost_ret (results_ct rfl _ _ gb206 24 #[.int .i64 0, .slice none 0 0] (0, 0) _ rfl (bp_ BK206) Try.underlying24 rfl (by kernel_rfl)) rfl ?_
   exact ⟨_, by first | rfl | (simp [errW_none, errW_some] <;> rfl) | (simp [*, errW_none, errW_some] <;> rfl), by first | exact Kd.R_nil _ _ _ _ _ | exact Kd.N_nil _ _ _ _ _ | exact Kd.V_nil _ _ _ _ _ | exact Kd.Q_nil _ _ _ _ _ | exact Kd.S_nil _ _ _ _ _, by repeat (first | (with_reducible first | exact HB.out | apply below_alloc | apply pw_below_drewN | apply below_drew1 | refine below_set ?_ GE205.out | refine below_set ?_ GE206.out) | exact HB.out)⟩
  ·rw [if_neg c7] at H
   have c7b0 : decide (t208 < 0) = false := decide_eq_false c7
   clear c7
   have H' := Aside0.mk H
   clear H
   go_enter Try.func16, Try.ntmps16
   go_wp2_with (first | ((with_reducible refine gate_dst (N := 3) rfl ?_); refine box_event ?hg (N := 3) ?hd (cs := #[.int .i64 a0_0, .slice A0_1 l0_1.length c0_1]) (t := 24) ?hr ?_; (case hd => rfl); (case hg => rfl); (case hr => first | (go_simp; done) | (go_simp; rfl)); intro gb205 hg w16 hbox hb; have n0_ := Aside0.mk (below_step bs_ hb); have n1_ := Aside0.mk (hbox); have n2_ := Aside0.mk ((by rw [hg]; exact (below_size bs_) : w.heap.size ≤ gb205)); have n3_ := Aside0.mk ((by rw [hg]; exact (below_size bs_) : w.heap.size ≤ gb205)); clear HB; have HB := n0_; have BK205 := n1_; have GW205 := n2_; have GE205 := n3_; clear n0_ n1_ n2_ n3_; clear hb hbox hg) | ((with_reducible refine gate_dst (N := 6) rfl ?_); refine box_event ?hg (N := 6) ?hd (cs := #[.int .i64 0, .slice none 0 0]) (t := 24) ?hr ?_; (case hd => rfl); (case hg => rfl); (case hr => first | (go_simp; done) | (go_simp; rfl)); intro gb206 hg w17 hbox hb; have n0_ := Aside0.mk (blk_below (bk_ BK205) hb); have n1_ := Aside0.mk (below_step bs_ hb); have n2_ := Aside0.mk (hbox); have n3_ := Aside0.mk ((by rw [hg]; exact (below_size bs_) : w.heap.size ≤ gb206)); have n4_ := Aside0.mk ((by rw [hg]; exact (below_size bs_) : w.heap.size ≤ gb206)); have n5_ := Aside0.mk ((by rw [hg]; exact Nat.ne_of_lt (blk_lt (bk_ BK205)) : gb205 ≠ gb206)); have n6_ := Aside0.mk ((by rw [hg]; exact Nat.ne_of_gt (blk_lt (bk_ BK205)) : gb206 ≠ gb205)); clear BK205 HB; have BK205 := n0_; have HB := n1_; have BK206 := n2_; have GW206 := n3_; have GE206 := n4_; have NB205_206 := n5_; have NB206_205 := n6_; clear n0_ n1_ n2_ n3_ n4_ n5_ n6_; clear hb hbox hg; have hnb18 := NB205_206.out; have hnc18 := NB206_205.out; obtain ⟨hcz19_0, hcz19_1, hfz19_0, hfz19_1⟩ := blk2 BK205) | ((with_reducible refine gate_callee (f := 26) rfl ?_); refine goesL_ (some 14) rfl rfl Try.func26 (by kernel_rfl) rfl #[.agg #[.int .i64 a0_0, .slice A0_1 l0_1.length c0_1], .agg #[.int .i64 1, .int .i64 0], .int .i64 a2] rfl (by (try simp only [List.map_toArray, List.map_cons, List.map_nil]); first | done | rfl | (simp only [List.length_drop, List.length_take]; rfl)) ?_; (with_reducible refine (drydockref16_why.calls k a0_0 _ _ l0_1 1 0 a2 t207 _ ?side1 ?side2 A4.out).mono ?_); (case side1 => repeat (first | exact (Kd.C_below HR0_1.out HB.out) | (with_reducible refine Kd.C_alloc ?_ _) | (with_reducible refine Kd.C_drewN ?_ _) | (with_reducible refine Kd.C_drew ?_))); (case side2 => exact HC0_1.out); rintro e w20 ⟨rfl, hb⟩; refine ⟨_, rfl, ?_⟩; have n0_ := Aside0.mk (blk_below (bk_ BK205) hb); have n1_ := Aside0.mk (blk_below (bk_ BK206) hb); have n2_ := Aside0.mk (below_step bs_ hb); clear BK205 BK206 HB; have BK205 := n0_; have BK206 := n1_; have HB := n2_; clear n0_ n1_ n2_; (try clear hb); (try clear hb2); (try clear hk); (try clear hi); obtain ⟨hcz21_0, hcz21_1, hfz21_0, hfz21_1⟩ := blk2 BK205) | ((with_reducible refine gate_callee (f := 27) rfl ?_); refine goesL_ (some 21) rfl rfl Try.func27 (by kernel_rfl) rfl #[.agg #[.int .i64 a0_0, .slice A0_1 l0_1.length c0_1], .int .i64 a1] rfl (by (try simp only [List.map_toArray, List.map_cons, List.map_nil]); first | done | rfl | (simp only [List.length_drop, List.length_take]; rfl)) ?_; (with_reducible refine (drydockref16_find.calls k a0_0 _ _ l0_1 a1 t208 _ ?side1 ?side2 A6.out).mono ?_); (case side1 => repeat (first | exact (Kd.C_below HR0_1.out HB.out) | (with_reducible refine Kd.C_alloc ?_ _) | (with_reducible refine Kd.C_drewN ?_ _) | (with_reducible refine Kd.C_drew ?_))); (case side2 => exact HC0_1.out); rintro e w22 ⟨rfl, hb⟩; refine ⟨_, rfl, ?_⟩; have n0_ := Aside0.mk (blk_below (bk_ BK205) hb); have n1_ := Aside0.mk (blk_below (bk_ BK206) hb); have n2_ := Aside0.mk (below_step bs_ hb); clear BK205 BK206 HB; have BK205 := n0_; have BK206 := n1_; have HB := n2_; clear n0_ n1_ n2_; (try clear hb); (try clear hb2); (try clear hk); (try clear hi)) | ((with_reducible refine gate_dst (N := 9) rfl ?_); refine box_event ?hg (N := 9) ?hd (cs := #[.int .i64 0, .slice none 0 0]) (t := 24) ?hr ?_; (case hd => rfl); (case hg => rfl); (case hr => first | (go_simp; done) | (go_simp; rfl)); intro gb209 hg w23 hbox hb; have n0_ := Aside0.mk (blk_below (bk_ BK205) hb); have n1_ := Aside0.mk (blk_below (bk_ BK206) hb); have n2_ := Aside0.mk (below_step bs_ hb); have n3_ := Aside0.mk (hbox); have n4_ := Aside0.mk ((by rw [hg]; exact (below_size bs_) : w.heap.size ≤ gb209)); have n5_ := Aside0.mk ((by rw [hg]; exact (below_size bs_) : w.heap.size ≤ gb209)); have n6_ := Aside0.mk ((by rw [hg]; exact Nat.ne_of_lt (blk_lt (bk_ BK205)) : gb205 ≠ gb209)); have n7_ := Aside0.mk ((by rw [hg]; exact Nat.ne_of_gt (blk_lt (bk_ BK205)) : gb209 ≠ gb205)); have n8_ := Aside0.mk ((by rw [hg]; exact Nat.ne_of_lt (blk_lt (bk_ BK206)) : gb206 ≠ gb209)); have n9_ := Aside0.mk ((by rw [hg]; exact Nat.ne_of_gt (blk_lt (bk_ BK206)) : gb209 ≠ gb206)); clear BK205 BK206 HB; have BK205 := n0_; have BK206 := n1_; have HB := n2_; have BK209 := n3_; have GW209 := n4_; have GE209 := n5_; have NB205_209 := n6_; have NB209_205 := n7_; have NB206_209 := n8_; have NB209_206 := n9_; clear n0_ n1_ n2_ n3_ n4_ n5_ n6_ n7_ n8_ n9_; clear hb hbox hg; have hnb24 := NB209_205.out; have hnc24 := NB205_209.out; have hnb25 := NB209_206.out; have hnc25 := NB206_209.out; obtain ⟨hcz26_0, hcz26_1, hfz26_0, hfz26_1⟩ := blk2 BK209))
   go_loopg [10] k (fun kq v10 w' => ∃ (x10_1 : Int) (x210001_1 : List (S26)) (u210001 : Value), v10 = .int .i64 x10_1 ∧ Aside0 (drydockref16_Detach.l0 kq a1 x10_1 a0_0 l0_1 (wrap64 (a2 + 1)) x210001_1 = some (r1, r2, r3)) ∧ Aside0 (kq ≤ k) ∧ Aside0 (Kd.R k26 26 w' w.heap.size (fun _ => True) u210001 x210001_1) ∧ Aside0 (w'.heap[gb205]? = some (.cells #[.int .i64 a0_0, (.slice A0_1 l0_1.length c0_1)] 24 (0, 0))) ∧ Aside0 (w'.heap[gb206]? = some (.cells #[.int .i64 0, (.slice none 0 0)] 24 (0, 0))) ∧ Aside0 (w'.heap[gb209]? = some (.cells #[.int .i64 (wrap64 (a2 + 1)), u210001] 24 (0, 0))) ∧ Aside0 (Below w.heap.size w w'))
   case atStart => exact ⟨(0), (([] : List (S26))), (.slice none 0 0), (by first | rfl | (simp; done) | (simp [*]; done)), H', ⟨Nat.le_refl _⟩, ⟨by first | exact Kd.R_nil _ _ _ _ _ | exact Kd.N_nil _ _ _ _ _ | exact Kd.V_nil _ _ _ _ _ | exact Kd.Q_nil _ _ _ _ _ | exact Kd.S_nil _ _ _ _ _⟩, ⟨bf_ BK205⟩, ⟨bf_ BK206⟩, ⟨bp_ BK209⟩, ⟨bs_⟩⟩
   case round =>
    clear H'
    try clear c5
    try clear c5b0
    try clear c5b1
    try clear c7
    try clear c7b0
    try clear hcz19_0
    try clear hcz19_1
    try clear hcz21_0
    try clear hcz21_1
    try clear hcz26_0
    try clear hcz26_1
    try clear hfz19_0
    try clear hfz19_1
    try clear hfz21_0
    try clear hfz21_1
    try clear hfz26_0
    try clear hfz26_1
    obtain ⟨x10_1, x210001_1, u210001, rfl, HA, HK1, HO_210001, BK205, BK206, BK209, HB⟩ := hrel
    cases gk with
    | zero => exact absurd HA.out (by simp [drydockref16_Detach.l0])
    | succ k1 =>
     have H := HA.out
     clear HA
     simp only [drydockref16_Detach.l0] at H
     by_cases c27 : x10_1 < (l0_1.length : Int)
     ·rw [if_pos c27] at H
      have c27b0 : decide (x10_1 < (l0_1.length : Int)) = true := decide_eq_true c27
      clear c27
      by_cases c28 : 0 ≤ x10_1
      ·rw [if_pos c28] at H
       have c28b0 : decide (0 ≤ x10_1) = true := decide_eq_true c28
       clear c28
       by_cases c29 : ((rd_T26 l0_1 x10_1).f0) = a1
       ·rw [if_pos c29] at H
        have c29b0 : (((rd_T26 l0_1 x10_1).f0) == a1) = true := beq_iff_eq.mpr c29
        have c29b1 : (((rd_T26 l0_1 x10_1).f0) != a1) = false := bne_eq_false_iff_eq.mpr c29
        clear c29
        have H' := Aside0.mk H
        clear H
        have hnb30 := NB205_206.out
        have hnc30 := NB206_205.out
        have hnb31 := NB205_209.out
        have hnc31 := NB209_205.out
        obtain ⟨hcz32_0, hcz32_1, hfz32_0, hfz32_1⟩ := blk2 BK205
        have p210 : 0 ≤ (x10_1 : Int) := of_decide_eq_true (by first | (with_reducible assumption) | assumption)
        have q210 : x10_1 < (l0_1.length : Int) := of_decide_eq_true (by first | (with_reducible assumption) | assumption)
        obtain ⟨ad210, e210, hx210_0, hx210_1⟩ := at_T26 HR0_1.out x10_1 p210 q210
        cases e210
        replace hx210_0 := (HB.out.cell (World.block_lt_of_cell? w _ hx210_0)).trans hx210_0
        replace hx210_1 := (HB.out.cell (World.block_lt_of_cell? w _ hx210_1)).trans hx210_1
        replace p210 := eq_true p210
        replace q210 := eq_true q210
        go_wp2
        go_roundg k1
        case measure => have := HK1.out; omega
        case rel => exact ⟨(wrap64 (x10_1 + 1)), (x210001_1), (u210001), (by first | rfl | (simp; done) | (simp [*]; done)), H', ⟨by have := HK1.out; omega⟩, ⟨by (with_reducible repeat (first | apply Kd.R_alloc | apply Kd.R_drewN | apply Kd.R_drew)); exact HO_210001.out⟩, ⟨bk_ BK205⟩, ⟨bk_ BK206⟩, ⟨bk_ BK209⟩, ⟨bs_⟩⟩
       ·rw [if_neg c29] at H
        have c29b0 : (((rd_T26 l0_1 x10_1).f0) == a1) = false := beq_eq_false_iff_ne.mpr c29
        have c29b1 : (((rd_T26 l0_1 x10_1).f0) != a1) = true := bne_iff_ne.mpr c29
        by_cases c33 : x210001_1.length < 8796093022208
        ·rw [if_pos c33] at H
         have LMc33 := Aside0.mk c33
         clear c33
         obtain ⟨y212, hy212⟩ : ∃ y_ : List (S26), y_ = (x210001_1 ++ [(⟨(rd_T26 l0_1 x10_1).f0, (rd_T26 l0_1 x10_1).f1⟩ : S26)]) := ⟨_, rfl⟩
         replace H : (drydockref16_Detach.l0 k1 a1 (wrap64 (x10_1 + 1)) a0_0 l0_1 (wrap64 (a2 + 1)) y212) = some (r1, r2, r3) := by first | (rw [hy212]; with_reducible exact H) | (have H2_ := (Option.bind_some _ _).symm.trans H; rw [hy212]; with_reducible exact H2_) | (have H2_ := (Option.bind_some _ _).symm.trans H; with_reducible exact H2_) | with_reducible exact H | (rw [hy212]; exact H) | exact H
         have Ny212 := Aside0.mk hy212
         clear hy212
         have H' := Aside0.mk H
         clear H
         have hnb34 := NB205_206.out
         have hnc34 := NB206_205.out
         have hnb35 := NB205_209.out
         have hnc35 := NB209_205.out
         obtain ⟨hcz36_0, hcz36_1, hfz36_0, hfz36_1⟩ := blk2 BK205
         have p210 : 0 ≤ (x10_1 : Int) := of_decide_eq_true (by first | (with_reducible assumption) | assumption)
         have q210 : x10_1 < (l0_1.length : Int) := of_decide_eq_true (by first | (with_reducible assumption) | assumption)
         obtain ⟨ad210, e210, hx210_0, hx210_1⟩ := at_T26 HR0_1.out x10_1 p210 q210
         cases e210
         replace hx210_0 := (HB.out.cell (World.block_lt_of_cell? w _ hx210_0)).trans hx210_0
         replace hx210_1 := (HB.out.cell (World.block_lt_of_cell? w _ hx210_1)).trans hx210_1
         replace p210 := eq_true p210
         replace q210 := eq_true q210
         try go_wp2
         have n0_ := Aside0.mk (Kd.R_drew HO_210001.out)
         have n1_ := Aside0.mk (blk_drew BK205.out)
         have n2_ := Aside0.mk (blk_drew BK206.out)
         have n3_ := Aside0.mk (blk_drew BK209.out)
         have n4_ := Aside0.mk (below_drew1 HB.out)
         clear HO_210001
         clear BK205
         clear BK206
         clear BK209
         clear HB
         have HO_210001 := n0_
         have BK205 := n1_
         have BK206 := n2_
         have BK209 := n3_
         have HB := n4_
         clear n0_ n1_ n2_ n3_ n4_
         have p211 : 0 ≤ (x10_1 : Int) := of_decide_eq_true (by first | (with_reducible assumption) | assumption)
         have q211 : x10_1 < (l0_1.length : Int) := of_decide_eq_true (by first | (with_reducible assumption) | assumption)
         obtain ⟨ad211, e211, hx211_0, hx211_1⟩ := at_T26 HR0_1.out x10_1 p211 q211
         have hw211_1 := hx211_1
         have hw211_0 := hx211_0
         obtain rfl : ad210 = ad211 := (by injection e211)
         replace hx211_0 := (HB.out.cell (World.block_lt_of_cell? w _ hx211_0)).trans hx211_0
         replace hx211_1 := (HB.out.cell (World.block_lt_of_cell? w _ hx211_1)).trans hx211_1
         replace p211 := eq_true p211
         replace q211 := eq_true q211
         refine start_ (n := 11) (S := fun w' => w'.cell? ⟨gb209, 0, none⟩ = some (.int .i64 (wrap64 (a2 + 1))) ∧ w'.cell? ⟨gb209, 1, none⟩ = some (u210001) ∧ w'.cell? ⟨gb205, 0, none⟩ = some (.int .i64 a0_0) ∧ w'.cell? ⟨gb205, 1, none⟩ = some (.slice (some ad210) l0_1.length c0_1) ∧ w'.cell? (ad210.add ((x10_1).toNat * 2)) = some (.int .i64 ((rd_T26 l0_1 x10_1).f0)) ∧ w'.cell? ⟨(ad210.add ((x10_1).toNat * 2)).block, (ad210.add ((x10_1).toNat * 2)).off + 1, none⟩ = some (.int .i64 ((rd_T26 l0_1 x10_1).f1))) (ds := [10]) #[false, false, false, false, false, false, false, false, false, false, false] (by kernel_rfl) rfl rfl ⟨(blk_cell BK209.out 0).trans rfl, (blk_cell BK209.out 1).trans rfl, (blk_cell BK205.out 0).trans rfl, (blk_cell BK205.out 1).trans rfl, ((HB.out.cell (World.block_lt_of_cell? w _ hw211_0)).trans hw211_0), ((HB.out.cell (World.block_lt_of_cell? w _ hw211_1)).trans hw211_1)⟩ (fun hHeld => ?_); refine with_tabW drydockref16_Detach.tab11 drydockref16_Detach.bits11 (fun HT_ HW_ => ?_)
         generalize wr.drew = w37 at HO_210001 BK205 BK206 BK209 HB hx211_0 hx211_1 hHeld ⊢
         refine pv_ 0 (some 42) HT_ (h := ?_)
         refine pv_ 2 (some 44) HT_ (h := ?_)
         refine pv_ 4 (some 46) HT_ (h := ?_)
         refine tk_ 1 (some 43) HT_ HW_ hHeld (h := ?_)
         refine tk_ 3 (some 45) HT_ HW_ hHeld (h := ?_)
         refine pv_ 5 (some 47) HT_ (h := ?_)
         refine tk_ 6 (some 48) HT_ HW_ hHeld (h := ?_)
         refine one_ (i := 7) (N := some 49) #[true, true, true, true, true, true, true, true, false, false, false] rfl rfl (one_of HT_.out (by kernel_rfl)) (by decide) (fun K hK => ?_)
         refine value_ (w1 := ?_) (v := ?_) (by rfl) rfl ?_ ?_
         rotate_left 2
         ·go_simp
          constructor
          ·rfl
          ·rfl
         refine hK.out _ _ ⟨(blk_cell (blk_alloc BK209.out _) 0).trans rfl, (blk_cell (blk_alloc BK209.out _) 1).trans rfl, (blk_cell (blk_alloc BK205.out _) 0).trans rfl, (blk_cell (blk_alloc BK205.out _) 1).trans rfl, (World.cell?_alloc_lt _ _ _ (World.block_lt_of_cell? _ _ (((HB.out.cell (World.block_lt_of_cell? w _ hw211_0)).trans hw211_0)))).trans (((HB.out.cell (World.block_lt_of_cell? w _ hw211_0)).trans hw211_0)), (World.cell?_alloc_lt _ _ _ (World.block_lt_of_cell? _ _ (((HB.out.cell (World.block_lt_of_cell? w _ hw211_1)).trans hw211_1)))).trans (((HB.out.cell (World.block_lt_of_cell? w _ hw211_1)).trans hw211_1))⟩ (fun hHeld => ?_)
         clear hK K
         refine norm_ (a' := ?_) ?_ ?_
         rotate_left
         ·show Act.put _ (some 49) _ = _
          simp only [Act.put, List.setIfInBounds_toArray, List.set_cons_zero, List.set_cons_succ, i64_w, i32_w]
          rfl
         refine one_ (i := 8) (N := some 50) #[true, true, true, true, true, true, true, true, true, false, false] rfl rfl (one_of HT_.out (by kernel_rfl)) (by decide) (fun K hK => ?_)
         refine Kd.R_append_step k26 (w0 := w) w.heap.size (by rfl) (.tmp 43) (.tmp 49) 22 26 (.agg #[(.int .i64 0), (.int .i64 0)]) 16 rfl Try.underlying22 info26 rfl (by decide) (by omega) u210001 x210001_1 (⟨(rd_T26 l0_1 x10_1).f0, (rd_T26 l0_1 x10_1).f1⟩ : S26) [.int .i64 ((rd_T26 l0_1 x10_1).f0), .int .i64 ((rd_T26 l0_1 x10_1).f1)] (fun _ => True) (fun _ => False) rfl rfl ?aP (fun _ hk => hk.elim) ?aF ?aO ?aB ?aS ?aL ?_
         (case aP => exact k26_mkM _ _ _ (⟨(rd_T26 l0_1 x10_1).f0, (rd_T26 l0_1 x10_1).f1⟩ : S26))
         (case aB => exact bs_)
         (case aF => exact (fun _ _ => trivial))
         (case aO => exact (rk_ HO_210001))
         (case aS => exact (below_size bs_))
         (case aL => have := LMc33.out; omega)
         intro v213 w38 ho hb hg hat
         rw [← Ny212.out] at ho
         have n0_ := Aside0.mk (blk_grown (g := gb205) (o := .cells #[.int .i64 a0_0, .slice (some ad210) l0_1.length c0_1] 24 (0, 0)) (by (with_reducible repeat (first | refine blk_drewN ?_ _ | refine blk_drew ?_ | refine blk_alloc ?_ _)); exact BK205.out) hg (Kd.R_ne HO_210001.out BK205.out (by decide)))
         have n1_ := Aside0.mk (blk_grown (g := gb206) (o := .cells #[.int .i64 0, .slice none 0 0] 24 (0, 0)) (by (with_reducible repeat (first | refine blk_drewN ?_ _ | refine blk_drew ?_ | refine blk_alloc ?_ _)); exact BK206.out) hg (Kd.R_ne HO_210001.out BK206.out (by decide)))
         have n2_ := Aside0.mk (blk_grown (g := gb209) (o := .cells #[.int .i64 (wrap64 (a2 + 1)), u210001] 24 (0, 0)) (by (with_reducible repeat (first | refine blk_drewN ?_ _ | refine blk_drew ?_ | refine blk_alloc ?_ _)); exact BK209.out) hg (Kd.R_ne HO_210001.out BK209.out (by decide)))
         have n3_ := Aside0.mk (hb)
         have n4_ := Aside0.mk (ho)
         clear BK205
         clear BK206
         clear BK209
         clear HB
         clear HO_210001
         have BK205 := n0_
         have BK206 := n1_
         have BK209 := n2_
         have HB := n3_
         have HO214 := n4_
         clear n0_ n1_ n2_ n3_ n4_
         clear ho hb hg hat
         obtain ⟨Ao39, co39, eo39⟩ := Kd.R_slice HO214.out
         (first | subst eo39 | (injection eo39 with f1_ f2_ f3_; have f4_ := f1_.symm; have f5_ := f3_.symm; clear f1_ f2_ f3_; subst f4_; subst f5_))
         refine hK.out _ _ ⟨(blk_cell BK209.out 0).trans rfl, (blk_cell BK209.out 1).trans rfl, (blk_cell BK205.out 0).trans rfl, (blk_cell BK205.out 1).trans rfl, ((HB.out.cell (World.block_lt_of_cell? w _ hw211_0)).trans hw211_0), ((HB.out.cell (World.block_lt_of_cell? w _ hw211_1)).trans hw211_1)⟩ (fun hHeld => ?_)
         clear hK K
         refine norm_ (a' := ?_) ?_ ?_
         rotate_left
         ·show Act.put _ (some 50) _ = _
          simp only [Act.put, List.setIfInBounds_toArray, List.set_cons_zero, List.set_cons_succ, i64_w, i32_w]
          rfl
         refine pv_ 9 (some 51) HT_ (h := ?_)
         refine last_ (i := 10) (N := none) #[true, true, true, true, true, true, true, true, true, true, true] rfl rfl (one_of HT_.out (by kernel_rfl)) (by decide) (fun K hK => ?_)
         have hs40 : w38.cell? ⟨gb209, 1, none⟩ = some (u210001) := (blk_cell BK209.out 1).trans rfl
         have hfs40 := blk_frozen BK209.out 1
         have hns40_0 := NB205_209.out
         have hns40_1 := NB206_209.out
         have hms40_0 := NB209_205.out
         have hms40_1 := NB209_206.out
         refine skip_ (w1 := ?_) (by rfl) rfl ?_ ?_
         rotate_left
         ·go_simp
          rfl
         refine hK.out _ _ ?_
         clear hK K
         refine done_ (done_of HT_.out (by kernel_rfl)) ?_
         try go_wp2
         go_roundg k1
         case measure => have := HK1.out; omega
         case rel => exact ⟨(wrap64 (x10_1 + 1)), (y212), (.slice Ao39 y212.length co39), (by first | rfl | (simp; done) | (simp [*]; done)), H', ⟨by have := HK1.out; omega⟩, ⟨by (with_reducible repeat (first | apply Kd.R_alloc | apply Kd.R_drewN | apply Kd.R_drew)); exact Kd.R_mono (Kd.R_far (p := ⟨gb209, 1, none⟩) (Kd.R_types HO214.out BK209.out (by decide)) (fun _ hk => hk.2) (.slice Ao39 y212.length co39)) (fun _ hk => trivial)⟩, ⟨bf_ BK205⟩, ⟨bf_ BK206⟩, ⟨bp_ BK209⟩, ⟨bs_⟩⟩
        ·rw [if_neg c33] at H
         exact absurd H (by simp)
      ·rw [if_neg c28] at H
       exact absurd H (by simp)
     ·rw [if_neg c27] at H
      have c27b0 : decide (x10_1 < (l0_1.length : Int)) = false := decide_eq_false c27
      clear c27
      simp only [Option.some.injEq, Prod.mk.injEq] at H
      obtain ⟨rfl, rfl, rfl⟩ := H
      have hnb41 := NB205_206.out
      have hnc41 := NB206_205.out
      have hnb42 := NB205_209.out
      have hnc42 := NB209_205.out
      obtain ⟨hcz43_0, hcz43_1, hfz43_0, hfz43_1⟩ := blk2 BK205
      have hnb44 := NB209_206.out
      have hnc44 := NB206_209.out
      obtain ⟨hcz45_0, hcz45_1, hfz45_0, hfz45_1⟩ := blk2 BK209
      obtain ⟨hcz46_0, hcz46_1, hfz46_0, hfz46_1⟩ := blk2 BK206
      obtain ⟨Ao47, co47, eo47⟩ := Kd.R_slice HO_210001.out
      subst eo47
      go_wp2
      refine bodyPost_ret (results_ct rfl _ _ gb206 24 #[.int .i64 (wrap64 (a2 + 1)), .slice Ao47 x210001_1.length co47] (0, 0) _ rfl (bp_ BK206) Try.underlying24 rfl (by kernel_rfl)) rfl ?_
      exact ⟨_, by first | rfl | (simp [errW_none, errW_some] <;> rfl) | (simp [*, errW_none, errW_some] <;> rfl), by (with_reducible repeat (first | apply Kd.R_alloc | apply Kd.R_drewN | apply Kd.R_drew)); exact Kd.R_mono (far2 gb206 (Kd.R_types HO_210001.out BK206.out (by decide)) (fun _ hk => hk.2)) (fun _ hk => trivial), by repeat (first | (with_reducible first | exact HB.out | apply below_alloc | apply pw_below_drewN | apply below_drew1 | refine below_set ?_ GE205.out | refine below_set ?_ GE206.out | refine below_set ?_ GE209.out) | exact HB.out)⟩
 ·rw [if_neg c5] at H
  have c5b0 : (t207 == 0) = false := beq_eq_false_iff_ne.mpr c5
  have c5b1 : (t207 != 0) = true := bne_iff_ne.mpr c5
  simp only [Option.some.injEq, Prod.mk.injEq] at H
  obtain ⟨rfl, rfl, rfl⟩ := H
  go_enter Try.func16, Try.ntmps16
  go_wp2_with (first | ((with_reducible refine gate_dst (N := 3) rfl ?_); refine box_event ?hg (N := 3) ?hd (cs := #[.int .i64 a0_0, .slice A0_1 l0_1.length c0_1]) (t := 24) ?hr ?_; (case hd => rfl); (case hg => rfl); (case hr => first | (go_simp; done) | (go_simp; rfl)); intro gb205 hg w48 hbox hb; have n0_ := Aside0.mk (below_step bs_ hb); have n1_ := Aside0.mk (hbox); have n2_ := Aside0.mk ((by rw [hg]; exact (below_size bs_) : w.heap.size ≤ gb205)); have n3_ := Aside0.mk ((by rw [hg]; exact (below_size bs_) : w.heap.size ≤ gb205)); clear HB; have HB := n0_; have BK205 := n1_; have GW205 := n2_; have GE205 := n3_; clear n0_ n1_ n2_ n3_; clear hb hbox hg) | ((with_reducible refine gate_dst (N := 6) rfl ?_); refine box_event ?hg (N := 6) ?hd (cs := #[.int .i64 0, .slice none 0 0]) (t := 24) ?hr ?_; (case hd => rfl); (case hg => rfl); (case hr => first | (go_simp; done) | (go_simp; rfl)); intro gb206 hg w49 hbox hb; have n0_ := Aside0.mk (blk_below (bk_ BK205) hb); have n1_ := Aside0.mk (below_step bs_ hb); have n2_ := Aside0.mk (hbox); have n3_ := Aside0.mk ((by rw [hg]; exact (below_size bs_) : w.heap.size ≤ gb206)); have n4_ := Aside0.mk ((by rw [hg]; exact (below_size bs_) : w.heap.size ≤ gb206)); have n5_ := Aside0.mk ((by rw [hg]; exact Nat.ne_of_lt (blk_lt (bk_ BK205)) : gb205 ≠ gb206)); have n6_ := Aside0.mk ((by rw [hg]; exact Nat.ne_of_gt (blk_lt (bk_ BK205)) : gb206 ≠ gb205)); clear BK205 HB; have BK205 := n0_; have HB := n1_; have BK206 := n2_; have GW206 := n3_; have GE206 := n4_; have NB205_206 := n5_; have NB206_205 := n6_; clear n0_ n1_ n2_ n3_ n4_ n5_ n6_; clear hb hbox hg; have hnb50 := NB205_206.out; have hnc50 := NB206_205.out; obtain ⟨hcz51_0, hcz51_1, hfz51_0, hfz51_1⟩ := blk2 BK205) | ((with_reducible refine gate_callee (f := 26) rfl ?_); refine goesL_ (some 14) rfl rfl Try.func26 (by kernel_rfl) rfl #[.agg #[.int .i64 a0_0, .slice A0_1 l0_1.length c0_1], .agg #[.int .i64 1, .int .i64 0], .int .i64 a2] rfl (by (try simp only [List.map_toArray, List.map_cons, List.map_nil]); first | done | rfl | (simp only [List.length_drop, List.length_take]; rfl)) ?_; (with_reducible refine (drydockref16_why.calls k a0_0 _ _ l0_1 1 0 a2 t207 _ ?side1 ?side2 A4.out).mono ?_); (case side1 => repeat (first | exact (Kd.C_below HR0_1.out HB.out) | (with_reducible refine Kd.C_alloc ?_ _) | (with_reducible refine Kd.C_drewN ?_ _) | (with_reducible refine Kd.C_drew ?_))); (case side2 => exact HC0_1.out); rintro e w52 ⟨rfl, hb⟩; refine ⟨_, rfl, ?_⟩; have n0_ := Aside0.mk (blk_below (bk_ BK205) hb); have n1_ := Aside0.mk (blk_below (bk_ BK206) hb); have n2_ := Aside0.mk (below_step bs_ hb); clear BK205 BK206 HB; have BK205 := n0_; have BK206 := n1_; have HB := n2_; clear n0_ n1_ n2_; (try clear hb); (try clear hb2); (try clear hk); (try clear hi); obtain ⟨hcz53_0, hcz53_1, hfz53_0, hfz53_1⟩ := blk2 BK206))
  refine bodyPost_ret (results_ct rfl _ _ gb206 24 #[.int .i64 0, .slice none 0 0] (0, 0) _ rfl (bp_ BK206) Try.underlying24 rfl (by kernel_rfl)) rfl ?_
  exact ⟨_, by first | rfl | (simp [errW_none, errW_some] <;> rfl) | (simp [*, errW_none, errW_some] <;> rfl), by first | exact Kd.R_nil _ _ _ _ _ | exact Kd.N_nil _ _ _ _ _ | exact Kd.V_nil _ _ _ _ _ | exact Kd.Q_nil _ _ _ _ _ | exact Kd.S_nil _ _ _ _ _, by repeat (first | (with_reducible first | exact HB.out | apply below_alloc | apply pw_below_drewN | apply below_drew1 | refine below_set ?_ GE205.out | refine below_set ?_ GE206.out) | exact HB.out)⟩

end Go.Proofs.Ytoehingbhmaidaa.P
