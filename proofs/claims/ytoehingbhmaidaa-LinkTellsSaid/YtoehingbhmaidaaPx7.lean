-- Written by a program of this session over the kit's print of the translation. Lean checks it.
import Derived.Test.YtoehingbhmaidaaPx0
import Derived.Test.YtoehingbhmaidaaPx4
import Derived.Test.YtoehingbhmaidaaHFind
import Derived.Test.YtoehingbhmaidaaHWith
-- shorter
namespace Go.Proofs.Ytoehingbhmaidaa.P
open Go.RowKit Go.Proofs.YtoehingbhmaidaaW.PrintWords Go.Proofs.YtoehingbhmaidaaW.PrintLast Go.Proofs.YtoehingbhmaidaaW.PrintMore
attribute [local go_sem] max2_int min2_int max_two min_two max_three min_three max_four min_four   -- for this text's walks alone
set_option linter.unusedVariables false
set_option linter.unusedSimpArgs false

/-! ### link_Attach: function 12 -/
mutual
def link_Attach.j0 : Nat → Int → Int → Int → Bool → Int → List (S26) → Int → Int → Option (Int × (List (S26)) × Int)
  | 0, _, _, _, _, _, _, _, _ => none
  | k + 1, x2, x3, x4, x35, x120000, x120001, x121000, x121001 => if x35 = true then (some (0, ([] : List (S26)), 1)) else (if x2 = 1 then (if (x120001.length : Int) = 4 then (some (0, ([] : List (S26)), 4)) else ((api_Link_25.f x120001 (x120001.length : Int) x121000 x121001).bind fun t124 => (some (wrap64 (x4 + 1), t124, 0)))) else (if x2 = 3 then (link_Attach.j1 k x3 x4 (0 + 1) x120000 x120001 x121000 x121001) else (if x2 = 2 then (link_Attach.j1 k x3 x4 0 x120000 x120001 x121000 x121001) else (if (x120001.length : Int) = 4 then (some (0, ([] : List (S26)), 4)) else ((api_Link_25.f x120001 0 x121000 x121001).bind fun t127 => (some (wrap64 (x4 + 1), t127, 0)))))))
def link_Attach.j1 : Nat → Int → Int → Int → Int → List (S26) → Int → Int → Option (Int × (List (S26)) × Int)
  | 0, _, _, _, _, _, _, _ => none
  | k + 1, x3, x4, x13, x120000, x120001, x121000, x121001 => (link_find.f x120000 x120001 x3).bind fun t130 => (if t130 < 0 then (some (0, ([] : List (S26)), 3)) else (if (x120001.length : Int) = 4 then (some (0, ([] : List (S26)), 4)) else ((api_Link_25.f x120001 (wrap64 (x13 + t130)) x121000 x121001).bind fun t131 => (some (wrap64 (x4 + 1), t131, 0)))))
end
def link_Attach.f (k : Nat) (a0_0 : Int) (l0_1 : List (S26)) (a1_0 : Int) (a1_1 : Int) (a2 : Int) (a3 : Int) (a4 : Int) : Option (Int × (List (S26)) × Int) := (link_may.f k a0_0 l0_1 a1_0 a1_1 a4).bind fun t122 => (if t122 = 0 then (if a2 < 0 then (link_Attach.j0 k a2 a3 a4 true a0_0 l0_1 a1_0 a1_1) else (if a2 ≥ 4 then (link_Attach.j0 k a2 a3 a4 true a0_0 l0_1 a1_0 a1_1) else ((link_find.f a0_0 l0_1 a1_0).bind fun t123 => (link_Attach.j0 k a2 a3 a4 (decide (t123 ≥ 0)) a0_0 l0_1 a1_0 a1_1)))) else (some (0, ([] : List (S26)), t122)))
theorem link_Attach.mono_l : ∀ k, (∀ y0 y1 y2 y3 y4 y5 y6 y7, LeO (link_Attach.j0 k y0 y1 y2 y3 y4 y5 y6 y7) (link_Attach.j0 (k + 1) y0 y1 y2 y3 y4 y5 y6 y7)) ∧ (∀ y0 y1 y2 y3 y4 y5 y6, LeO (link_Attach.j1 k y0 y1 y2 y3 y4 y5 y6) (link_Attach.j1 (k + 1) y0 y1 y2 y3 y4 y5 y6))
  | 0 => ⟨fun _ _ _ _ _ _ _ _ r h => by simp [link_Attach.j0] at h, fun _ _ _ _ _ _ _ r h => by simp [link_Attach.j1] at h⟩
  | k + 1 => by
    obtain ⟨ih0, ih1⟩ := link_Attach.mono_l k
    refine ⟨?_, ?_⟩
    · intro y0 y1 y2 y3 y4 y5 y6 y7
      unfold link_Attach.j0
      repeat' first
      | (with_reducible exact ih0 _ _ _ _ _ _ _ _)
      | (with_reducible exact ih1 _ _ _ _ _ _ _)
      | (with_reducible exact link_may.mono _ _ _ _ _ _)
      | (with_reducible exact LeO.refl _)
      | (with_reducible exact LeO.none _)
      | (with_reducible refine LeO.ite ?_ ?_)
      | (with_reducible refine LeO.bind ?_ (fun _ => ?_))
      | exact ih0 _ _ _ _ _ _ _ _
      | exact ih1 _ _ _ _ _ _ _
      | exact link_may.mono _ _ _ _ _ _
      | exact LeO.none _
      | refine LeO.ite ?_ ?_
      | refine LeO.bind ?_ (fun _ => ?_)
    · intro y0 y1 y2 y3 y4 y5 y6
      unfold link_Attach.j1
      repeat' first
      | (with_reducible exact ih0 _ _ _ _ _ _ _ _)
      | (with_reducible exact ih1 _ _ _ _ _ _ _)
      | (with_reducible exact link_may.mono _ _ _ _ _ _)
      | (with_reducible exact LeO.refl _)
      | (with_reducible exact LeO.none _)
      | (with_reducible refine LeO.ite ?_ ?_)
      | (with_reducible refine LeO.bind ?_ (fun _ => ?_))
      | exact ih0 _ _ _ _ _ _ _ _
      | exact ih1 _ _ _ _ _ _ _
      | exact link_may.mono _ _ _ _ _ _
      | exact LeO.none _
      | refine LeO.ite ?_ ?_
      | refine LeO.bind ?_ (fun _ => ?_)
theorem link_Attach.mono : ∀ a0 a1 a2 a3 a4 a5 a6 k, LeO (link_Attach.f k a0 a1 a2 a3 a4 a5 a6) (link_Attach.f (k + 1) a0 a1 a2 a3 a4 a5 a6) := by
 intro a0 a1 a2 a3 a4 a5 a6 k
 obtain ⟨ih0, ih1⟩ := link_Attach.mono_l k
 unfold link_Attach.f
 repeat' first
  | (with_reducible exact ih0 _ _ _ _ _ _ _ _)
  | (with_reducible exact ih1 _ _ _ _ _ _ _)
  | (with_reducible exact link_may.mono _ _ _ _ _ _)
  | (with_reducible exact LeO.refl _)
  | (with_reducible exact LeO.none _)
  | (with_reducible refine LeO.ite ?_ ?_)
  | (with_reducible refine LeO.bind ?_ (fun _ => ?_))
  | exact ih0 _ _ _ _ _ _ _ _
  | exact ih1 _ _ _ _ _ _ _
  | exact link_may.mono _ _ _ _ _ _
  | exact LeO.none _
  | refine LeO.ite ?_ ?_
  | refine LeO.bind ?_ (fun _ => ?_)
set_option maxHeartbeats 8000000 in
set_option maxRecDepth 100000 in
theorem link_Attach.calls (k : Nat) (a0_0 : Int) (A0_1 : Option Addr) (c0_1 : Nat) (l0_1 : List (S26)) (a1_0 : Int) (a1_1 : Int) (a2 : Int) (a3 : Int) (a4 : Int) (r1 : Int) (r2 : List (S26)) (r3 : Int) (w : World) (hr0_1 : Kd.C k26 w A0_1 l0_1.length l0_1) (hc0_1 : l0_1.length ≤ c0_1) (h : link_Attach.f k a0_0 l0_1 a1_0 a1_1 a2 a3 a4 = some (r1, r2, r3)) :
    Calls Try.prog 12 #[.agg #[.int .i64 a0_0, .slice A0_1 l0_1.length c0_1], .agg #[.int .i64 a1_0, .int .i64 a1_1], .int .i64 a2, .int .i64 a3, .int .i64 a4] w fun e w' => ∃ v1_ : Value, e = .returned (.tuple #[.agg #[.int .i64 r1, v1_], .int .i64 r3]) ∧ Kd.R k26 26 w' w.heap.size (fun _ => True) v1_ r2 ∧ Below w.heap.size w w' := by
 have hu24 := Try.underlying24
 have hu26 := Try.underlying26
 have HR0_1 := Aside0.mk hr0_1
 have HC0_1 := Aside0.mk hc0_1
 clear hr0_1 hc0_1
 have HB := Aside0.mk (Below.refl w.heap.size w)
 have H : ((link_may.f k a0_0 l0_1 a1_0 a1_1 a4).bind fun t122 => (if t122 = 0 then (if a2 < 0 then (link_Attach.j0 k a2 a3 a4 true a0_0 l0_1 a1_0 a1_1) else (if a2 ≥ 4 then (link_Attach.j0 k a2 a3 a4 true a0_0 l0_1 a1_0 a1_1) else ((link_find.f a0_0 l0_1 a1_0).bind fun t123 => (link_Attach.j0 k a2 a3 a4 (decide (t123 ≥ 0)) a0_0 l0_1 a1_0 a1_1)))) else (some (0, ([] : List (S26)), t122)))) = some (r1, r2, r3) := h
 clear h
 replace H := Option.bind_eq_some_iff.mp H
 obtain ⟨t122, A60, H⟩ := H
 replace H : (if t122 = 0 then (if a2 < 0 then (link_Attach.j0 k a2 a3 a4 true a0_0 l0_1 a1_0 a1_1) else (if a2 ≥ 4 then (link_Attach.j0 k a2 a3 a4 true a0_0 l0_1 a1_0 a1_1) else ((link_find.f a0_0 l0_1 a1_0).bind fun t123 => (link_Attach.j0 k a2 a3 a4 (decide (t123 ≥ 0)) a0_0 l0_1 a1_0 a1_1)))) else (some (0, ([] : List (S26)), t122))) = some (r1, r2, r3) := H
 have A6 := Aside0.mk A60
 clear A60
 by_cases c7 : t122 = 0
 ·rw [if_pos c7] at H
  have c7b0 : (t122 == 0) = true := beq_iff_eq.mpr c7
  have c7b1 : (t122 != 0) = false := bne_eq_false_iff_eq.mpr c7
  clear c7
  have HC8 := Aside0.mk H
  clear H
  go_enter Try.func12, Try.ntmps12
  go_upto_region 4 with (first | ((with_reducible refine gate_dst (N := 5) rfl ?_); refine box_event ?hg (N := 5) ?hd (cs := #[.int .i64 a0_0, .slice A0_1 l0_1.length c0_1]) (t := 24) ?hr ?_; (case hd => rfl); (case hg => rfl); (case hr => first | (go_simp; done) | (go_simp; rfl)); intro gb119 hg w9 hbox hb; have n0_ := Aside0.mk (below_step bs_ hb); have n1_ := Aside0.mk (hbox); have n2_ := Aside0.mk ((by rw [hg]; exact (below_size bs_) : w.heap.size ≤ gb119)); have n3_ := Aside0.mk ((by rw [hg]; exact (below_size bs_) : w.heap.size ≤ gb119)); clear HB; have HB := n0_; have BK119 := n1_; have GW119 := n2_; have GE119 := n3_; clear n0_ n1_ n2_ n3_; clear hb hbox hg) | ((with_reducible refine gate_dst (N := 6) rfl ?_); refine box_event ?hg (N := 6) ?hd (cs := #[.int .i64 a1_0, .int .i64 a1_1]) (t := 26) ?hr ?_; (case hd => rfl); (case hg => rfl); (case hr => first | (go_simp; done) | (go_simp; rfl)); intro gb120 hg w10 hbox hb; have n0_ := Aside0.mk (blk_below (bk_ BK119) hb); have n1_ := Aside0.mk (below_step bs_ hb); have n2_ := Aside0.mk (hbox); have n3_ := Aside0.mk ((by rw [hg]; exact (below_size bs_) : w.heap.size ≤ gb120)); have n4_ := Aside0.mk ((by rw [hg]; exact (below_size bs_) : w.heap.size ≤ gb120)); have n5_ := Aside0.mk ((by rw [hg]; exact Nat.ne_of_lt (blk_lt (bk_ BK119)) : gb119 ≠ gb120)); have n6_ := Aside0.mk ((by rw [hg]; exact Nat.ne_of_gt (blk_lt (bk_ BK119)) : gb120 ≠ gb119)); clear BK119 HB; have BK119 := n0_; have HB := n1_; have BK120 := n2_; have GW120 := n3_; have GE120 := n4_; have NB119_120 := n5_; have NB120_119 := n6_; clear n0_ n1_ n2_ n3_ n4_ n5_ n6_; clear hb hbox hg) | ((with_reducible refine gate_dst (N := 10) rfl ?_); refine box_event ?hg (N := 10) ?hd (cs := #[.int .i64 0, .slice none 0 0]) (t := 24) ?hr ?_; (case hd => rfl); (case hg => rfl); (case hr => first | (go_simp; done) | (go_simp; rfl)); intro gb121 hg w11 hbox hb; have n0_ := Aside0.mk (blk_below (bk_ BK119) hb); have n1_ := Aside0.mk (blk_below (bk_ BK120) hb); have n2_ := Aside0.mk (below_step bs_ hb); have n3_ := Aside0.mk (hbox); have n4_ := Aside0.mk ((by rw [hg]; exact (below_size bs_) : w.heap.size ≤ gb121)); have n5_ := Aside0.mk ((by rw [hg]; exact (below_size bs_) : w.heap.size ≤ gb121)); have n6_ := Aside0.mk ((by rw [hg]; exact Nat.ne_of_lt (blk_lt (bk_ BK119)) : gb119 ≠ gb121)); have n7_ := Aside0.mk ((by rw [hg]; exact Nat.ne_of_gt (blk_lt (bk_ BK119)) : gb121 ≠ gb119)); have n8_ := Aside0.mk ((by rw [hg]; exact Nat.ne_of_lt (blk_lt (bk_ BK120)) : gb120 ≠ gb121)); have n9_ := Aside0.mk ((by rw [hg]; exact Nat.ne_of_gt (blk_lt (bk_ BK120)) : gb121 ≠ gb120)); clear BK119 BK120 HB; have BK119 := n0_; have BK120 := n1_; have HB := n2_; have BK121 := n3_; have GW121 := n4_; have GE121 := n5_; have NB119_121 := n6_; have NB121_119 := n7_; have NB120_121 := n8_; have NB121_120 := n9_; clear n0_ n1_ n2_ n3_ n4_ n5_ n6_ n7_ n8_ n9_; clear hb hbox hg; have hnb12 := NB119_120.out; have hnc12 := NB120_119.out; have hnb13 := NB119_121.out; have hnc13 := NB121_119.out; obtain ⟨hcz14_0, hcz14_1, hfz14_0, hfz14_1⟩ := blk2 BK119; have hnb15 := NB120_121.out; have hnc15 := NB121_120.out; obtain ⟨hcz16_0, hcz16_1, hfz16_0, hfz16_1⟩ := blk2 BK120) | ((with_reducible refine gate_callee (f := 23) rfl ?_); refine goesL_ (some 18) rfl rfl Try.func23 (by kernel_rfl) rfl #[.agg #[.int .i64 a0_0, .slice A0_1 l0_1.length c0_1], .agg #[.int .i64 a1_0, .int .i64 a1_1], .int .i64 a4] rfl (by (try simp only [List.map_toArray, List.map_cons, List.map_nil]); first | done | rfl | (simp only [List.length_drop, List.length_take]; rfl)) ?_; (with_reducible refine (link_may.calls k a0_0 _ _ l0_1 a1_0 a1_1 a4 t122 _ ?side1 ?side2 A6.out).mono ?_); (case side1 => repeat (first | exact (Kd.C_below HR0_1.out HB.out) | (with_reducible refine Kd.C_alloc ?_ _) | (with_reducible refine Kd.C_drewN ?_ _) | (with_reducible refine Kd.C_drew ?_))); (case side2 => exact HC0_1.out); rintro e w17 ⟨rfl, hb⟩; refine ⟨_, rfl, ?_⟩; have n0_ := Aside0.mk (blk_below (bk_ BK119) hb); have n1_ := Aside0.mk (blk_below (bk_ BK120) hb); have n2_ := Aside0.mk (blk_below (bk_ BK121) hb); have n3_ := Aside0.mk (below_step bs_ hb); clear BK119 BK120 BK121 HB; have BK119 := n0_; have BK120 := n1_; have BK121 := n2_; have HB := n3_; clear n0_ n1_ n2_ n3_; (try clear hb); (try clear hb2); (try clear hk); (try clear hi)))
  (try simp only [Act.put, List.setIfInBounds_toArray, List.set_cons_zero, List.set_cons_succ])
  go_cut [35] (fun v35 wc => ∃ (kq : Nat) (x35_7 : Bool), v35 = .bool x35_7 ∧ Aside0 (link_Attach.j0 kq a2 a3 a4 x35_7 a0_0 l0_1 a1_0 a1_1 = some (r1, r2, r3)) ∧ Aside0 (kq ≤ k) ∧ Aside0 (wc.heap[gb119]? = some (.cells #[.int .i64 a0_0, (.slice A0_1 l0_1.length c0_1)] 24 (0, 0))) ∧ Aside0 (wc.heap[gb120]? = some (.cells #[.int .i64 a1_0, .int .i64 a1_1] 26 (0, 0))) ∧ Aside0 (wc.heap[gb121]? = some (.cells #[.int .i64 0, (.slice none 0 0)] 24 (0, 0))) ∧ Aside0 (Below w.heap.size w wc))
  case first =>
   have H := HC8.out
   clear HC8
   by_cases c18 : a2 < 0
   ·rw [if_pos c18] at H
    have c18b0 : decide (a2 < 0) = true := decide_eq_true c18
    clear c18
    (first | rw [c18b0] | (simp only [i64_w, i32_w]; rw [c18b0]) | skip)
    have H' := Aside0.mk H
    clear H
    go_wp2
    go_meet
    case rel => exact ⟨_, (true), (by first | rfl | (simp; done) | (simp [*]; done)), H', ⟨by first | omega | exact Nat.le_refl _⟩, ⟨bk_ BK119⟩, ⟨bk_ BK120⟩, ⟨bk_ BK121⟩, ⟨bs_⟩⟩
   ·rw [if_neg c18] at H
    have c18b0 : decide (a2 < 0) = false := decide_eq_false c18
    clear c18
    (first | rw [c18b0] | (simp only [i64_w, i32_w]; rw [c18b0]) | skip)
    by_cases c19 : a2 ≥ 4
    ·rw [if_pos c19] at H
     have c19b0 : decide (4 ≤ a2) = true := decide_eq_true c19
     clear c19
     have H' := Aside0.mk H
     clear H
     go_wp2
     go_meet
     case rel => exact ⟨_, (true), (by first | rfl | (simp; done) | (simp [*]; done)), H', ⟨by first | omega | exact Nat.le_refl _⟩, ⟨bk_ BK119⟩, ⟨bk_ BK120⟩, ⟨bk_ BK121⟩, ⟨bs_⟩⟩
    ·rw [if_neg c19] at H
     have c19b0 : decide (4 ≤ a2) = false := decide_eq_false c19
     clear c19
     replace H := Option.bind_eq_some_iff.mp H
     obtain ⟨t123, A200, H⟩ := H
     replace H : (link_Attach.j0 k a2 a3 a4 (decide (t123 ≥ 0)) a0_0 l0_1 a1_0 a1_1) = some (r1, r2, r3) := H
     have A20 := Aside0.mk A200
     clear A200
     have H' := Aside0.mk H
     clear H
     have hnb21 := NB119_120.out
     have hnc21 := NB120_119.out
     have hnb22 := NB119_121.out
     have hnc22 := NB121_119.out
     obtain ⟨hcz23_0, hcz23_1, hfz23_0, hfz23_1⟩ := blk2 BK119
     have hnb24 := NB120_121.out
     have hnc24 := NB121_120.out
     obtain ⟨hcz25_0, hcz25_1, hfz25_0, hfz25_1⟩ := blk2 BK120
     go_wp2_with (first | (go_at_call 24; (with_reducible refine (link_find.calls a0_0 _ _ l0_1 a1_0 t123 _ ?side1 ?side2 A20.out).mono ?_); (case side1 => repeat (first | exact (Kd.C_below HR0_1.out HB.out) | (with_reducible refine Kd.C_alloc ?_ _) | (with_reducible refine Kd.C_drewN ?_ _) | (with_reducible refine Kd.C_drew ?_))); (case side2 => exact HC0_1.out); rintro e w26 ⟨rfl, hb⟩; have n0_ := Aside0.mk (blk_below (bk_ BK119) hb); have n1_ := Aside0.mk (blk_below (bk_ BK120) hb); have n2_ := Aside0.mk (blk_below (bk_ BK121) hb); have n3_ := Aside0.mk (below_step bs_ hb); clear BK119 BK120 BK121 HB; have BK119 := n0_; have BK120 := n1_; have BK121 := n2_; have HB := n3_; clear n0_ n1_ n2_ n3_; (try clear hb); (try clear hb2); (try clear hk); (try clear hi)))
     go_meet
     case rel => exact ⟨_, (decide (t123 ≥ 0)), (by first | rfl | (simp; done) | (simp [*]; done)), H', ⟨by first | omega | exact Nat.le_refl _⟩, ⟨bk_ BK119⟩, ⟨bk_ BK120⟩, ⟨bk_ BK121⟩, ⟨bs_⟩⟩
  case rest =>
   clear HC8
   try clear c7
   try clear c7b0
   try clear c7b1
   try clear hcz14_0
   try clear hcz14_1
   try clear hcz16_0
   try clear hcz16_1
   try clear hfz14_0
   try clear hfz14_1
   try clear hfz16_0
   try clear hfz16_1
   obtain ⟨kq, x35_7, rfl, HA, HJ7, BK119, BK120, BK121, HB⟩ := hcut
   cases kq with
   | zero => exact absurd HA.out (by simp [link_Attach.j0])
   | succ kj7 =>
    have H := HA.out
    clear HA
    simp only [link_Attach.j0] at H
    by_cases c27 : x35_7 = true
    ·subst c27
     have H1 : (some (0, ([] : List (S26)), 1)) = some (r1, r2, r3) := by rw [if_pos rfl] at H; exact H
     clear H
     have H := H1
     clear H1
     simp only [Option.some.injEq, Prod.mk.injEq] at H
     obtain ⟨rfl, rfl, rfl⟩ := H
     have hnb28 := NB121_119.out
     have hnc28 := NB119_121.out
     have hnb29 := NB121_120.out
     have hnc29 := NB120_121.out
     obtain ⟨hcz30_0, hcz30_1, hfz30_0, hfz30_1⟩ := blk2 BK121
     go_wp2
     refine bodyPost_ret (results_ct rfl _ _ gb121 24 #[.int .i64 0, .slice none 0 0] (0, 0) _ rfl (bp_ BK121) Try.underlying24 rfl (by kernel_rfl)) rfl ?_
     exact ⟨_, by first | rfl | (simp [errW_none, errW_some] <;> rfl) | (simp [*, errW_none, errW_some] <;> rfl), by first | exact Kd.R_nil _ _ _ _ _ | exact Kd.N_nil _ _ _ _ _ | exact Kd.V_nil _ _ _ _ _ | exact Kd.Q_nil _ _ _ _ _ | exact Kd.S_nil _ _ _ _ _, by repeat (first | (with_reducible first | exact HB.out | apply below_alloc | apply pw_below_drewN | apply below_drew1 | refine below_set ?_ GE119.out | refine below_set ?_ GE120.out | refine below_set ?_ GE121.out) | exact HB.out)⟩
    ·replace c27 := Bool.eq_false_iff.mpr c27
     subst c27
     have H1 : (if a2 = 1 then (if (l0_1.length : Int) = 4 then (some (0, ([] : List (S26)), 4)) else ((api_Link_25.f l0_1 (l0_1.length : Int) a1_0 a1_1).bind fun t124 => (some (wrap64 (a4 + 1), t124, 0)))) else (if a2 = 3 then (link_Attach.j1 kj7 a3 a4 (0 + 1) a0_0 l0_1 a1_0 a1_1) else (if a2 = 2 then (link_Attach.j1 kj7 a3 a4 0 a0_0 l0_1 a1_0 a1_1) else (if (l0_1.length : Int) = 4 then (some (0, ([] : List (S26)), 4)) else ((api_Link_25.f l0_1 0 a1_0 a1_1).bind fun t127 => (some (wrap64 (a4 + 1), t127, 0))))))) = some (r1, r2, r3) := by rw [if_neg (show ¬ (false = true) by decide)] at H; exact H
     clear H
     have H := H1
     clear H1
     have HC31 := Aside0.mk H
     clear H
     go_upto_block 3 with (fail)
     go_cut [13] (fun v13 wc => ∃ (kq : Nat) (x13_30 : Int), v13 = .int .i64 x13_30 ∧ Aside0 (link_Attach.j1 kq a3 a4 x13_30 a0_0 l0_1 a1_0 a1_1 = some (r1, r2, r3)) ∧ Aside0 (kq ≤ kj7) ∧ Aside0 (wc.heap[gb119]? = some (.cells #[.int .i64 a0_0, (.slice A0_1 l0_1.length c0_1)] 24 (0, 0))) ∧ Aside0 (wc.heap[gb120]? = some (.cells #[.int .i64 a1_0, .int .i64 a1_1] 26 (0, 0))) ∧ Aside0 (wc.heap[gb121]? = some (.cells #[.int .i64 0, (.slice none 0 0)] 24 (0, 0))) ∧ Aside0 (Below w.heap.size w wc))
     case first =>
      have H := HC31.out
      clear HC31
      by_cases c32 : a2 = 1
      ·rw [if_pos c32] at H
       have c32b0 : (a2 == 1) = true := beq_iff_eq.mpr c32
       have c32b1 : (a2 != 1) = false := bne_eq_false_iff_eq.mpr c32
       clear c32
       (first | rw [c32b0] | (simp only [i64_w, i32_w]; rw [c32b0]) | skip)
       by_cases c33 : (l0_1.length : Int) = 4
       ·rw [if_pos c33] at H
        have c33b0 : ((l0_1.length : Int) == 4) = true := beq_iff_eq.mpr c33
        have c33b1 : ((l0_1.length : Int) != 4) = false := bne_eq_false_iff_eq.mpr c33
        clear c33
        simp only [Option.some.injEq, Prod.mk.injEq] at H
        obtain ⟨rfl, rfl, rfl⟩ := H
        have hnb34 := NB119_120.out
        have hnc34 := NB120_119.out
        have hnb35 := NB119_121.out
        have hnc35 := NB121_119.out
        obtain ⟨hcz36_0, hcz36_1, hfz36_0, hfz36_1⟩ := blk2 BK119
        have hnb37 := NB121_120.out
        have hnc37 := NB120_121.out
        obtain ⟨hcz38_0, hcz38_1, hfz38_0, hfz38_1⟩ := blk2 BK121
        go_wp2
        refine bodyPost_ret (results_ct rfl _ _ gb121 24 #[.int .i64 0, .slice none 0 0] (0, 0) _ rfl (bp_ BK121) Try.underlying24 rfl (by kernel_rfl)) rfl ?_
        exact ⟨_, by first | rfl | (simp [errW_none, errW_some] <;> rfl) | (simp [*, errW_none, errW_some] <;> rfl), by first | exact Kd.R_nil _ _ _ _ _ | exact Kd.N_nil _ _ _ _ _ | exact Kd.V_nil _ _ _ _ _ | exact Kd.Q_nil _ _ _ _ _ | exact Kd.S_nil _ _ _ _ _, by repeat (first | (with_reducible first | exact HB.out | apply below_alloc | apply pw_below_drewN | apply below_drew1 | refine below_set ?_ GE119.out | refine below_set ?_ GE120.out | refine below_set ?_ GE121.out) | exact HB.out)⟩
       ·rw [if_neg c33] at H
        have c33b0 : ((l0_1.length : Int) == 4) = false := beq_eq_false_iff_ne.mpr c33
        have c33b1 : ((l0_1.length : Int) != 4) = true := bne_iff_ne.mpr c33
        replace H := Option.bind_eq_some_iff.mp H
        obtain ⟨t124, A390, H⟩ := H
        replace H : (some (wrap64 (a4 + 1), t124, 0)) = some (r1, r2, r3) := H
        have A39 := Aside0.mk A390
        clear A390
        simp only [Option.some.injEq, Prod.mk.injEq] at H
        obtain ⟨rfl, rfl, rfl⟩ := H
        have hnb40 := NB119_120.out
        have hnc40 := NB120_119.out
        have hnb41 := NB119_121.out
        have hnc41 := NB121_119.out
        obtain ⟨hcz42_0, hcz42_1, hfz42_0, hfz42_1⟩ := blk2 BK119
        have hnb43 := NB120_121.out
        have hnc43 := NB121_120.out
        obtain ⟨hcz44_0, hcz44_1, hfz44_0, hfz44_1⟩ := blk2 BK120
        go_wp2_with (first | ((with_reducible refine gate_callee (f := 25) rfl ?_); refine goesL_ (some 69) rfl rfl Try.func25 (by kernel_rfl) rfl #[.slice A0_1 l0_1.length c0_1, .int .i64 (l0_1.length : Int), .agg #[.int .i64 a1_0, .int .i64 a1_1]] rfl (by (try simp only [List.map_toArray, List.map_cons, List.map_nil]); first | done | rfl | (simp only [List.length_drop, List.length_take]; rfl)) ?_; (with_reducible refine (api_Link_25.calls _ _ l0_1 (l0_1.length : Int) a1_0 a1_1 t124 _ ?side1 ?side2 A39.out).mono ?_); (case side1 => repeat (first | exact (Kd.C_below HR0_1.out HB.out) | (with_reducible refine Kd.C_alloc ?_ _) | (with_reducible refine Kd.C_drewN ?_ _) | (with_reducible refine Kd.C_drew ?_))); (case side2 => exact HC0_1.out); rintro e w45 ⟨v125, rfl, ho0, hb⟩; refine ⟨_, rfl, ?_⟩; have n0_ := Aside0.mk (Kd.R_lower (Kd.R_newB ho0 (g := gb120) (o := .cells #[.int .i64 a1_0, .int .i64 a1_1] 26 (0, 0)) (by (with_reducible repeat (first | refine blk_drewN ?_ _ | refine blk_drew ?_ | refine blk_alloc ?_ _)); exact BK120.out)) (below_size bs_)); have n1_ := Aside0.mk (blk_below (bk_ BK119) hb); have n2_ := Aside0.mk (blk_below (bk_ BK120) hb); have n3_ := Aside0.mk (blk_below (bk_ BK121) hb); have n4_ := Aside0.mk (below_step bs_ hb); clear BK119 BK120 BK121 HB; have HO126 := n0_; have BK119 := n1_; have BK120 := n2_; have BK121 := n3_; have HB := n4_; clear n0_ n1_ n2_ n3_ n4_; (try clear hb); (try clear hb2); (try clear hk); (try clear hi); (try clear ho0); obtain ⟨Ao46, co46, eo46⟩ := Kd.R_slice HO126.out; subst eo46; obtain ⟨hcz47_0, hcz47_1, hfz47_0, hfz47_1⟩ := blk2 BK121))
        refine bodyPost_ret (results_ct rfl _ _ gb121 24 #[.int .i64 (wrap64 (a4 + 1)), .slice Ao46 t124.length co46] (0, 0) _ rfl (bp_ BK121) Try.underlying24 rfl (by kernel_rfl)) rfl ?_
        exact ⟨_, by first | rfl | (simp [errW_none, errW_some] <;> rfl) | (simp [*, errW_none, errW_some] <;> rfl), by (with_reducible repeat (first | apply Kd.R_alloc | apply Kd.R_drewN | apply Kd.R_drew)); exact Kd.R_mono (far2 gb121 (Kd.R_types HO126.out BK121.out (by decide)) (fun _ hk => hk.2)) (fun _ hk => trivial), by repeat (first | (with_reducible first | exact HB.out | apply below_alloc | apply pw_below_drewN | apply below_drew1 | refine below_set ?_ GE119.out | refine below_set ?_ GE120.out | refine below_set ?_ GE121.out) | exact HB.out)⟩
      ·rw [if_neg c32] at H
       have c32b0 : (a2 == 1) = false := beq_eq_false_iff_ne.mpr c32
       have c32b1 : (a2 != 1) = true := bne_iff_ne.mpr c32
       (first | rw [c32b0] | (simp only [i64_w, i32_w]; rw [c32b0]) | skip)
       by_cases c48 : a2 = 3
       ·rw [if_pos c48] at H
        have c48b0 : (a2 == 3) = true := beq_iff_eq.mpr c48
        have c48b1 : (a2 != 3) = false := bne_eq_false_iff_eq.mpr c48
        clear c48
        have H' := Aside0.mk H
        clear H
        go_wp2
        go_meet
        case rel => exact ⟨_, (0 + 1), (by first | rfl | (simp; done) | (simp [*]; done)), H', ⟨by have := HJ7.out; first | omega | exact Nat.le_refl _⟩, ⟨bk_ BK119⟩, ⟨bk_ BK120⟩, ⟨bk_ BK121⟩, ⟨bs_⟩⟩
       ·rw [if_neg c48] at H
        have c48b0 : (a2 == 3) = false := beq_eq_false_iff_ne.mpr c48
        have c48b1 : (a2 != 3) = true := bne_iff_ne.mpr c48
        by_cases c49 : a2 = 2
        ·rw [if_pos c49] at H
         have c49b0 : (a2 == 2) = true := beq_iff_eq.mpr c49
         have c49b1 : (a2 != 2) = false := bne_eq_false_iff_eq.mpr c49
         clear c49
         have H' := Aside0.mk H
         clear H
         go_wp2
         go_meet
         case rel => exact ⟨_, (0), (by first | rfl | (simp; done) | (simp [*]; done)), H', ⟨by have := HJ7.out; first | omega | exact Nat.le_refl _⟩, ⟨bk_ BK119⟩, ⟨bk_ BK120⟩, ⟨bk_ BK121⟩, ⟨bs_⟩⟩
        ·rw [if_neg c49] at H
         have c49b0 : (a2 == 2) = false := beq_eq_false_iff_ne.mpr c49
         have c49b1 : (a2 != 2) = true := bne_iff_ne.mpr c49
         by_cases c50 : (l0_1.length : Int) = 4
         ·rw [if_pos c50] at H
          have c50b0 : ((l0_1.length : Int) == 4) = true := beq_iff_eq.mpr c50
          have c50b1 : ((l0_1.length : Int) != 4) = false := bne_eq_false_iff_eq.mpr c50
          clear c50
          simp only [Option.some.injEq, Prod.mk.injEq] at H
          obtain ⟨rfl, rfl, rfl⟩ := H
          have hnb51 := NB119_120.out
          have hnc51 := NB120_119.out
          have hnb52 := NB119_121.out
          have hnc52 := NB121_119.out
          obtain ⟨hcz53_0, hcz53_1, hfz53_0, hfz53_1⟩ := blk2 BK119
          have hnb54 := NB121_120.out
          have hnc54 := NB120_121.out
          obtain ⟨hcz55_0, hcz55_1, hfz55_0, hfz55_1⟩ := blk2 BK121
          go_wp2
          refine bodyPost_ret (results_ct rfl _ _ gb121 24 #[.int .i64 0, .slice none 0 0] (0, 0) _ rfl (bp_ BK121) Try.underlying24 rfl (by kernel_rfl)) rfl ?_
          exact ⟨_, by first | rfl | (simp [errW_none, errW_some] <;> rfl) | (simp [*, errW_none, errW_some] <;> rfl), by first | exact Kd.R_nil _ _ _ _ _ | exact Kd.N_nil _ _ _ _ _ | exact Kd.V_nil _ _ _ _ _ | exact Kd.Q_nil _ _ _ _ _ | exact Kd.S_nil _ _ _ _ _, by repeat (first | (with_reducible first | exact HB.out | apply below_alloc | apply pw_below_drewN | apply below_drew1 | refine below_set ?_ GE119.out | refine below_set ?_ GE120.out | refine below_set ?_ GE121.out) | exact HB.out)⟩
         ·rw [if_neg c50] at H
          have c50b0 : ((l0_1.length : Int) == 4) = false := beq_eq_false_iff_ne.mpr c50
          have c50b1 : ((l0_1.length : Int) != 4) = true := bne_iff_ne.mpr c50
          replace H := Option.bind_eq_some_iff.mp H
          obtain ⟨t127, A560, H⟩ := H
          replace H : (some (wrap64 (a4 + 1), t127, 0)) = some (r1, r2, r3) := H
          have A56 := Aside0.mk A560
          clear A560
          simp only [Option.some.injEq, Prod.mk.injEq] at H
          obtain ⟨rfl, rfl, rfl⟩ := H
          have hnb57 := NB119_120.out
          have hnc57 := NB120_119.out
          have hnb58 := NB119_121.out
          have hnc58 := NB121_119.out
          obtain ⟨hcz59_0, hcz59_1, hfz59_0, hfz59_1⟩ := blk2 BK119
          have hnb60 := NB120_121.out
          have hnc60 := NB121_120.out
          obtain ⟨hcz61_0, hcz61_1, hfz61_0, hfz61_1⟩ := blk2 BK120
          go_wp2_with (first | ((with_reducible refine gate_callee (f := 25) rfl ?_); refine goesL_ (some 69) rfl rfl Try.func25 (by kernel_rfl) rfl #[.slice A0_1 l0_1.length c0_1, .int .i64 0, .agg #[.int .i64 a1_0, .int .i64 a1_1]] rfl (by (try simp only [List.map_toArray, List.map_cons, List.map_nil]); first | done | rfl | (simp only [List.length_drop, List.length_take]; rfl)) ?_; (with_reducible refine (api_Link_25.calls _ _ l0_1 0 a1_0 a1_1 t127 _ ?side1 ?side2 A56.out).mono ?_); (case side1 => repeat (first | exact (Kd.C_below HR0_1.out HB.out) | (with_reducible refine Kd.C_alloc ?_ _) | (with_reducible refine Kd.C_drewN ?_ _) | (with_reducible refine Kd.C_drew ?_))); (case side2 => exact HC0_1.out); rintro e w62 ⟨v128, rfl, ho0, hb⟩; refine ⟨_, rfl, ?_⟩; have n0_ := Aside0.mk (Kd.R_lower (Kd.R_newB ho0 (g := gb120) (o := .cells #[.int .i64 a1_0, .int .i64 a1_1] 26 (0, 0)) (by (with_reducible repeat (first | refine blk_drewN ?_ _ | refine blk_drew ?_ | refine blk_alloc ?_ _)); exact BK120.out)) (below_size bs_)); have n1_ := Aside0.mk (blk_below (bk_ BK119) hb); have n2_ := Aside0.mk (blk_below (bk_ BK120) hb); have n3_ := Aside0.mk (blk_below (bk_ BK121) hb); have n4_ := Aside0.mk (below_step bs_ hb); clear BK119 BK120 BK121 HB; have HO129 := n0_; have BK119 := n1_; have BK120 := n2_; have BK121 := n3_; have HB := n4_; clear n0_ n1_ n2_ n3_ n4_; (try clear hb); (try clear hb2); (try clear hk); (try clear hi); (try clear ho0); obtain ⟨Ao63, co63, eo63⟩ := Kd.R_slice HO129.out; subst eo63; obtain ⟨hcz64_0, hcz64_1, hfz64_0, hfz64_1⟩ := blk2 BK121))
          refine bodyPost_ret (results_ct rfl _ _ gb121 24 #[.int .i64 (wrap64 (a4 + 1)), .slice Ao63 t127.length co63] (0, 0) _ rfl (bp_ BK121) Try.underlying24 rfl (by kernel_rfl)) rfl ?_
          exact ⟨_, by first | rfl | (simp [errW_none, errW_some] <;> rfl) | (simp [*, errW_none, errW_some] <;> rfl), by (with_reducible repeat (first | apply Kd.R_alloc | apply Kd.R_drewN | apply Kd.R_drew)); exact Kd.R_mono (far2 gb121 (Kd.R_types HO129.out BK121.out (by decide)) (fun _ hk => hk.2)) (fun _ hk => trivial), by repeat (first | (with_reducible first | exact HB.out | apply below_alloc | apply pw_below_drewN | apply below_drew1 | refine below_set ?_ GE119.out | refine below_set ?_ GE120.out | refine below_set ?_ GE121.out) | exact HB.out)⟩
     case rest =>
      clear HC31
      try clear c7
      try clear c7b0
      try clear c7b1
      try clear c27
      try clear hcz14_0
      try clear hcz14_1
      try clear hcz16_0
      try clear hcz16_1
      try clear hfz14_0
      try clear hfz14_1
      try clear hfz16_0
      try clear hfz16_1
      obtain ⟨kq, x13_30, rfl, HA, HJ30, BK119, BK120, BK121, HB⟩ := hcut
      cases kq with
      | zero => exact absurd HA.out (by simp [link_Attach.j1])
      | succ kj30 =>
       have H := HA.out
       clear HA
       simp only [link_Attach.j1] at H
       replace H := Option.bind_eq_some_iff.mp H
       obtain ⟨t130, A650, H⟩ := H
       replace H : (if t130 < 0 then (some (0, ([] : List (S26)), 3)) else (if (l0_1.length : Int) = 4 then (some (0, ([] : List (S26)), 4)) else ((api_Link_25.f l0_1 (wrap64 (x13_30 + t130)) a1_0 a1_1).bind fun t131 => (some (wrap64 (a4 + 1), t131, 0))))) = some (r1, r2, r3) := H
       have A65 := Aside0.mk A650
       clear A650
       by_cases c66 : t130 < 0
       ·rw [if_pos c66] at H
        have c66b0 : decide (t130 < 0) = true := decide_eq_true c66
        clear c66
        simp only [Option.some.injEq, Prod.mk.injEq] at H
        obtain ⟨rfl, rfl, rfl⟩ := H
        have hnb67 := NB119_120.out
        have hnc67 := NB120_119.out
        have hnb68 := NB119_121.out
        have hnc68 := NB121_119.out
        obtain ⟨hcz69_0, hcz69_1, hfz69_0, hfz69_1⟩ := blk2 BK119
        go_wp2_with (first | ((with_reducible refine gate_callee (f := 24) rfl ?_); refine goesL_ (some 51) rfl rfl Try.func24 (by kernel_rfl) rfl #[.agg #[.int .i64 a0_0, .slice A0_1 l0_1.length c0_1], .int .i64 a3] rfl (by (try simp only [List.map_toArray, List.map_cons, List.map_nil]); first | done | rfl | (simp only [List.length_drop, List.length_take]; rfl)) ?_; (with_reducible refine (link_find.calls a0_0 _ _ l0_1 a3 t130 _ ?side1 ?side2 A65.out).mono ?_); (case side1 => repeat (first | exact (Kd.C_below HR0_1.out HB.out) | (with_reducible refine Kd.C_alloc ?_ _) | (with_reducible refine Kd.C_drewN ?_ _) | (with_reducible refine Kd.C_drew ?_))); (case side2 => exact HC0_1.out); rintro e w70 ⟨rfl, hb⟩; refine ⟨_, rfl, ?_⟩; have n0_ := Aside0.mk (blk_below (bk_ BK119) hb); have n1_ := Aside0.mk (blk_below (bk_ BK120) hb); have n2_ := Aside0.mk (blk_below (bk_ BK121) hb); have n3_ := Aside0.mk (below_step bs_ hb); clear BK119 BK120 BK121 HB; have BK119 := n0_; have BK120 := n1_; have BK121 := n2_; have HB := n3_; clear n0_ n1_ n2_ n3_; (try clear hb); (try clear hb2); (try clear hk); (try clear hi); have hnb71 := NB121_120.out; have hnc71 := NB120_121.out; obtain ⟨hcz72_0, hcz72_1, hfz72_0, hfz72_1⟩ := blk2 BK121))
        refine bodyPost_ret (results_ct rfl _ _ gb121 24 #[.int .i64 0, .slice none 0 0] (0, 0) _ rfl (bp_ BK121) Try.underlying24 rfl (by kernel_rfl)) rfl ?_
        exact ⟨_, by first | rfl | (simp [errW_none, errW_some] <;> rfl) | (simp [*, errW_none, errW_some] <;> rfl), by first | exact Kd.R_nil _ _ _ _ _ | exact Kd.N_nil _ _ _ _ _ | exact Kd.V_nil _ _ _ _ _ | exact Kd.Q_nil _ _ _ _ _ | exact Kd.S_nil _ _ _ _ _, by repeat (first | (with_reducible first | exact HB.out | apply below_alloc | apply pw_below_drewN | apply below_drew1 | refine below_set ?_ GE119.out | refine below_set ?_ GE120.out | refine below_set ?_ GE121.out) | exact HB.out)⟩
       ·rw [if_neg c66] at H
        have c66b0 : decide (t130 < 0) = false := decide_eq_false c66
        clear c66
        by_cases c73 : (l0_1.length : Int) = 4
        ·rw [if_pos c73] at H
         have c73b0 : ((l0_1.length : Int) == 4) = true := beq_iff_eq.mpr c73
         have c73b1 : ((l0_1.length : Int) != 4) = false := bne_eq_false_iff_eq.mpr c73
         clear c73
         simp only [Option.some.injEq, Prod.mk.injEq] at H
         obtain ⟨rfl, rfl, rfl⟩ := H
         have hnb74 := NB119_120.out
         have hnc74 := NB120_119.out
         have hnb75 := NB119_121.out
         have hnc75 := NB121_119.out
         obtain ⟨hcz76_0, hcz76_1, hfz76_0, hfz76_1⟩ := blk2 BK119
         go_wp2_with (first | ((with_reducible refine gate_callee (f := 24) rfl ?_); refine goesL_ (some 51) rfl rfl Try.func24 (by kernel_rfl) rfl #[.agg #[.int .i64 a0_0, .slice A0_1 l0_1.length c0_1], .int .i64 a3] rfl (by (try simp only [List.map_toArray, List.map_cons, List.map_nil]); first | done | rfl | (simp only [List.length_drop, List.length_take]; rfl)) ?_; (with_reducible refine (link_find.calls a0_0 _ _ l0_1 a3 t130 _ ?side1 ?side2 A65.out).mono ?_); (case side1 => repeat (first | exact (Kd.C_below HR0_1.out HB.out) | (with_reducible refine Kd.C_alloc ?_ _) | (with_reducible refine Kd.C_drewN ?_ _) | (with_reducible refine Kd.C_drew ?_))); (case side2 => exact HC0_1.out); rintro e w77 ⟨rfl, hb⟩; refine ⟨_, rfl, ?_⟩; have n0_ := Aside0.mk (blk_below (bk_ BK119) hb); have n1_ := Aside0.mk (blk_below (bk_ BK120) hb); have n2_ := Aside0.mk (blk_below (bk_ BK121) hb); have n3_ := Aside0.mk (below_step bs_ hb); clear BK119 BK120 BK121 HB; have BK119 := n0_; have BK120 := n1_; have BK121 := n2_; have HB := n3_; clear n0_ n1_ n2_ n3_; (try clear hb); (try clear hb2); (try clear hk); (try clear hi); obtain ⟨hcz78_0, hcz78_1, hfz78_0, hfz78_1⟩ := blk2 BK119; have hnb79 := NB121_120.out; have hnc79 := NB120_121.out; obtain ⟨hcz80_0, hcz80_1, hfz80_0, hfz80_1⟩ := blk2 BK121))
         refine bodyPost_ret (results_ct rfl _ _ gb121 24 #[.int .i64 0, .slice none 0 0] (0, 0) _ rfl (bp_ BK121) Try.underlying24 rfl (by kernel_rfl)) rfl ?_
         exact ⟨_, by first | rfl | (simp [errW_none, errW_some] <;> rfl) | (simp [*, errW_none, errW_some] <;> rfl), by first | exact Kd.R_nil _ _ _ _ _ | exact Kd.N_nil _ _ _ _ _ | exact Kd.V_nil _ _ _ _ _ | exact Kd.Q_nil _ _ _ _ _ | exact Kd.S_nil _ _ _ _ _, by repeat (first | (with_reducible first | exact HB.out | apply below_alloc | apply pw_below_drewN | apply below_drew1 | refine below_set ?_ GE119.out | refine below_set ?_ GE120.out | refine below_set ?_ GE121.out) | exact HB.out)⟩
        ·rw [if_neg c73] at H
         have c73b0 : ((l0_1.length : Int) == 4) = false := beq_eq_false_iff_ne.mpr c73
         have c73b1 : ((l0_1.length : Int) != 4) = true := bne_iff_ne.mpr c73
         replace H := Option.bind_eq_some_iff.mp H
         obtain ⟨t131, A810, H⟩ := H
         replace H : (some (wrap64 (a4 + 1), t131, 0)) = some (r1, r2, r3) := H
         have A81 := Aside0.mk A810
         clear A810
         simp only [Option.some.injEq, Prod.mk.injEq] at H
         obtain ⟨rfl, rfl, rfl⟩ := H
         have hnb82 := NB119_120.out
         have hnc82 := NB120_119.out
         have hnb83 := NB119_121.out
         have hnc83 := NB121_119.out
         obtain ⟨hcz84_0, hcz84_1, hfz84_0, hfz84_1⟩ := blk2 BK119
         go_wp2_with (first | ((with_reducible refine gate_callee (f := 24) rfl ?_); refine goesL_ (some 51) rfl rfl Try.func24 (by kernel_rfl) rfl #[.agg #[.int .i64 a0_0, .slice A0_1 l0_1.length c0_1], .int .i64 a3] rfl (by (try simp only [List.map_toArray, List.map_cons, List.map_nil]); first | done | rfl | (simp only [List.length_drop, List.length_take]; rfl)) ?_; (with_reducible refine (link_find.calls a0_0 _ _ l0_1 a3 t130 _ ?side1 ?side2 A65.out).mono ?_); (case side1 => repeat (first | exact (Kd.C_below HR0_1.out HB.out) | (with_reducible refine Kd.C_alloc ?_ _) | (with_reducible refine Kd.C_drewN ?_ _) | (with_reducible refine Kd.C_drew ?_))); (case side2 => exact HC0_1.out); rintro e w85 ⟨rfl, hb⟩; refine ⟨_, rfl, ?_⟩; have n0_ := Aside0.mk (blk_below (bk_ BK119) hb); have n1_ := Aside0.mk (blk_below (bk_ BK120) hb); have n2_ := Aside0.mk (blk_below (bk_ BK121) hb); have n3_ := Aside0.mk (below_step bs_ hb); clear BK119 BK120 BK121 HB; have BK119 := n0_; have BK120 := n1_; have BK121 := n2_; have HB := n3_; clear n0_ n1_ n2_ n3_; (try clear hb); (try clear hb2); (try clear hk); (try clear hi); obtain ⟨hcz86_0, hcz86_1, hfz86_0, hfz86_1⟩ := blk2 BK119; have hnb87 := NB120_121.out; have hnc87 := NB121_120.out; obtain ⟨hcz88_0, hcz88_1, hfz88_0, hfz88_1⟩ := blk2 BK120) | ((with_reducible refine gate_callee (f := 25) rfl ?_); refine goesL_ (some 69) rfl rfl Try.func25 (by kernel_rfl) rfl #[.slice A0_1 l0_1.length c0_1, .int .i64 (wrap64 (x13_30 + t130)), .agg #[.int .i64 a1_0, .int .i64 a1_1]] rfl (by (try simp only [List.map_toArray, List.map_cons, List.map_nil]); first | done | rfl | (simp only [List.length_drop, List.length_take]; rfl)) ?_; (with_reducible refine (api_Link_25.calls _ _ l0_1 (wrap64 (x13_30 + t130)) a1_0 a1_1 t131 _ ?side1 ?side2 A81.out).mono ?_); (case side1 => repeat (first | exact (Kd.C_below HR0_1.out HB.out) | (with_reducible refine Kd.C_alloc ?_ _) | (with_reducible refine Kd.C_drewN ?_ _) | (with_reducible refine Kd.C_drew ?_))); (case side2 => exact HC0_1.out); rintro e w89 ⟨v132, rfl, ho0, hb⟩; refine ⟨_, rfl, ?_⟩; have n0_ := Aside0.mk (Kd.R_lower (Kd.R_newB ho0 (g := gb120) (o := .cells #[.int .i64 a1_0, .int .i64 a1_1] 26 (0, 0)) (by (with_reducible repeat (first | refine blk_drewN ?_ _ | refine blk_drew ?_ | refine blk_alloc ?_ _)); exact BK120.out)) (below_size bs_)); have n1_ := Aside0.mk (blk_below (bk_ BK119) hb); have n2_ := Aside0.mk (blk_below (bk_ BK120) hb); have n3_ := Aside0.mk (blk_below (bk_ BK121) hb); have n4_ := Aside0.mk (below_step bs_ hb); clear BK119 BK120 BK121 HB; have HO133 := n0_; have BK119 := n1_; have BK120 := n2_; have BK121 := n3_; have HB := n4_; clear n0_ n1_ n2_ n3_ n4_; (try clear hb); (try clear hb2); (try clear hk); (try clear hi); (try clear ho0); obtain ⟨Ao90, co90, eo90⟩ := Kd.R_slice HO133.out; subst eo90; obtain ⟨hcz91_0, hcz91_1, hfz91_0, hfz91_1⟩ := blk2 BK121))
         refine bodyPost_ret (results_ct rfl _ _ gb121 24 #[.int .i64 (wrap64 (a4 + 1)), .slice Ao90 t131.length co90] (0, 0) _ rfl (bp_ BK121) Try.underlying24 rfl (by kernel_rfl)) rfl ?_
         exact ⟨_, by first | rfl | (simp [errW_none, errW_some] <;> rfl) | (simp [*, errW_none, errW_some] <;> rfl), by (with_reducible repeat (first | apply Kd.R_alloc | apply Kd.R_drewN | apply Kd.R_drew)); exact Kd.R_mono (far2 gb121 (Kd.R_types HO133.out BK121.out (by decide)) (fun _ hk => hk.2)) (fun _ hk => trivial), by repeat (first | (with_reducible first | exact HB.out | apply below_alloc | apply pw_below_drewN | apply below_drew1 | refine below_set ?_ GE119.out | refine below_set ?_ GE120.out | refine below_set ?_ GE121.out) | exact HB.out)⟩
 ·rw [if_neg c7] at H
  have c7b0 : (t122 == 0) = false := beq_eq_false_iff_ne.mpr c7
  have c7b1 : (t122 != 0) = true := bne_iff_ne.mpr c7
  simp only [Option.some.injEq, Prod.mk.injEq] at H
  obtain ⟨rfl, rfl, rfl⟩ := H
  go_enter Try.func12, Try.ntmps12
  go_wp2_with (first | ((with_reducible refine gate_dst (N := 5) rfl ?_); refine box_event ?hg (N := 5) ?hd (cs := #[.int .i64 a0_0, .slice A0_1 l0_1.length c0_1]) (t := 24) ?hr ?_; (case hd => rfl); (case hg => rfl); (case hr => first | (go_simp; done) | (go_simp; rfl)); intro gb119 hg w92 hbox hb; have n0_ := Aside0.mk (below_step bs_ hb); have n1_ := Aside0.mk (hbox); have n2_ := Aside0.mk ((by rw [hg]; exact (below_size bs_) : w.heap.size ≤ gb119)); have n3_ := Aside0.mk ((by rw [hg]; exact (below_size bs_) : w.heap.size ≤ gb119)); clear HB; have HB := n0_; have BK119 := n1_; have GW119 := n2_; have GE119 := n3_; clear n0_ n1_ n2_ n3_; clear hb hbox hg) | ((with_reducible refine gate_dst (N := 6) rfl ?_); refine box_event ?hg (N := 6) ?hd (cs := #[.int .i64 a1_0, .int .i64 a1_1]) (t := 26) ?hr ?_; (case hd => rfl); (case hg => rfl); (case hr => first | (go_simp; done) | (go_simp; rfl)); intro gb120 hg w93 hbox hb; have n0_ := Aside0.mk (blk_below (bk_ BK119) hb); have n1_ := Aside0.mk (below_step bs_ hb); have n2_ := Aside0.mk (hbox); have n3_ := Aside0.mk ((by rw [hg]; exact (below_size bs_) : w.heap.size ≤ gb120)); have n4_ := Aside0.mk ((by rw [hg]; exact (below_size bs_) : w.heap.size ≤ gb120)); have n5_ := Aside0.mk ((by rw [hg]; exact Nat.ne_of_lt (blk_lt (bk_ BK119)) : gb119 ≠ gb120)); have n6_ := Aside0.mk ((by rw [hg]; exact Nat.ne_of_gt (blk_lt (bk_ BK119)) : gb120 ≠ gb119)); clear BK119 HB; have BK119 := n0_; have HB := n1_; have BK120 := n2_; have GW120 := n3_; have GE120 := n4_; have NB119_120 := n5_; have NB120_119 := n6_; clear n0_ n1_ n2_ n3_ n4_ n5_ n6_; clear hb hbox hg) | ((with_reducible refine gate_dst (N := 10) rfl ?_); refine box_event ?hg (N := 10) ?hd (cs := #[.int .i64 0, .slice none 0 0]) (t := 24) ?hr ?_; (case hd => rfl); (case hg => rfl); (case hr => first | (go_simp; done) | (go_simp; rfl)); intro gb121 hg w94 hbox hb; have n0_ := Aside0.mk (blk_below (bk_ BK119) hb); have n1_ := Aside0.mk (blk_below (bk_ BK120) hb); have n2_ := Aside0.mk (below_step bs_ hb); have n3_ := Aside0.mk (hbox); have n4_ := Aside0.mk ((by rw [hg]; exact (below_size bs_) : w.heap.size ≤ gb121)); have n5_ := Aside0.mk ((by rw [hg]; exact (below_size bs_) : w.heap.size ≤ gb121)); have n6_ := Aside0.mk ((by rw [hg]; exact Nat.ne_of_lt (blk_lt (bk_ BK119)) : gb119 ≠ gb121)); have n7_ := Aside0.mk ((by rw [hg]; exact Nat.ne_of_gt (blk_lt (bk_ BK119)) : gb121 ≠ gb119)); have n8_ := Aside0.mk ((by rw [hg]; exact Nat.ne_of_lt (blk_lt (bk_ BK120)) : gb120 ≠ gb121)); have n9_ := Aside0.mk ((by rw [hg]; exact Nat.ne_of_gt (blk_lt (bk_ BK120)) : gb121 ≠ gb120)); clear BK119 BK120 HB; have BK119 := n0_; have BK120 := n1_; have HB := n2_; have BK121 := n3_; have GW121 := n4_; have GE121 := n5_; have NB119_121 := n6_; have NB121_119 := n7_; have NB120_121 := n8_; have NB121_120 := n9_; clear n0_ n1_ n2_ n3_ n4_ n5_ n6_ n7_ n8_ n9_; clear hb hbox hg; have hnb95 := NB119_120.out; have hnc95 := NB120_119.out; have hnb96 := NB119_121.out; have hnc96 := NB121_119.out; obtain ⟨hcz97_0, hcz97_1, hfz97_0, hfz97_1⟩ := blk2 BK119; have hnb98 := NB120_121.out; have hnc98 := NB121_120.out; obtain ⟨hcz99_0, hcz99_1, hfz99_0, hfz99_1⟩ := blk2 BK120) | ((with_reducible refine gate_callee (f := 23) rfl ?_); refine goesL_ (some 18) rfl rfl Try.func23 (by kernel_rfl) rfl #[.agg #[.int .i64 a0_0, .slice A0_1 l0_1.length c0_1], .agg #[.int .i64 a1_0, .int .i64 a1_1], .int .i64 a4] rfl (by (try simp only [List.map_toArray, List.map_cons, List.map_nil]); first | done | rfl | (simp only [List.length_drop, List.length_take]; rfl)) ?_; (with_reducible refine (link_may.calls k a0_0 _ _ l0_1 a1_0 a1_1 a4 t122 _ ?side1 ?side2 A6.out).mono ?_); (case side1 => repeat (first | exact (Kd.C_below HR0_1.out HB.out) | (with_reducible refine Kd.C_alloc ?_ _) | (with_reducible refine Kd.C_drewN ?_ _) | (with_reducible refine Kd.C_drew ?_))); (case side2 => exact HC0_1.out); rintro e w100 ⟨rfl, hb⟩; refine ⟨_, rfl, ?_⟩; have n0_ := Aside0.mk (blk_below (bk_ BK119) hb); have n1_ := Aside0.mk (blk_below (bk_ BK120) hb); have n2_ := Aside0.mk (blk_below (bk_ BK121) hb); have n3_ := Aside0.mk (below_step bs_ hb); clear BK119 BK120 BK121 HB; have BK119 := n0_; have BK120 := n1_; have BK121 := n2_; have HB := n3_; clear n0_ n1_ n2_ n3_; (try clear hb); (try clear hb2); (try clear hk); (try clear hi); obtain ⟨hcz101_0, hcz101_1, hfz101_0, hfz101_1⟩ := blk2 BK121))
  refine bodyPost_ret (results_ct rfl _ _ gb121 24 #[.int .i64 0, .slice none 0 0] (0, 0) _ rfl (bp_ BK121) Try.underlying24 rfl (by kernel_rfl)) rfl ?_
  exact ⟨_, by first | rfl | (simp [errW_none, errW_some] <;> rfl) | (simp [*, errW_none, errW_some] <;> rfl), by first | exact Kd.R_nil _ _ _ _ _ | exact Kd.N_nil _ _ _ _ _ | exact Kd.V_nil _ _ _ _ _ | exact Kd.Q_nil _ _ _ _ _ | exact Kd.S_nil _ _ _ _ _, by repeat (first | (with_reducible first | exact HB.out | apply below_alloc | apply pw_below_drewN | apply below_drew1 | refine below_set ?_ GE119.out | refine below_set ?_ GE120.out | refine below_set ?_ GE121.out) | exact HB.out)⟩

end Go.Proofs.Ytoehingbhmaidaa.P
