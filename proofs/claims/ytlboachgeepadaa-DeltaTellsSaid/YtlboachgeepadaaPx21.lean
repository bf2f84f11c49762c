-- Written by a program of this session over the kit's print of the translation. Lean checks it.
import Derived.Test.YtlboachgeepadaaPx0
import Derived.Test.YtlboachgeepadaaPx2
-- shorter
namespace Go.Proofs.Ytlboachgeepadaa.P
open Go.RowKit Go.Proofs.YtlboachgeepadaaW.PrintWords Go.Proofs.YtlboachgeepadaaW.PrintLast Go.Proofs.YtlboachgeepadaaW.PrintMore
attribute [local go_sem] max2_int min2_int max_two min_two max_three min_three max_four min_four   -- for this text's walks alone
set_option linter.unusedVariables false
set_option linter.unusedSimpArgs false

attribute [local go_sem high] eqA72
/-! ### drydockref03_Same: function 33 -/
mutual
def drydockref03_Same.l0 : Nat → Int → List (S61) → List (S61) → Option (Bool)
  | 0, _, _, _ => none
  | k + 1, x5, x306000, x307000 => if x5 < (x306000.length : Int) then (if 0 ≤ x5 then (if x5 < (x307000.length : Int) then (if ((rd_T61 x306000 x5).f0) = ((rd_T61 x307000 x5).f0) then (drydockref03_Same.j1 k x5 ((((rd_T61 x306000 x5).f1).length : Int) != (((rd_T61 x307000 x5).f1).length : Int)) x306000 x307000 ((rd_T61 x306000 x5).f0) ((rd_T61 x306000 x5).f1) ((rd_T61 x307000 x5).f0) ((rd_T61 x307000 x5).f1)) else (drydockref03_Same.j1 k x5 true x306000 x307000 ((rd_T61 x306000 x5).f0) ((rd_T61 x306000 x5).f1) ((rd_T61 x307000 x5).f0) ((rd_T61 x307000 x5).f1))) else (none)) else (none)) else (some true)
def drydockref03_Same.j1 : Nat → Int → Bool → List (S61) → List (S61) → Int → List (S72) → Int → List (S72) → Option (Bool)
  | 0, _, _, _, _, _, _, _, _ => none
  | k + 1, x5, x46, x306000, x307000, x309000, x309001, x311000, x311001 => if x46 = true then (some false) else (drydockref03_Same.l1 k x5 0 x306000 x307000 x309000 x309001 x311000 x311001)
def drydockref03_Same.l1 : Nat → Int → Int → List (S61) → List (S61) → Int → List (S72) → Int → List (S72) → Option (Bool)
  | 0, _, _, _, _, _, _, _, _ => none
  | k + 1, x5, x8, x306000, x307000, x309000, x309001, x311000, x311001 => if x8 < (x309001.length : Int) then (if 0 ≤ x8 then (if x8 < (x311001.length : Int) then (if (!(((rd_T72 x309001 x8).f0) == ((rd_T72 x311001 x8).f0)) || (!(((rd_T72 x309001 x8).f1) == ((rd_T72 x311001 x8).f1)) || (!(((rd_T72 x309001 x8).f2) == ((rd_T72 x311001 x8).f2)) || (!(((rd_T72 x309001 x8).f3) == ((rd_T72 x311001 x8).f3)) || (!(((rd_T72 x309001 x8).f4) == ((rd_T72 x311001 x8).f4)) || (!(((rd_T72 x309001 x8).f5) == ((rd_T72 x311001 x8).f5)) || (!(((rd_T72 x309001 x8).f6) == ((rd_T72 x311001 x8).f6))))))))) = true then (some false) else (drydockref03_Same.l1 k x5 (wrap64 (x8 + 1)) x306000 x307000 x309000 x309001 x311000 x311001)) else (none)) else (none)) else (drydockref03_Same.l0 k (wrap64 (x5 + 1)) x306000 x307000)
end
def drydockref03_Same.f (k : Nat) (l0_0 : List (S61)) (l1_0 : List (S61)) : Option (Bool) := if (l0_0.length : Int) = (l1_0.length : Int) then (drydockref03_Same.l0 k 0 l0_0 l1_0) else (some false)
theorem drydockref03_Same.mono_l : ∀ k, (∀ y0 y1 y2, LeO (drydockref03_Same.l0 k y0 y1 y2) (drydockref03_Same.l0 (k + 1) y0 y1 y2)) ∧ (∀ y0 y1 y2 y3 y4 y5 y6 y7, LeO (drydockref03_Same.j1 k y0 y1 y2 y3 y4 y5 y6 y7) (drydockref03_Same.j1 (k + 1) y0 y1 y2 y3 y4 y5 y6 y7)) ∧ (∀ y0 y1 y2 y3 y4 y5 y6 y7, LeO (drydockref03_Same.l1 k y0 y1 y2 y3 y4 y5 y6 y7) (drydockref03_Same.l1 (k + 1) y0 y1 y2 y3 y4 y5 y6 y7))
  | 0 => ⟨fun _ _ _ r h => by simp [drydockref03_Same.l0] at h, fun _ _ _ _ _ _ _ _ r h => by simp [drydockref03_Same.j1] at h, fun _ _ _ _ _ _ _ _ r h => by simp [drydockref03_Same.l1] at h⟩
  | k + 1 => by
    obtain ⟨ih0, ih1, ih2⟩ := drydockref03_Same.mono_l k
    refine ⟨?_, ?_, ?_⟩
    · intro y0 y1 y2
      unfold drydockref03_Same.l0
      repeat' first
      | (with_reducible exact ih0 _ _ _)
      | (with_reducible exact ih1 _ _ _ _ _ _ _ _)
      | (with_reducible exact ih2 _ _ _ _ _ _ _ _)
      | (with_reducible exact LeO.refl _)
      | (with_reducible exact LeO.none _)
      | (with_reducible refine LeO.ite ?_ ?_)
      | (with_reducible refine LeO.bind ?_ (fun _ => ?_))
      | exact ih0 _ _ _
      | exact ih1 _ _ _ _ _ _ _ _
      | exact ih2 _ _ _ _ _ _ _ _
      | exact LeO.none _
      | refine LeO.ite ?_ ?_
      | refine LeO.bind ?_ (fun _ => ?_)
    · intro y0 y1 y2 y3 y4 y5 y6 y7
      unfold drydockref03_Same.j1
      repeat' first
      | (with_reducible exact ih0 _ _ _)
      | (with_reducible exact ih1 _ _ _ _ _ _ _ _)
      | (with_reducible exact ih2 _ _ _ _ _ _ _ _)
      | (with_reducible exact LeO.refl _)
      | (with_reducible exact LeO.none _)
      | (with_reducible refine LeO.ite ?_ ?_)
      | (with_reducible refine LeO.bind ?_ (fun _ => ?_))
      | exact ih0 _ _ _
      | exact ih1 _ _ _ _ _ _ _ _
      | exact ih2 _ _ _ _ _ _ _ _
      | exact LeO.none _
      | refine LeO.ite ?_ ?_
      | refine LeO.bind ?_ (fun _ => ?_)
    · intro y0 y1 y2 y3 y4 y5 y6 y7
      unfold drydockref03_Same.l1
      repeat' first
      | (with_reducible exact ih0 _ _ _)
      | (with_reducible exact ih1 _ _ _ _ _ _ _ _)
      | (with_reducible exact ih2 _ _ _ _ _ _ _ _)
      | (with_reducible exact LeO.refl _)
      | (with_reducible exact LeO.none _)
      | (with_reducible refine LeO.ite ?_ ?_)
      | (with_reducible refine LeO.bind ?_ (fun _ => ?_))
      | exact ih0 _ _ _
      | exact ih1 _ _ _ _ _ _ _ _
      | exact ih2 _ _ _ _ _ _ _ _
      | exact LeO.none _
      | refine LeO.ite ?_ ?_
      | refine LeO.bind ?_ (fun _ => ?_)
theorem drydockref03_Same.mono : ∀ a0 a1 k, LeO (drydockref03_Same.f k a0 a1) (drydockref03_Same.f (k + 1) a0 a1) := by
 intro a0 a1 k
 obtain ⟨ih0, ih1, ih2⟩ := drydockref03_Same.mono_l k
 unfold drydockref03_Same.f
 repeat' first
  | (with_reducible exact ih0 _ _ _)
  | (with_reducible exact ih1 _ _ _ _ _ _ _ _)
  | (with_reducible exact ih2 _ _ _ _ _ _ _ _)
  | (with_reducible exact LeO.refl _)
  | (with_reducible exact LeO.none _)
  | (with_reducible refine LeO.ite ?_ ?_)
  | (with_reducible refine LeO.bind ?_ (fun _ => ?_))
  | exact ih0 _ _ _
  | exact ih1 _ _ _ _ _ _ _ _
  | exact ih2 _ _ _ _ _ _ _ _
  | exact LeO.none _
  | refine LeO.ite ?_ ?_
  | refine LeO.bind ?_ (fun _ => ?_)
set_option maxHeartbeats 8000000 in
set_option maxRecDepth 100000 in
theorem drydockref03_Same.calls (k : Nat) (A0_0 : Option Addr) (c0_0 : Nat) (l0_0 : List (S61)) (A1_0 : Option Addr) (c1_0 : Nat) (l1_0 : List (S61)) (r : Bool) (w : World) (hr0_0 : Kd.C k61 w A0_0 l0_0.length l0_0) (hc0_0 : l0_0.length ≤ c0_0) (hr1_0 : Kd.C k61 w A1_0 l1_0.length l1_0) (hc1_0 : l1_0.length ≤ c1_0) (h : drydockref03_Same.f k l0_0 l1_0 = some r) :
    Calls Try.prog 33 #[.agg #[.slice A0_0 l0_0.length c0_0], .agg #[.slice A1_0 l1_0.length c1_0]] w fun e w' => e = .returned (.bool r) ∧ Below w.heap.size w w' := by
 have hu37 := Try.underlying37
 have hu61 := Try.underlying61
 have hu72 := Try.underlying72
 have HR0_0 := Aside0.mk hr0_0
 have HC0_0 := Aside0.mk hc0_0
 clear hr0_0 hc0_0
 have HR1_0 := Aside0.mk hr1_0
 have HC1_0 := Aside0.mk hc1_0
 clear hr1_0 hc1_0
 have HB := Aside0.mk (Below.refl w.heap.size w)
 have H : (if (l0_0.length : Int) = (l1_0.length : Int) then (drydockref03_Same.l0 k 0 l0_0 l1_0) else (some false)) = some r := h
 clear h
 by_cases c3 : (l0_0.length : Int) = (l1_0.length : Int)
 ·rw [if_pos c3] at H
  have c3b0 : ((l0_0.length : Int) == (l1_0.length : Int)) = true := beq_iff_eq.mpr c3
  have c3b1 : ((l0_0.length : Int) != (l1_0.length : Int)) = false := bne_eq_false_iff_eq.mpr c3
  have c3b2 : (l0_0.length == l1_0.length) = true := by first | simpa using c3 | (simp at c3 ⊢; omega)
  clear c3
  have H' := Aside0.mk H
  clear H
  go_enter Try.func33, Try.ntmps33
  go_wp2_with (first | ((with_reducible refine gate_dst (N := 2) rfl ?_); (try (refine gate_guard (by rfl) ?_; dsimp only)); refine box_event ?hg (N := 2) ?hd (cs := #[.slice A0_0 l0_0.length c0_0]) (t := 37) ?hr ?_; (case hd => rfl); (case hg => rfl); (case hr => first | (go_simp; done) | (go_simp; rfl)); intro gb305 hg w4 hbox hb; have n0_ := Aside0.mk (below_step bs_ hb); have n1_ := Aside0.mk (hbox); have n2_ := Aside0.mk ((by rw [hg]; exact (below_size bs_) : w.heap.size ≤ gb305)); have n3_ := Aside0.mk ((by rw [hg]; exact (below_size bs_) : w.heap.size ≤ gb305)); clear HB; have HB := n0_; have BK305 := n1_; have GW305 := n2_; have GE305 := n3_; clear n0_ n1_ n2_ n3_; clear hb hbox hg) | ((with_reducible refine gate_dst (N := 3) rfl ?_); (try (refine gate_guard (by rfl) ?_; dsimp only)); refine box_event ?hg (N := 3) ?hd (cs := #[.slice A1_0 l1_0.length c1_0]) (t := 37) ?hr ?_; (case hd => rfl); (case hg => rfl); (case hr => first | (go_simp; done) | (go_simp; rfl)); intro gb306 hg w5 hbox hb; have n0_ := Aside0.mk (blk_below (bk_ BK305) hb); have n1_ := Aside0.mk (below_step bs_ hb); have n2_ := Aside0.mk (hbox); have n3_ := Aside0.mk ((by rw [hg]; exact (below_size bs_) : w.heap.size ≤ gb306)); have n4_ := Aside0.mk ((by rw [hg]; exact (below_size bs_) : w.heap.size ≤ gb306)); have n5_ := Aside0.mk ((by rw [hg]; exact Nat.ne_of_lt (blk_lt (bk_ BK305)) : gb305 ≠ gb306)); have n6_ := Aside0.mk ((by rw [hg]; exact Nat.ne_of_gt (blk_lt (bk_ BK305)) : gb306 ≠ gb305)); clear BK305 HB; have BK305 := n0_; have HB := n1_; have BK306 := n2_; have GW306 := n3_; have GE306 := n4_; have NB305_306 := n5_; have NB306_305 := n6_; clear n0_ n1_ n2_ n3_ n4_ n5_ n6_; clear hb hbox hg; have hnb6 := NB305_306.out; have hnc6 := NB306_305.out; have hcz7_0 : w5.cell? ⟨gb305, 0, none⟩ = some (.slice A0_0 l0_0.length c0_0) := (blk_cell BK305.out 0).trans rfl; have hfz7_0 := blk_frozen BK305.out 0; have hcz8_0 : w5.cell? ⟨gb306, 0, none⟩ = some (.slice A1_0 l1_0.length c1_0) := (blk_cell BK306.out 0).trans rfl; have hfz8_0 := blk_frozen BK306.out 0))
  repeat (go_quiet (first | ((with_reducible refine gate_dst (N := 2) rfl ?_); (try (refine gate_guard (by rfl) ?_; dsimp only)); refine box_event ?hg (N := 2) ?hd (cs := #[.slice A0_0 l0_0.length c0_0]) (t := 37) ?hr ?_; (case hd => rfl); (case hg => rfl); (case hr => first | (go_simp; done) | (go_simp; rfl)); intro gb305 hg w4 hbox hb; have n0_ := Aside0.mk (below_step bs_ hb); have n1_ := Aside0.mk (hbox); have n2_ := Aside0.mk ((by rw [hg]; exact (below_size bs_) : w.heap.size ≤ gb305)); have n3_ := Aside0.mk ((by rw [hg]; exact (below_size bs_) : w.heap.size ≤ gb305)); clear HB; have HB := n0_; have BK305 := n1_; have GW305 := n2_; have GE305 := n3_; clear n0_ n1_ n2_ n3_; clear hb hbox hg) | ((with_reducible refine gate_dst (N := 3) rfl ?_); (try (refine gate_guard (by rfl) ?_; dsimp only)); refine box_event ?hg (N := 3) ?hd (cs := #[.slice A1_0 l1_0.length c1_0]) (t := 37) ?hr ?_; (case hd => rfl); (case hg => rfl); (case hr => first | (go_simp; done) | (go_simp; rfl)); intro gb306 hg w5 hbox hb; have n0_ := Aside0.mk (blk_below (bk_ BK305) hb); have n1_ := Aside0.mk (below_step bs_ hb); have n2_ := Aside0.mk (hbox); have n3_ := Aside0.mk ((by rw [hg]; exact (below_size bs_) : w.heap.size ≤ gb306)); have n4_ := Aside0.mk ((by rw [hg]; exact (below_size bs_) : w.heap.size ≤ gb306)); have n5_ := Aside0.mk ((by rw [hg]; exact Nat.ne_of_lt (blk_lt (bk_ BK305)) : gb305 ≠ gb306)); have n6_ := Aside0.mk ((by rw [hg]; exact Nat.ne_of_gt (blk_lt (bk_ BK305)) : gb306 ≠ gb305)); clear BK305 HB; have BK305 := n0_; have HB := n1_; have BK306 := n2_; have GW306 := n3_; have GE306 := n4_; have NB305_306 := n5_; have NB306_305 := n6_; clear n0_ n1_ n2_ n3_ n4_ n5_ n6_; clear hb hbox hg; have hnb6 := NB305_306.out; have hnc6 := NB306_305.out; have hcz7_0 : w5.cell? ⟨gb305, 0, none⟩ = some (.slice A0_0 l0_0.length c0_0) := (blk_cell BK305.out 0).trans rfl; have hfz7_0 := blk_frozen BK305.out 0; have hcz8_0 : w5.cell? ⟨gb306, 0, none⟩ = some (.slice A1_0 l1_0.length c1_0) := (blk_cell BK306.out 0).trans rfl; have hfz8_0 := blk_frozen BK306.out 0)); try go_wp2_with (first | ((with_reducible refine gate_dst (N := 2) rfl ?_); (try (refine gate_guard (by rfl) ?_; dsimp only)); refine box_event ?hg (N := 2) ?hd (cs := #[.slice A0_0 l0_0.length c0_0]) (t := 37) ?hr ?_; (case hd => rfl); (case hg => rfl); (case hr => first | (go_simp; done) | (go_simp; rfl)); intro gb305 hg w4 hbox hb; have n0_ := Aside0.mk (below_step bs_ hb); have n1_ := Aside0.mk (hbox); have n2_ := Aside0.mk ((by rw [hg]; exact (below_size bs_) : w.heap.size ≤ gb305)); have n3_ := Aside0.mk ((by rw [hg]; exact (below_size bs_) : w.heap.size ≤ gb305)); clear HB; have HB := n0_; have BK305 := n1_; have GW305 := n2_; have GE305 := n3_; clear n0_ n1_ n2_ n3_; clear hb hbox hg) | ((with_reducible refine gate_dst (N := 3) rfl ?_); (try (refine gate_guard (by rfl) ?_; dsimp only)); refine box_event ?hg (N := 3) ?hd (cs := #[.slice A1_0 l1_0.length c1_0]) (t := 37) ?hr ?_; (case hd => rfl); (case hg => rfl); (case hr => first | (go_simp; done) | (go_simp; rfl)); intro gb306 hg w5 hbox hb; have n0_ := Aside0.mk (blk_below (bk_ BK305) hb); have n1_ := Aside0.mk (below_step bs_ hb); have n2_ := Aside0.mk (hbox); have n3_ := Aside0.mk ((by rw [hg]; exact (below_size bs_) : w.heap.size ≤ gb306)); have n4_ := Aside0.mk ((by rw [hg]; exact (below_size bs_) : w.heap.size ≤ gb306)); have n5_ := Aside0.mk ((by rw [hg]; exact Nat.ne_of_lt (blk_lt (bk_ BK305)) : gb305 ≠ gb306)); have n6_ := Aside0.mk ((by rw [hg]; exact Nat.ne_of_gt (blk_lt (bk_ BK305)) : gb306 ≠ gb305)); clear BK305 HB; have BK305 := n0_; have HB := n1_; have BK306 := n2_; have GW306 := n3_; have GE306 := n4_; have NB305_306 := n5_; have NB306_305 := n6_; clear n0_ n1_ n2_ n3_ n4_ n5_ n6_; clear hb hbox hg; have hnb6 := NB305_306.out; have hnc6 := NB306_305.out; have hcz7_0 : w5.cell? ⟨gb305, 0, none⟩ = some (.slice A0_0 l0_0.length c0_0) := (blk_cell BK305.out 0).trans rfl; have hfz7_0 := blk_frozen BK305.out 0; have hcz8_0 : w5.cell? ⟨gb306, 0, none⟩ = some (.slice A1_0 l1_0.length c1_0) := (blk_cell BK306.out 0).trans rfl; have hfz8_0 := blk_frozen BK306.out 0)))
  go_loopg [5] k (fun kq v5 w' => ∃ (x5_1 : Int), v5 = .int .i64 x5_1 ∧ Aside0 (drydockref03_Same.l0 kq x5_1 l0_0 l1_0 = some r) ∧ Aside0 (kq ≤ k) ∧ Aside0 (w'.heap[gb305]? = some (.cells #[(.slice A0_0 l0_0.length c0_0)] 37 (0, 0))) ∧ Aside0 (w'.heap[gb306]? = some (.cells #[(.slice A1_0 l1_0.length c1_0)] 37 (0, 0))) ∧ Aside0 (Below w.heap.size w w'))
  case atStart => exact ⟨(0), eq_, H', ⟨Nat.le_refl _⟩, ⟨bk_ BK305⟩, ⟨bk_ BK306⟩, ⟨bs_⟩⟩
  case round =>
   clear H'
   try clear c3
   try clear c3b0
   try clear c3b1
   try clear c3b2
   try clear hcz7_0
   try clear hcz8_0
   try clear hfz7_0
   try clear hfz8_0
   obtain ⟨x5_1, rfl, HA, HK1, BK305, BK306, HB⟩ := hrel
   cases gk with
   | zero => exact absurd HA.out (by simp [drydockref03_Same.l0])
   | succ k1 =>
    have H := HA.out
    clear HA
    simp only [drydockref03_Same.l0] at H
    by_cases c9 : x5_1 < (l0_0.length : Int)
    ·rw [if_pos c9] at H
     have c9b0 : decide (x5_1 < (l0_0.length : Int)) = true := decide_eq_true c9
     clear c9
     by_cases c10 : 0 ≤ x5_1
     ·rw [if_pos c10] at H
      have c10b0 : decide (0 ≤ x5_1) = true := decide_eq_true c10
      clear c10
      by_cases c11 : x5_1 < (l1_0.length : Int)
      ·rw [if_pos c11] at H
       have c11b0 : decide (x5_1 < (l1_0.length : Int)) = true := decide_eq_true c11
       clear c11
       have HC12 := Aside0.mk H
       clear H
       have hnb13 := NB305_306.out
       have hnc13 := NB306_305.out
       have hcz14_0 : wr.cell? ⟨gb305, 0, none⟩ = some (.slice A0_0 l0_0.length c0_0) := (blk_cell BK305.out 0).trans rfl
       have hfz14_0 := blk_frozen BK305.out 0
       have p307 : 0 ≤ (x5_1 : Int) := of_decide_eq_true (by first | (with_reducible assumption) | assumption)
       have q307 : x5_1 < (l0_0.length : Int) := of_decide_eq_true (by first | (with_reducible assumption) | assumption)
       obtain ⟨ad307, A307_1, c307_1, e307, hx307_0, hx307_1, hl307_1, hi307_1⟩ := at_T61 HR0_0.out x5_1 p307 q307
       cases e307
       replace hx307_0 := (HB.out.cell (World.block_lt_of_cell? w _ hx307_0)).trans hx307_0
       replace hx307_1 := (HB.out.cell (World.block_lt_of_cell? w _ hx307_1)).trans hx307_1
       have HR307_1 := Aside0.mk hi307_1
       have HC307_1 := Aside0.mk hl307_1
       clear hi307_1 hl307_1
       replace p307 := eq_true p307
       replace q307 := eq_true q307
       go_upto_region 8 with (first | ((with_reducible refine gate_dst (N := 6) rfl ?_); (try (refine gate_guard (by rfl) ?_; dsimp only)); refine box_event ?hg (N := 6) ?hd (cs := #[.int .i64 0, .slice none 0 0]) (t := 61) ?hr ?_; (case hd => rfl); (case hg => rfl); (case hr => first | (go_simp; done) | (go_simp; rfl)); intro gb308 hg w15 hbox hb; have n0_ := Aside0.mk (blk_below (bk_ BK305) hb); have n1_ := Aside0.mk (blk_below (bk_ BK306) hb); have n2_ := Aside0.mk (below_step bs_ hb); have n3_ := Aside0.mk (hbox); have n4_ := Aside0.mk ((by rw [hg]; exact (below_size bs_) : w.heap.size ≤ gb308)); have n5_ := Aside0.mk ((by rw [hg]; exact (below_size bs_) : w.heap.size ≤ gb308)); have n6_ := Aside0.mk ((by rw [hg]; exact Nat.ne_of_lt (blk_lt (bk_ BK305)) : gb305 ≠ gb308)); have n7_ := Aside0.mk ((by rw [hg]; exact Nat.ne_of_gt (blk_lt (bk_ BK305)) : gb308 ≠ gb305)); have n8_ := Aside0.mk ((by rw [hg]; exact Nat.ne_of_lt (blk_lt (bk_ BK306)) : gb306 ≠ gb308)); have n9_ := Aside0.mk ((by rw [hg]; exact Nat.ne_of_gt (blk_lt (bk_ BK306)) : gb308 ≠ gb306)); clear BK305 BK306 HB; have BK305 := n0_; have BK306 := n1_; have HB := n2_; have BK308 := n3_; have GW308 := n4_; have GE308 := n5_; have NB305_308 := n6_; have NB308_305 := n7_; have NB306_308 := n8_; have NB308_306 := n9_; clear n0_ n1_ n2_ n3_ n4_ n5_ n6_ n7_ n8_ n9_; clear hb hbox hg; have hnb16 := NB308_305.out; have hnc16 := NB305_308.out; have hnb17 := NB308_306.out; have hnc17 := NB306_308.out; obtain ⟨hcz18_0, hcz18_1, hfz18_0, hfz18_1⟩ := blk2 BK308; have hcz19_0 : w15.cell? ⟨gb306, 0, none⟩ = some (.slice A1_0 l1_0.length c1_0) := (blk_cell BK306.out 0).trans rfl; have hfz19_0 := blk_frozen BK306.out 0; have p309 : 0 ≤ (x5_1 : Int) := of_decide_eq_true (by first | (with_reducible assumption) | assumption); have q309 : x5_1 < (l1_0.length : Int) := of_decide_eq_true (by first | (with_reducible assumption) | assumption); obtain ⟨ad309, A309_1, c309_1, e309, hx309_0, hx309_1, hl309_1, hi309_1⟩ := at_T61 HR1_0.out x5_1 p309 q309; cases e309; have hn309_0 : ad309.block ≠ gb308 := Nat.ne_of_lt (Nat.lt_of_lt_of_le (by have := World.block_lt_of_cell? _ _ hx309_0; first | rwa [add_block] at this | exact this) GW308.out); have hn309_1 : ad309.block ≠ gb308 := Nat.ne_of_lt (Nat.lt_of_lt_of_le (by have := World.block_lt_of_cell? _ _ hx309_0; first | rwa [add_block] at this | exact this) GW308.out); replace hx309_0 := (HB.out.cell (World.block_lt_of_cell? w _ hx309_0)).trans hx309_0; replace hx309_1 := (HB.out.cell (World.block_lt_of_cell? w _ hx309_1)).trans hx309_1; have HR309_1 := Aside0.mk hi309_1; have HC309_1 := Aside0.mk hl309_1; clear hi309_1 hl309_1; replace hx309_0 := (cell_far (p := ⟨gb308, 0, none⟩) (by first | (rw [add_block]; exact hn309_0) | (show (Addr.add _ _).block ≠ _; rw [add_block]; exact hn309_0) | exact hn309_0) (.int .i64 ((rd_T61 l0_0 x5_1).f0))).trans hx309_0; replace hx309_1 := (cell_far (p := ⟨gb308, 0, none⟩) (by first | (rw [add_block]; exact hn309_0) | (show (Addr.add _ _).block ≠ _; rw [add_block]; exact hn309_0) | exact hn309_0) (.int .i64 ((rd_T61 l0_0 x5_1).f0))).trans hx309_1; replace hx309_0 := (cell_far (p := ⟨gb308, 1, none⟩) (by first | (rw [add_block]; exact hn309_1) | (show (Addr.add _ _).block ≠ _; rw [add_block]; exact hn309_1) | exact hn309_1) (.slice A307_1 ((rd_T61 l0_0 x5_1).f1).length c307_1)).trans hx309_0; replace hx309_1 := (cell_far (p := ⟨gb308, 1, none⟩) (by first | (rw [add_block]; exact hn309_1) | (show (Addr.add _ _).block ≠ _; rw [add_block]; exact hn309_1) | exact hn309_1) (.slice A307_1 ((rd_T61 l0_0 x5_1).f1).length c307_1)).trans hx309_1; (try have hy309_0 := fun (n_ : Nat) => (show ((((w15.drewN n_).setCell ⟨gb308, 0, none⟩ (.int .i64 ((rd_T61 l0_0 x5_1).f0))).setCell ⟨gb308, 1, none⟩ (.slice A307_1 ((rd_T61 l0_0 x5_1).f1).length c307_1))).cell? _ = some _ from hx309_0)); (try have hy309_1 := fun (n_ : Nat) => (show ((((w15.drewN n_).setCell ⟨gb308, 0, none⟩ (.int .i64 ((rd_T61 l0_0 x5_1).f0))).setCell ⟨gb308, 1, none⟩ (.slice A307_1 ((rd_T61 l0_0 x5_1).f1).length c307_1))).cell? _ = some _ from hx309_1)); clear hn309_0 hn309_1; replace p309 := eq_true p309; replace q309 := eq_true q309) | ((with_reducible refine gate_dst (N := 7) rfl ?_); (try (refine gate_guard (by rfl) ?_; dsimp only)); refine box_event ?hg (N := 7) ?hd (cs := #[.int .i64 0, .slice none 0 0]) (t := 61) ?hr ?_; (case hd => rfl); (case hg => rfl); (case hr => first | (go_simp; done) | (go_simp; rfl)); intro gb310 hg w20 hbox hb; have n0_ := Aside0.mk (blk_below (bf_ BK305) hb); have n1_ := Aside0.mk (blk_below (bf_ BK306) hb); have n2_ := Aside0.mk (blk_below (bp_ (o := .cells #[.int .i64 ((rd_T61 l0_0 x5_1).f0), .slice A307_1 ((rd_T61 l0_0 x5_1).f1).length c307_1] 61 (0, 0)) BK308) hb); have n3_ := Aside0.mk (below_step bs_ hb); have n4_ := Aside0.mk (hbox); have n5_ := Aside0.mk ((by rw [hg]; exact (below_size bs_) : w.heap.size ≤ gb310)); have n6_ := Aside0.mk ((by rw [hg]; exact (below_size bs_) : w.heap.size ≤ gb310)); have n7_ := Aside0.mk ((by rw [hg]; exact Nat.ne_of_lt (blk_lt (bf_ BK305)) : gb305 ≠ gb310)); have n8_ := Aside0.mk ((by rw [hg]; exact Nat.ne_of_gt (blk_lt (bf_ BK305)) : gb310 ≠ gb305)); have n9_ := Aside0.mk ((by rw [hg]; exact Nat.ne_of_lt (blk_lt (bf_ BK306)) : gb306 ≠ gb310)); have n10_ := Aside0.mk ((by rw [hg]; exact Nat.ne_of_gt (blk_lt (bf_ BK306)) : gb310 ≠ gb306)); have n11_ := Aside0.mk ((by rw [hg]; exact Nat.ne_of_lt (blk_lt (bp_ (o := .cells #[.int .i64 ((rd_T61 l0_0 x5_1).f0), .slice A307_1 ((rd_T61 l0_0 x5_1).f1).length c307_1] 61 (0, 0)) BK308)) : gb308 ≠ gb310)); have n12_ := Aside0.mk ((by rw [hg]; exact Nat.ne_of_gt (blk_lt (bp_ (o := .cells #[.int .i64 ((rd_T61 l0_0 x5_1).f0), .slice A307_1 ((rd_T61 l0_0 x5_1).f1).length c307_1] 61 (0, 0)) BK308)) : gb310 ≠ gb308)); clear BK305 BK306 BK308 HB; have BK305 := n0_; have BK306 := n1_; have BK308 := n2_; have HB := n3_; have BK310 := n4_; have GW310 := n5_; have GE310 := n6_; have NB305_310 := n7_; have NB310_305 := n8_; have NB306_310 := n9_; have NB310_306 := n10_; have NB308_310 := n11_; have NB310_308 := n12_; clear n0_ n1_ n2_ n3_ n4_ n5_ n6_ n7_ n8_ n9_ n10_ n11_ n12_; clear hb hbox hg; have hnb21 := NB310_305.out; have hnc21 := NB305_310.out; have hnb22 := NB310_306.out; have hnc22 := NB306_310.out; have hnb23 := NB310_308.out; have hnc23 := NB308_310.out; obtain ⟨hcz24_0, hcz24_1, hfz24_0, hfz24_1⟩ := blk2 BK310))
       repeat (go_quiet (first | ((with_reducible refine gate_dst (N := 6) rfl ?_); (try (refine gate_guard (by rfl) ?_; dsimp only)); refine box_event ?hg (N := 6) ?hd (cs := #[.int .i64 0, .slice none 0 0]) (t := 61) ?hr ?_; (case hd => rfl); (case hg => rfl); (case hr => first | (go_simp; done) | (go_simp; rfl)); intro gb308 hg w15 hbox hb; have n0_ := Aside0.mk (blk_below (bk_ BK305) hb); have n1_ := Aside0.mk (blk_below (bk_ BK306) hb); have n2_ := Aside0.mk (below_step bs_ hb); have n3_ := Aside0.mk (hbox); have n4_ := Aside0.mk ((by rw [hg]; exact (below_size bs_) : w.heap.size ≤ gb308)); have n5_ := Aside0.mk ((by rw [hg]; exact (below_size bs_) : w.heap.size ≤ gb308)); have n6_ := Aside0.mk ((by rw [hg]; exact Nat.ne_of_lt (blk_lt (bk_ BK305)) : gb305 ≠ gb308)); have n7_ := Aside0.mk ((by rw [hg]; exact Nat.ne_of_gt (blk_lt (bk_ BK305)) : gb308 ≠ gb305)); have n8_ := Aside0.mk ((by rw [hg]; exact Nat.ne_of_lt (blk_lt (bk_ BK306)) : gb306 ≠ gb308)); have n9_ := Aside0.mk ((by rw [hg]; exact Nat.ne_of_gt (blk_lt (bk_ BK306)) : gb308 ≠ gb306)); clear BK305 BK306 HB; have BK305 := n0_; have BK306 := n1_; have HB := n2_; have BK308 := n3_; have GW308 := n4_; have GE308 := n5_; have NB305_308 := n6_; have NB308_305 := n7_; have NB306_308 := n8_; have NB308_306 := n9_; clear n0_ n1_ n2_ n3_ n4_ n5_ n6_ n7_ n8_ n9_; clear hb hbox hg; have hnb16 := NB308_305.out; have hnc16 := NB305_308.out; have hnb17 := NB308_306.out; have hnc17 := NB306_308.out; obtain ⟨hcz18_0, hcz18_1, hfz18_0, hfz18_1⟩ := blk2 BK308; have hcz19_0 : w15.cell? ⟨gb306, 0, none⟩ = some (.slice A1_0 l1_0.length c1_0) := (blk_cell BK306.out 0).trans rfl; have hfz19_0 := blk_frozen BK306.out 0; have p309 : 0 ≤ (x5_1 : Int) := of_decide_eq_true (by first | (with_reducible assumption) | assumption); have q309 : x5_1 < (l1_0.length : Int) := of_decide_eq_true (by first | (with_reducible assumption) | assumption); obtain ⟨ad309, A309_1, c309_1, e309, hx309_0, hx309_1, hl309_1, hi309_1⟩ := at_T61 HR1_0.out x5_1 p309 q309; cases e309; have hn309_0 : ad309.block ≠ gb308 := Nat.ne_of_lt (Nat.lt_of_lt_of_le (by have := World.block_lt_of_cell? _ _ hx309_0; first | rwa [add_block] at this | exact this) GW308.out); have hn309_1 : ad309.block ≠ gb308 := Nat.ne_of_lt (Nat.lt_of_lt_of_le (by have := World.block_lt_of_cell? _ _ hx309_0; first | rwa [add_block] at this | exact this) GW308.out); replace hx309_0 := (HB.out.cell (World.block_lt_of_cell? w _ hx309_0)).trans hx309_0; replace hx309_1 := (HB.out.cell (World.block_lt_of_cell? w _ hx309_1)).trans hx309_1; have HR309_1 := Aside0.mk hi309_1; have HC309_1 := Aside0.mk hl309_1; clear hi309_1 hl309_1; replace hx309_0 := (cell_far (p := ⟨gb308, 0, none⟩) (by first | (rw [add_block]; exact hn309_0) | (show (Addr.add _ _).block ≠ _; rw [add_block]; exact hn309_0) | exact hn309_0) (.int .i64 ((rd_T61 l0_0 x5_1).f0))).trans hx309_0; replace hx309_1 := (cell_far (p := ⟨gb308, 0, none⟩) (by first | (rw [add_block]; exact hn309_0) | (show (Addr.add _ _).block ≠ _; rw [add_block]; exact hn309_0) | exact hn309_0) (.int .i64 ((rd_T61 l0_0 x5_1).f0))).trans hx309_1; replace hx309_0 := (cell_far (p := ⟨gb308, 1, none⟩) (by first | (rw [add_block]; exact hn309_1) | (show (Addr.add _ _).block ≠ _; rw [add_block]; exact hn309_1) | exact hn309_1) (.slice A307_1 ((rd_T61 l0_0 x5_1).f1).length c307_1)).trans hx309_0; replace hx309_1 := (cell_far (p := ⟨gb308, 1, none⟩) (by first | (rw [add_block]; exact hn309_1) | (show (Addr.add _ _).block ≠ _; rw [add_block]; exact hn309_1) | exact hn309_1) (.slice A307_1 ((rd_T61 l0_0 x5_1).f1).length c307_1)).trans hx309_1; (try have hy309_0 := fun (n_ : Nat) => (show ((((w15.drewN n_).setCell ⟨gb308, 0, none⟩ (.int .i64 ((rd_T61 l0_0 x5_1).f0))).setCell ⟨gb308, 1, none⟩ (.slice A307_1 ((rd_T61 l0_0 x5_1).f1).length c307_1))).cell? _ = some _ from hx309_0)); (try have hy309_1 := fun (n_ : Nat) => (show ((((w15.drewN n_).setCell ⟨gb308, 0, none⟩ (.int .i64 ((rd_T61 l0_0 x5_1).f0))).setCell ⟨gb308, 1, none⟩ (.slice A307_1 ((rd_T61 l0_0 x5_1).f1).length c307_1))).cell? _ = some _ from hx309_1)); clear hn309_0 hn309_1; replace p309 := eq_true p309; replace q309 := eq_true q309) | ((with_reducible refine gate_dst (N := 7) rfl ?_); (try (refine gate_guard (by rfl) ?_; dsimp only)); refine box_event ?hg (N := 7) ?hd (cs := #[.int .i64 0, .slice none 0 0]) (t := 61) ?hr ?_; (case hd => rfl); (case hg => rfl); (case hr => first | (go_simp; done) | (go_simp; rfl)); intro gb310 hg w20 hbox hb; have n0_ := Aside0.mk (blk_below (bf_ BK305) hb); have n1_ := Aside0.mk (blk_below (bf_ BK306) hb); have n2_ := Aside0.mk (blk_below (bp_ (o := .cells #[.int .i64 ((rd_T61 l0_0 x5_1).f0), .slice A307_1 ((rd_T61 l0_0 x5_1).f1).length c307_1] 61 (0, 0)) BK308) hb); have n3_ := Aside0.mk (below_step bs_ hb); have n4_ := Aside0.mk (hbox); have n5_ := Aside0.mk ((by rw [hg]; exact (below_size bs_) : w.heap.size ≤ gb310)); have n6_ := Aside0.mk ((by rw [hg]; exact (below_size bs_) : w.heap.size ≤ gb310)); have n7_ := Aside0.mk ((by rw [hg]; exact Nat.ne_of_lt (blk_lt (bf_ BK305)) : gb305 ≠ gb310)); have n8_ := Aside0.mk ((by rw [hg]; exact Nat.ne_of_gt (blk_lt (bf_ BK305)) : gb310 ≠ gb305)); have n9_ := Aside0.mk ((by rw [hg]; exact Nat.ne_of_lt (blk_lt (bf_ BK306)) : gb306 ≠ gb310)); have n10_ := Aside0.mk ((by rw [hg]; exact Nat.ne_of_gt (blk_lt (bf_ BK306)) : gb310 ≠ gb306)); have n11_ := Aside0.mk ((by rw [hg]; exact Nat.ne_of_lt (blk_lt (bp_ (o := .cells #[.int .i64 ((rd_T61 l0_0 x5_1).f0), .slice A307_1 ((rd_T61 l0_0 x5_1).f1).length c307_1] 61 (0, 0)) BK308)) : gb308 ≠ gb310)); have n12_ := Aside0.mk ((by rw [hg]; exact Nat.ne_of_gt (blk_lt (bp_ (o := .cells #[.int .i64 ((rd_T61 l0_0 x5_1).f0), .slice A307_1 ((rd_T61 l0_0 x5_1).f1).length c307_1] 61 (0, 0)) BK308)) : gb310 ≠ gb308)); clear BK305 BK306 BK308 HB; have BK305 := n0_; have BK306 := n1_; have BK308 := n2_; have HB := n3_; have BK310 := n4_; have GW310 := n5_; have GE310 := n6_; have NB305_310 := n7_; have NB310_305 := n8_; have NB306_310 := n9_; have NB310_306 := n10_; have NB308_310 := n11_; have NB310_308 := n12_; clear n0_ n1_ n2_ n3_ n4_ n5_ n6_ n7_ n8_ n9_ n10_ n11_ n12_; clear hb hbox hg; have hnb21 := NB310_305.out; have hnc21 := NB305_310.out; have hnb22 := NB310_306.out; have hnc22 := NB306_310.out; have hnb23 := NB310_308.out; have hnc23 := NB308_310.out; obtain ⟨hcz24_0, hcz24_1, hfz24_0, hfz24_1⟩ := blk2 BK310)); go_upto_region 8 with (first | ((with_reducible refine gate_dst (N := 6) rfl ?_); (try (refine gate_guard (by rfl) ?_; dsimp only)); refine box_event ?hg (N := 6) ?hd (cs := #[.int .i64 0, .slice none 0 0]) (t := 61) ?hr ?_; (case hd => rfl); (case hg => rfl); (case hr => first | (go_simp; done) | (go_simp; rfl)); intro gb308 hg w15 hbox hb; have n0_ := Aside0.mk (blk_below (bk_ BK305) hb); have n1_ := Aside0.mk (blk_below (bk_ BK306) hb); have n2_ := Aside0.mk (below_step bs_ hb); have n3_ := Aside0.mk (hbox); have n4_ := Aside0.mk ((by rw [hg]; exact (below_size bs_) : w.heap.size ≤ gb308)); have n5_ := Aside0.mk ((by rw [hg]; exact (below_size bs_) : w.heap.size ≤ gb308)); have n6_ := Aside0.mk ((by rw [hg]; exact Nat.ne_of_lt (blk_lt (bk_ BK305)) : gb305 ≠ gb308)); have n7_ := Aside0.mk ((by rw [hg]; exact Nat.ne_of_gt (blk_lt (bk_ BK305)) : gb308 ≠ gb305)); have n8_ := Aside0.mk ((by rw [hg]; exact Nat.ne_of_lt (blk_lt (bk_ BK306)) : gb306 ≠ gb308)); have n9_ := Aside0.mk ((by rw [hg]; exact Nat.ne_of_gt (blk_lt (bk_ BK306)) : gb308 ≠ gb306)); clear BK305 BK306 HB; have BK305 := n0_; have BK306 := n1_; have HB := n2_; have BK308 := n3_; have GW308 := n4_; have GE308 := n5_; have NB305_308 := n6_; have NB308_305 := n7_; have NB306_308 := n8_; have NB308_306 := n9_; clear n0_ n1_ n2_ n3_ n4_ n5_ n6_ n7_ n8_ n9_; clear hb hbox hg; have hnb16 := NB308_305.out; have hnc16 := NB305_308.out; have hnb17 := NB308_306.out; have hnc17 := NB306_308.out; obtain ⟨hcz18_0, hcz18_1, hfz18_0, hfz18_1⟩ := blk2 BK308; have hcz19_0 : w15.cell? ⟨gb306, 0, none⟩ = some (.slice A1_0 l1_0.length c1_0) := (blk_cell BK306.out 0).trans rfl; have hfz19_0 := blk_frozen BK306.out 0; have p309 : 0 ≤ (x5_1 : Int) := of_decide_eq_true (by first | (with_reducible assumption) | assumption); have q309 : x5_1 < (l1_0.length : Int) := of_decide_eq_true (by first | (with_reducible assumption) | assumption); obtain ⟨ad309, A309_1, c309_1, e309, hx309_0, hx309_1, hl309_1, hi309_1⟩ := at_T61 HR1_0.out x5_1 p309 q309; cases e309; have hn309_0 : ad309.block ≠ gb308 := Nat.ne_of_lt (Nat.lt_of_lt_of_le (by have := World.block_lt_of_cell? _ _ hx309_0; first | rwa [add_block] at this | exact this) GW308.out); have hn309_1 : ad309.block ≠ gb308 := Nat.ne_of_lt (Nat.lt_of_lt_of_le (by have := World.block_lt_of_cell? _ _ hx309_0; first | rwa [add_block] at this | exact this) GW308.out); replace hx309_0 := (HB.out.cell (World.block_lt_of_cell? w _ hx309_0)).trans hx309_0; replace hx309_1 := (HB.out.cell (World.block_lt_of_cell? w _ hx309_1)).trans hx309_1; have HR309_1 := Aside0.mk hi309_1; have HC309_1 := Aside0.mk hl309_1; clear hi309_1 hl309_1; replace hx309_0 := (cell_far (p := ⟨gb308, 0, none⟩) (by first | (rw [add_block]; exact hn309_0) | (show (Addr.add _ _).block ≠ _; rw [add_block]; exact hn309_0) | exact hn309_0) (.int .i64 ((rd_T61 l0_0 x5_1).f0))).trans hx309_0; replace hx309_1 := (cell_far (p := ⟨gb308, 0, none⟩) (by first | (rw [add_block]; exact hn309_0) | (show (Addr.add _ _).block ≠ _; rw [add_block]; exact hn309_0) | exact hn309_0) (.int .i64 ((rd_T61 l0_0 x5_1).f0))).trans hx309_1; replace hx309_0 := (cell_far (p := ⟨gb308, 1, none⟩) (by first | (rw [add_block]; exact hn309_1) | (show (Addr.add _ _).block ≠ _; rw [add_block]; exact hn309_1) | exact hn309_1) (.slice A307_1 ((rd_T61 l0_0 x5_1).f1).length c307_1)).trans hx309_0; replace hx309_1 := (cell_far (p := ⟨gb308, 1, none⟩) (by first | (rw [add_block]; exact hn309_1) | (show (Addr.add _ _).block ≠ _; rw [add_block]; exact hn309_1) | exact hn309_1) (.slice A307_1 ((rd_T61 l0_0 x5_1).f1).length c307_1)).trans hx309_1; (try have hy309_0 := fun (n_ : Nat) => (show ((((w15.drewN n_).setCell ⟨gb308, 0, none⟩ (.int .i64 ((rd_T61 l0_0 x5_1).f0))).setCell ⟨gb308, 1, none⟩ (.slice A307_1 ((rd_T61 l0_0 x5_1).f1).length c307_1))).cell? _ = some _ from hx309_0)); (try have hy309_1 := fun (n_ : Nat) => (show ((((w15.drewN n_).setCell ⟨gb308, 0, none⟩ (.int .i64 ((rd_T61 l0_0 x5_1).f0))).setCell ⟨gb308, 1, none⟩ (.slice A307_1 ((rd_T61 l0_0 x5_1).f1).length c307_1))).cell? _ = some _ from hx309_1)); clear hn309_0 hn309_1; replace p309 := eq_true p309; replace q309 := eq_true q309) | ((with_reducible refine gate_dst (N := 7) rfl ?_); (try (refine gate_guard (by rfl) ?_; dsimp only)); refine box_event ?hg (N := 7) ?hd (cs := #[.int .i64 0, .slice none 0 0]) (t := 61) ?hr ?_; (case hd => rfl); (case hg => rfl); (case hr => first | (go_simp; done) | (go_simp; rfl)); intro gb310 hg w20 hbox hb; have n0_ := Aside0.mk (blk_below (bf_ BK305) hb); have n1_ := Aside0.mk (blk_below (bf_ BK306) hb); have n2_ := Aside0.mk (blk_below (bp_ (o := .cells #[.int .i64 ((rd_T61 l0_0 x5_1).f0), .slice A307_1 ((rd_T61 l0_0 x5_1).f1).length c307_1] 61 (0, 0)) BK308) hb); have n3_ := Aside0.mk (below_step bs_ hb); have n4_ := Aside0.mk (hbox); have n5_ := Aside0.mk ((by rw [hg]; exact (below_size bs_) : w.heap.size ≤ gb310)); have n6_ := Aside0.mk ((by rw [hg]; exact (below_size bs_) : w.heap.size ≤ gb310)); have n7_ := Aside0.mk ((by rw [hg]; exact Nat.ne_of_lt (blk_lt (bf_ BK305)) : gb305 ≠ gb310)); have n8_ := Aside0.mk ((by rw [hg]; exact Nat.ne_of_gt (blk_lt (bf_ BK305)) : gb310 ≠ gb305)); have n9_ := Aside0.mk ((by rw [hg]; exact Nat.ne_of_lt (blk_lt (bf_ BK306)) : gb306 ≠ gb310)); have n10_ := Aside0.mk ((by rw [hg]; exact Nat.ne_of_gt (blk_lt (bf_ BK306)) : gb310 ≠ gb306)); have n11_ := Aside0.mk ((by rw [hg]; exact Nat.ne_of_lt (blk_lt (bp_ (o := .cells #[.int .i64 ((rd_T61 l0_0 x5_1).f0), .slice A307_1 ((rd_T61 l0_0 x5_1).f1).length c307_1] 61 (0, 0)) BK308)) : gb308 ≠ gb310)); have n12_ := Aside0.mk ((by rw [hg]; exact Nat.ne_of_gt (blk_lt (bp_ (o := .cells #[.int .i64 ((rd_T61 l0_0 x5_1).f0), .slice A307_1 ((rd_T61 l0_0 x5_1).f1).length c307_1] 61 (0, 0)) BK308)) : gb310 ≠ gb308)); clear BK305 BK306 BK308 HB; have BK305 := n0_; have BK306 := n1_; have BK308 := n2_; have HB := n3_; have BK310 := n4_; have GW310 := n5_; have GE310 := n6_; have NB305_310 := n7_; have NB310_305 := n8_; have NB306_310 := n9_; have NB310_306 := n10_; have NB308_310 := n11_; have NB310_308 := n12_; clear n0_ n1_ n2_ n3_ n4_ n5_ n6_ n7_ n8_ n9_ n10_ n11_ n12_; clear hb hbox hg; have hnb21 := NB310_305.out; have hnc21 := NB305_310.out; have hnb22 := NB310_306.out; have hnc22 := NB306_310.out; have hnb23 := NB310_308.out; have hnc23 := NB308_310.out; obtain ⟨hcz24_0, hcz24_1, hfz24_0, hfz24_1⟩ := blk2 BK310)))
       (try simp only [Act.put, List.setIfInBounds_toArray, List.set_cons_zero, List.set_cons_succ])
       go_cut [46] (fun v46 wc => ∃ (kq : Nat) (x46_11 : Bool), v46 = .bool x46_11 ∧ Aside0 (drydockref03_Same.j1 kq x5_1 x46_11 l0_0 l1_0 ((rd_T61 l0_0 x5_1).f0) ((rd_T61 l0_0 x5_1).f1) ((rd_T61 l1_0 x5_1).f0) ((rd_T61 l1_0 x5_1).f1) = some r) ∧ Aside0 (kq ≤ k1) ∧ Aside0 (wc.heap[gb305]? = some (.cells #[(.slice (some ad307) l0_0.length c0_0)] 37 (0, 0))) ∧ Aside0 (wc.heap[gb306]? = some (.cells #[(.slice (some ad309) l1_0.length c1_0)] 37 (0, 0))) ∧ Aside0 (wc.heap[gb308]? = some (.cells #[.int .i64 ((rd_T61 l0_0 x5_1).f0), (.slice A307_1 ((rd_T61 l0_0 x5_1).f1).length c307_1)] 61 (0, 0))) ∧ Aside0 (wc.heap[gb310]? = some (.cells #[.int .i64 ((rd_T61 l1_0 x5_1).f0), (.slice A309_1 ((rd_T61 l1_0 x5_1).f1).length c309_1)] 61 (0, 0))) ∧ Aside0 (Below w.heap.size w wc))
       case first =>
        have H := HC12.out
        clear HC12
        by_cases c25 : ((rd_T61 l0_0 x5_1).f0) = ((rd_T61 l1_0 x5_1).f0)
        ·rw [if_pos c25] at H
         have c25b0 : (((rd_T61 l0_0 x5_1).f0) == ((rd_T61 l1_0 x5_1).f0)) = true := beq_iff_eq.mpr c25
         have c25b1 : (((rd_T61 l0_0 x5_1).f0) != ((rd_T61 l1_0 x5_1).f0)) = false := bne_eq_false_iff_eq.mpr c25
         clear c25
         (first | rw [c25b0] | (simp only [i64_w, i32_w]; rw [c25b0]) | skip)
         have H' := Aside0.mk H
         clear H
         have hnb26 := NB308_305.out
         have hnc26 := NB305_308.out
         have hnb27 := NB308_306.out
         have hnc27 := NB306_308.out
         have hnb28 := NB308_310.out
         have hnc28 := NB310_308.out
         obtain ⟨hcz29_0, hcz29_1, hfz29_0, hfz29_1⟩ := blk2 BK308
         have hnb30 := NB310_305.out
         have hnc30 := NB305_310.out
         have hnb31 := NB310_306.out
         have hnc31 := NB306_310.out
         obtain ⟨hcz32_0, hcz32_1, hfz32_0, hfz32_1⟩ := blk2 BK310
         go_wp2
         repeat (go_quiet (fail); try go_wp2)
         go_meet
         case rel => exact ⟨_, (((((rd_T61 l0_0 x5_1).f1).length : Int) != (((rd_T61 l1_0 x5_1).f1).length : Int))), eq_, H', ⟨by have := HK1.out; first | omega | exact Nat.le_refl _⟩, ⟨bf_ BK305⟩, ⟨bf_ BK306⟩, ⟨bf_ BK308⟩, ⟨bp_ BK310⟩, ⟨bs_⟩⟩
        ·rw [if_neg c25] at H
         have c25b0 : (((rd_T61 l0_0 x5_1).f0) == ((rd_T61 l1_0 x5_1).f0)) = false := beq_eq_false_iff_ne.mpr c25
         have c25b1 : (((rd_T61 l0_0 x5_1).f0) != ((rd_T61 l1_0 x5_1).f0)) = true := bne_iff_ne.mpr c25
         (first | rw [c25b0] | (simp only [i64_w, i32_w]; rw [c25b0]) | skip)
         have H' := Aside0.mk H
         clear H
         have hnb33 := NB308_305.out
         have hnc33 := NB305_308.out
         have hnb34 := NB308_306.out
         have hnc34 := NB306_308.out
         have hnb35 := NB308_310.out
         have hnc35 := NB310_308.out
         obtain ⟨hcz36_0, hcz36_1, hfz36_0, hfz36_1⟩ := blk2 BK308
         have hnb37 := NB310_305.out
         have hnc37 := NB305_310.out
         have hnb38 := NB310_306.out
         have hnc38 := NB306_310.out
         obtain ⟨hcz39_0, hcz39_1, hfz39_0, hfz39_1⟩ := blk2 BK310
         go_wp2
         repeat (go_quiet (fail); try go_wp2)
         go_meet
         case rel => exact ⟨_, (true), eq_, H', ⟨by have := HK1.out; first | omega | exact Nat.le_refl _⟩, ⟨bf_ BK305⟩, ⟨bf_ BK306⟩, ⟨bf_ BK308⟩, ⟨bp_ BK310⟩, ⟨bs_⟩⟩
       case rest =>
        clear HC12
        try clear c3
        try clear c3b0
        try clear c3b1
        try clear c3b2
        try clear c9
        try clear c9b0
        try clear c10
        try clear c10b0
        try clear c11
        try clear c11b0
        try clear hcz14_0
        try clear hcz18_0
        try clear hcz18_1
        try clear hcz19_0
        try clear hcz24_0
        try clear hcz24_1
        try clear hcz7_0
        try clear hcz8_0
        try clear hfz14_0
        try clear hfz18_0
        try clear hfz18_1
        try clear hfz19_0
        try clear hfz24_0
        try clear hfz24_1
        try clear hfz7_0
        try clear hfz8_0
        try clear hx307_0
        try clear hx307_1
        try clear hx309_0
        try clear hx309_1
        try clear p307
        try clear p309
        try clear q307
        try clear q309
        obtain ⟨kq, x46_11, rfl, HA, HJ11, BK305, BK306, BK308, BK310, HB⟩ := hcut
        cases kq with
        | zero => exact absurd HA.out (by simp [drydockref03_Same.j1])
        | succ kj11 =>
         have H := HA.out
         clear HA
         simp only [drydockref03_Same.j1] at H
         by_cases c40 : x46_11 = true
         ·subst c40
          have H1 : (some false) = some r := by rw [if_pos rfl] at H; exact H
          clear H
          have H := H1
          clear H1
          obtain rfl := Option.some.inj H
          go_wp2
          repeat (go_quiet (fail); try go_wp2)
          go_ret
          exact ⟨by first | rfl | (simp [errW_none, errW_some] <;> rfl) | (simp [*, errW_none, errW_some] <;> rfl), by repeat (first | (with_reducible first | exact HB.out | apply below_alloc | apply pw_below_drewN | apply below_drew1 | refine below_set ?_ GE305.out | refine below_set ?_ GE306.out | refine below_set ?_ GE308.out | refine below_set ?_ GE310.out) | exact HB.out)⟩
         ·replace c40 := Bool.eq_false_iff.mpr c40
          subst c40
          have H1 : (drydockref03_Same.l1 kj11 x5_1 0 l0_0 l1_0 ((rd_T61 l0_0 x5_1).f0) ((rd_T61 l0_0 x5_1).f1) ((rd_T61 l1_0 x5_1).f0) ((rd_T61 l1_0 x5_1).f1)) = some r := by rw [if_neg (show ¬ (false = true) by decide)] at H; exact H
          clear H
          have H := H1
          clear H1
          have H' := Aside0.mk H
          clear H
          go_wp2
          repeat (go_quiet (fail); try go_wp2)
          go_loopg [8] kj11 (fun kq v8 w' => ∃ (x8_3 : Int), v8 = .int .i64 x8_3 ∧ Aside0 (drydockref03_Same.l1 kq x5_1 x8_3 l0_0 l1_0 ((rd_T61 l0_0 x5_1).f0) ((rd_T61 l0_0 x5_1).f1) ((rd_T61 l1_0 x5_1).f0) ((rd_T61 l1_0 x5_1).f1) = some r) ∧ Aside0 (kq ≤ kj11) ∧ Aside0 (w'.heap[gb305]? = some (.cells #[(.slice (some ad307) l0_0.length c0_0)] 37 (0, 0))) ∧ Aside0 (w'.heap[gb306]? = some (.cells #[(.slice (some ad309) l1_0.length c1_0)] 37 (0, 0))) ∧ Aside0 (w'.heap[gb308]? = some (.cells #[.int .i64 ((rd_T61 l0_0 x5_1).f0), (.slice A307_1 ((rd_T61 l0_0 x5_1).f1).length c307_1)] 61 (0, 0))) ∧ Aside0 (w'.heap[gb310]? = some (.cells #[.int .i64 ((rd_T61 l1_0 x5_1).f0), (.slice A309_1 ((rd_T61 l1_0 x5_1).f1).length c309_1)] 61 (0, 0))) ∧ Aside0 (Below w.heap.size w w'))
          case atStart => exact ⟨(0), eq_, H', ⟨Nat.le_refl _⟩, ⟨bk_ BK305⟩, ⟨bk_ BK306⟩, ⟨bk_ BK308⟩, ⟨bk_ BK310⟩, ⟨bs_⟩⟩
          case round =>
           clear H'
           try clear c3
           try clear c3b0
           try clear c3b1
           try clear c3b2
           try clear c9
           try clear c9b0
           try clear c10
           try clear c10b0
           try clear c11
           try clear c11b0
           try clear c40
           try clear hcz14_0
           try clear hcz18_0
           try clear hcz18_1
           try clear hcz19_0
           try clear hcz24_0
           try clear hcz24_1
           try clear hcz7_0
           try clear hcz8_0
           try clear hfz14_0
           try clear hfz18_0
           try clear hfz18_1
           try clear hfz19_0
           try clear hfz24_0
           try clear hfz24_1
           try clear hfz7_0
           try clear hfz8_0
           try clear hx307_0
           try clear hx307_1
           try clear hx309_0
           try clear hx309_1
           try clear p307
           try clear p309
           try clear q307
           try clear q309
           obtain ⟨x8_3, rfl, HA, HK3, BK305, BK306, BK308, BK310, HB⟩ := hrel
           cases gk with
           | zero => exact absurd HA.out (by simp [drydockref03_Same.l1])
           | succ k3 =>
            have H := HA.out
            clear HA
            simp only [drydockref03_Same.l1] at H
            by_cases c41 : x8_3 < (((rd_T61 l0_0 x5_1).f1).length : Int)
            ·rw [if_pos c41] at H
             have c41b0 : decide (x8_3 < (((rd_T61 l0_0 x5_1).f1).length : Int)) = true := decide_eq_true c41
             clear c41
             by_cases c42 : 0 ≤ x8_3
             ·rw [if_pos c42] at H
              have c42b0 : decide (0 ≤ x8_3) = true := decide_eq_true c42
              clear c42
              by_cases c43 : x8_3 < (((rd_T61 l1_0 x5_1).f1).length : Int)
              ·rw [if_pos c43] at H
               have c43b0 : decide (x8_3 < (((rd_T61 l1_0 x5_1).f1).length : Int)) = true := decide_eq_true c43
               clear c43
               by_cases c44 : (!(((rd_T72 ((rd_T61 l0_0 x5_1).f1) x8_3).f0) == ((rd_T72 ((rd_T61 l1_0 x5_1).f1) x8_3).f0)) || (!(((rd_T72 ((rd_T61 l0_0 x5_1).f1) x8_3).f1) == ((rd_T72 ((rd_T61 l1_0 x5_1).f1) x8_3).f1)) || (!(((rd_T72 ((rd_T61 l0_0 x5_1).f1) x8_3).f2) == ((rd_T72 ((rd_T61 l1_0 x5_1).f1) x8_3).f2)) || (!(((rd_T72 ((rd_T61 l0_0 x5_1).f1) x8_3).f3) == ((rd_T72 ((rd_T61 l1_0 x5_1).f1) x8_3).f3)) || (!(((rd_T72 ((rd_T61 l0_0 x5_1).f1) x8_3).f4) == ((rd_T72 ((rd_T61 l1_0 x5_1).f1) x8_3).f4)) || (!(((rd_T72 ((rd_T61 l0_0 x5_1).f1) x8_3).f5) == ((rd_T72 ((rd_T61 l1_0 x5_1).f1) x8_3).f5)) || (!(((rd_T72 ((rd_T61 l0_0 x5_1).f1) x8_3).f6) == ((rd_T72 ((rd_T61 l1_0 x5_1).f1) x8_3).f6))))))))) = true
               ·rw [if_pos c44] at H
                have c44b0 : (!(((rd_T72 ((rd_T61 l0_0 x5_1).f1) x8_3).f0) == ((rd_T72 ((rd_T61 l1_0 x5_1).f1) x8_3).f0)) || (!(((rd_T72 ((rd_T61 l0_0 x5_1).f1) x8_3).f1) == ((rd_T72 ((rd_T61 l1_0 x5_1).f1) x8_3).f1)) || (!(((rd_T72 ((rd_T61 l0_0 x5_1).f1) x8_3).f2) == ((rd_T72 ((rd_T61 l1_0 x5_1).f1) x8_3).f2)) || (!(((rd_T72 ((rd_T61 l0_0 x5_1).f1) x8_3).f3) == ((rd_T72 ((rd_T61 l1_0 x5_1).f1) x8_3).f3)) || (!(((rd_T72 ((rd_T61 l0_0 x5_1).f1) x8_3).f4) == ((rd_T72 ((rd_T61 l1_0 x5_1).f1) x8_3).f4)) || (!(((rd_T72 ((rd_T61 l0_0 x5_1).f1) x8_3).f5) == ((rd_T72 ((rd_T61 l1_0 x5_1).f1) x8_3).f5)) || (!(((rd_T72 ((rd_T61 l0_0 x5_1).f1) x8_3).f6) == ((rd_T72 ((rd_T61 l1_0 x5_1).f1) x8_3).f6))))))))) = true := c44
                clear c44
                obtain rfl := Option.some.inj H
                have hnb45 := NB308_305.out
                have hnc45 := NB305_308.out
                have hnb46 := NB308_306.out
                have hnc46 := NB306_308.out
                have hnb47 := NB308_310.out
                have hnc47 := NB310_308.out
                obtain ⟨hcz48_0, hcz48_1, hfz48_0, hfz48_1⟩ := blk2 BK308
                have p311 : 0 ≤ (x8_3 : Int) := of_decide_eq_true (by first | (with_reducible assumption) | assumption)
                have q311 : x8_3 < (((rd_T61 l0_0 x5_1).f1).length : Int) := of_decide_eq_true (by first | (with_reducible assumption) | assumption)
                obtain ⟨ad311, e311, hx311_0, hx311_1, hx311_2, hx311_3, hx311_4, hx311_5, hx311_6⟩ := at_T72 HR307_1.out x8_3 p311 q311
                cases e311
                replace hx311_0 := (HB.out.cell (World.block_lt_of_cell? w _ hx311_0)).trans hx311_0
                replace hx311_1 := (HB.out.cell (World.block_lt_of_cell? w _ hx311_1)).trans hx311_1
                replace hx311_2 := (HB.out.cell (World.block_lt_of_cell? w _ hx311_2)).trans hx311_2
                replace hx311_3 := (HB.out.cell (World.block_lt_of_cell? w _ hx311_3)).trans hx311_3
                replace hx311_4 := (HB.out.cell (World.block_lt_of_cell? w _ hx311_4)).trans hx311_4
                replace hx311_5 := (HB.out.cell (World.block_lt_of_cell? w _ hx311_5)).trans hx311_5
                replace hx311_6 := (HB.out.cell (World.block_lt_of_cell? w _ hx311_6)).trans hx311_6
                replace p311 := eq_true p311
                replace q311 := eq_true q311
                have hnb49 := NB310_305.out
                have hnc49 := NB305_310.out
                have hnb50 := NB310_306.out
                have hnc50 := NB306_310.out
                obtain ⟨hcz51_0, hcz51_1, hfz51_0, hfz51_1⟩ := blk2 BK310
                have p312 : 0 ≤ (x8_3 : Int) := of_decide_eq_true (by first | (with_reducible assumption) | assumption)
                have q312 : x8_3 < (((rd_T61 l1_0 x5_1).f1).length : Int) := of_decide_eq_true (by first | (with_reducible assumption) | assumption)
                obtain ⟨ad312, e312, hx312_0, hx312_1, hx312_2, hx312_3, hx312_4, hx312_5, hx312_6⟩ := at_T72 HR309_1.out x8_3 p312 q312
                cases e312
                replace hx312_0 := (HB.out.cell (World.block_lt_of_cell? w _ hx312_0)).trans hx312_0
                replace hx312_1 := (HB.out.cell (World.block_lt_of_cell? w _ hx312_1)).trans hx312_1
                replace hx312_2 := (HB.out.cell (World.block_lt_of_cell? w _ hx312_2)).trans hx312_2
                replace hx312_3 := (HB.out.cell (World.block_lt_of_cell? w _ hx312_3)).trans hx312_3
                replace hx312_4 := (HB.out.cell (World.block_lt_of_cell? w _ hx312_4)).trans hx312_4
                replace hx312_5 := (HB.out.cell (World.block_lt_of_cell? w _ hx312_5)).trans hx312_5
                replace hx312_6 := (HB.out.cell (World.block_lt_of_cell? w _ hx312_6)).trans hx312_6
                replace p312 := eq_true p312
                replace q312 := eq_true q312
                go_wp2
                repeat (go_quiet (fail); try go_wp2)
                go_ret
                exact ⟨by first | rfl | (simp [errW_none, errW_some] <;> rfl) | (simp [*, errW_none, errW_some] <;> rfl), by repeat (first | (with_reducible first | exact HB.out | apply below_alloc | apply pw_below_drewN | apply below_drew1 | refine below_set ?_ GE305.out | refine below_set ?_ GE306.out | refine below_set ?_ GE308.out | refine below_set ?_ GE310.out) | exact HB.out)⟩
               ·rw [if_neg c44] at H
                have c44b0 : (!(((rd_T72 ((rd_T61 l0_0 x5_1).f1) x8_3).f0) == ((rd_T72 ((rd_T61 l1_0 x5_1).f1) x8_3).f0)) || (!(((rd_T72 ((rd_T61 l0_0 x5_1).f1) x8_3).f1) == ((rd_T72 ((rd_T61 l1_0 x5_1).f1) x8_3).f1)) || (!(((rd_T72 ((rd_T61 l0_0 x5_1).f1) x8_3).f2) == ((rd_T72 ((rd_T61 l1_0 x5_1).f1) x8_3).f2)) || (!(((rd_T72 ((rd_T61 l0_0 x5_1).f1) x8_3).f3) == ((rd_T72 ((rd_T61 l1_0 x5_1).f1) x8_3).f3)) || (!(((rd_T72 ((rd_T61 l0_0 x5_1).f1) x8_3).f4) == ((rd_T72 ((rd_T61 l1_0 x5_1).f1) x8_3).f4)) || (!(((rd_T72 ((rd_T61 l0_0 x5_1).f1) x8_3).f5) == ((rd_T72 ((rd_T61 l1_0 x5_1).f1) x8_3).f5)) || (!(((rd_T72 ((rd_T61 l0_0 x5_1).f1) x8_3).f6) == ((rd_T72 ((rd_T61 l1_0 x5_1).f1) x8_3).f6))))))))) = false := by simpa using c44
                clear c44
                have H' := Aside0.mk H
                clear H
                have hnb52 := NB308_305.out
                have hnc52 := NB305_308.out
                have hnb53 := NB308_306.out
                have hnc53 := NB306_308.out
                have hnb54 := NB308_310.out
                have hnc54 := NB310_308.out
                obtain ⟨hcz55_0, hcz55_1, hfz55_0, hfz55_1⟩ := blk2 BK308
                have p311 : 0 ≤ (x8_3 : Int) := of_decide_eq_true (by first | (with_reducible assumption) | assumption)
                have q311 : x8_3 < (((rd_T61 l0_0 x5_1).f1).length : Int) := of_decide_eq_true (by first | (with_reducible assumption) | assumption)
                obtain ⟨ad311, e311, hx311_0, hx311_1, hx311_2, hx311_3, hx311_4, hx311_5, hx311_6⟩ := at_T72 HR307_1.out x8_3 p311 q311
                cases e311
                replace hx311_0 := (HB.out.cell (World.block_lt_of_cell? w _ hx311_0)).trans hx311_0
                replace hx311_1 := (HB.out.cell (World.block_lt_of_cell? w _ hx311_1)).trans hx311_1
                replace hx311_2 := (HB.out.cell (World.block_lt_of_cell? w _ hx311_2)).trans hx311_2
                replace hx311_3 := (HB.out.cell (World.block_lt_of_cell? w _ hx311_3)).trans hx311_3
                replace hx311_4 := (HB.out.cell (World.block_lt_of_cell? w _ hx311_4)).trans hx311_4
                replace hx311_5 := (HB.out.cell (World.block_lt_of_cell? w _ hx311_5)).trans hx311_5
                replace hx311_6 := (HB.out.cell (World.block_lt_of_cell? w _ hx311_6)).trans hx311_6
                replace p311 := eq_true p311
                replace q311 := eq_true q311
                have hnb56 := NB310_305.out
                have hnc56 := NB305_310.out
                have hnb57 := NB310_306.out
                have hnc57 := NB306_310.out
                obtain ⟨hcz58_0, hcz58_1, hfz58_0, hfz58_1⟩ := blk2 BK310
                have p312 : 0 ≤ (x8_3 : Int) := of_decide_eq_true (by first | (with_reducible assumption) | assumption)
                have q312 : x8_3 < (((rd_T61 l1_0 x5_1).f1).length : Int) := of_decide_eq_true (by first | (with_reducible assumption) | assumption)
                obtain ⟨ad312, e312, hx312_0, hx312_1, hx312_2, hx312_3, hx312_4, hx312_5, hx312_6⟩ := at_T72 HR309_1.out x8_3 p312 q312
                cases e312
                replace hx312_0 := (HB.out.cell (World.block_lt_of_cell? w _ hx312_0)).trans hx312_0
                replace hx312_1 := (HB.out.cell (World.block_lt_of_cell? w _ hx312_1)).trans hx312_1
                replace hx312_2 := (HB.out.cell (World.block_lt_of_cell? w _ hx312_2)).trans hx312_2
                replace hx312_3 := (HB.out.cell (World.block_lt_of_cell? w _ hx312_3)).trans hx312_3
                replace hx312_4 := (HB.out.cell (World.block_lt_of_cell? w _ hx312_4)).trans hx312_4
                replace hx312_5 := (HB.out.cell (World.block_lt_of_cell? w _ hx312_5)).trans hx312_5
                replace hx312_6 := (HB.out.cell (World.block_lt_of_cell? w _ hx312_6)).trans hx312_6
                replace p312 := eq_true p312
                replace q312 := eq_true q312
                go_wp2
                repeat (go_quiet (fail); try go_wp2)
                go_roundg k3
                case measure => have := HK1.out; have := HJ11.out; have := HK3.out; omega
                case rel => exact ⟨(wrap64 (x8_3 + 1)), eq_, H', ⟨by have := HK1.out; have := HJ11.out; have := HK3.out; omega⟩, ⟨bk_ BK305⟩, ⟨bk_ BK306⟩, ⟨bk_ BK308⟩, ⟨bk_ BK310⟩, ⟨bs_⟩⟩
              ·rw [if_neg c43] at H
               exact absurd H (by simp)
             ·rw [if_neg c42] at H
              exact absurd H (by simp)
            ·rw [if_neg c41] at H
             have c41b0 : decide (x8_3 < (((rd_T61 l0_0 x5_1).f1).length : Int)) = false := decide_eq_false c41
             clear c41
             have H' := Aside0.mk H
             clear H
             have hnb59 := NB308_305.out
             have hnc59 := NB305_308.out
             have hnb60 := NB308_306.out
             have hnc60 := NB306_308.out
             have hnb61 := NB308_310.out
             have hnc61 := NB310_308.out
             obtain ⟨hcz62_0, hcz62_1, hfz62_0, hfz62_1⟩ := blk2 BK308
             go_wp2
             repeat (go_quiet (fail); try go_wp2)
             go_roundg k3
             case measure => have := HK1.out; have := HJ11.out; have := HK3.out; omega
             case rel => exact ⟨(wrap64 (x5_1 + 1)), eq_, H', ⟨by have := HK1.out; have := HJ11.out; have := HK3.out; omega⟩, ⟨bk_ BK305⟩, ⟨bk_ BK306⟩, ⟨bs_⟩⟩
      ·rw [if_neg c11] at H
       exact absurd H (by simp)
     ·rw [if_neg c10] at H
      exact absurd H (by simp)
    ·rw [if_neg c9] at H
     have c9b0 : decide (x5_1 < (l0_0.length : Int)) = false := decide_eq_false c9
     clear c9
     obtain rfl := Option.some.inj H
     have hnb63 := NB305_306.out
     have hnc63 := NB306_305.out
     have hcz64_0 : wr.cell? ⟨gb305, 0, none⟩ = some (.slice A0_0 l0_0.length c0_0) := (blk_cell BK305.out 0).trans rfl
     have hfz64_0 := blk_frozen BK305.out 0
     go_wp2
     repeat (go_quiet (fail); try go_wp2)
     go_ret
     exact ⟨by first | rfl | (simp [errW_none, errW_some] <;> rfl) | (simp [*, errW_none, errW_some] <;> rfl), by repeat (first | (with_reducible first | exact HB.out | apply below_alloc | apply pw_below_drewN | apply below_drew1 | refine below_set ?_ GE305.out | refine below_set ?_ GE306.out) | exact HB.out)⟩
 ·rw [if_neg c3] at H
  have c3b0 : ((l0_0.length : Int) == (l1_0.length : Int)) = false := beq_eq_false_iff_ne.mpr c3
  have c3b1 : ((l0_0.length : Int) != (l1_0.length : Int)) = true := bne_iff_ne.mpr c3
  have c3b2 : (l0_0.length == l1_0.length) = false := by first | simpa using c3 | (simp at c3 ⊢; omega)
  obtain rfl := Option.some.inj H
  go_enter Try.func33, Try.ntmps33
  go_wp2_with (first | ((with_reducible refine gate_dst (N := 2) rfl ?_); (try (refine gate_guard (by rfl) ?_; dsimp only)); refine box_event ?hg (N := 2) ?hd (cs := #[.slice A0_0 l0_0.length c0_0]) (t := 37) ?hr ?_; (case hd => rfl); (case hg => rfl); (case hr => first | (go_simp; done) | (go_simp; rfl)); intro gb305 hg w65 hbox hb; have n0_ := Aside0.mk (below_step bs_ hb); have n1_ := Aside0.mk (hbox); have n2_ := Aside0.mk ((by rw [hg]; exact (below_size bs_) : w.heap.size ≤ gb305)); have n3_ := Aside0.mk ((by rw [hg]; exact (below_size bs_) : w.heap.size ≤ gb305)); clear HB; have HB := n0_; have BK305 := n1_; have GW305 := n2_; have GE305 := n3_; clear n0_ n1_ n2_ n3_; clear hb hbox hg) | ((with_reducible refine gate_dst (N := 3) rfl ?_); (try (refine gate_guard (by rfl) ?_; dsimp only)); refine box_event ?hg (N := 3) ?hd (cs := #[.slice A1_0 l1_0.length c1_0]) (t := 37) ?hr ?_; (case hd => rfl); (case hg => rfl); (case hr => first | (go_simp; done) | (go_simp; rfl)); intro gb306 hg w66 hbox hb; have n0_ := Aside0.mk (blk_below (bk_ BK305) hb); have n1_ := Aside0.mk (below_step bs_ hb); have n2_ := Aside0.mk (hbox); have n3_ := Aside0.mk ((by rw [hg]; exact (below_size bs_) : w.heap.size ≤ gb306)); have n4_ := Aside0.mk ((by rw [hg]; exact (below_size bs_) : w.heap.size ≤ gb306)); have n5_ := Aside0.mk ((by rw [hg]; exact Nat.ne_of_lt (blk_lt (bk_ BK305)) : gb305 ≠ gb306)); have n6_ := Aside0.mk ((by rw [hg]; exact Nat.ne_of_gt (blk_lt (bk_ BK305)) : gb306 ≠ gb305)); clear BK305 HB; have BK305 := n0_; have HB := n1_; have BK306 := n2_; have GW306 := n3_; have GE306 := n4_; have NB305_306 := n5_; have NB306_305 := n6_; clear n0_ n1_ n2_ n3_ n4_ n5_ n6_; clear hb hbox hg; have hnb67 := NB305_306.out; have hnc67 := NB306_305.out; have hcz68_0 : w66.cell? ⟨gb305, 0, none⟩ = some (.slice A0_0 l0_0.length c0_0) := (blk_cell BK305.out 0).trans rfl; have hfz68_0 := blk_frozen BK305.out 0; have hcz69_0 : w66.cell? ⟨gb306, 0, none⟩ = some (.slice A1_0 l1_0.length c1_0) := (blk_cell BK306.out 0).trans rfl; have hfz69_0 := blk_frozen BK306.out 0))
  repeat (go_quiet (first | ((with_reducible refine gate_dst (N := 2) rfl ?_); (try (refine gate_guard (by rfl) ?_; dsimp only)); refine box_event ?hg (N := 2) ?hd (cs := #[.slice A0_0 l0_0.length c0_0]) (t := 37) ?hr ?_; (case hd => rfl); (case hg => rfl); (case hr => first | (go_simp; done) | (go_simp; rfl)); intro gb305 hg w65 hbox hb; have n0_ := Aside0.mk (below_step bs_ hb); have n1_ := Aside0.mk (hbox); have n2_ := Aside0.mk ((by rw [hg]; exact (below_size bs_) : w.heap.size ≤ gb305)); have n3_ := Aside0.mk ((by rw [hg]; exact (below_size bs_) : w.heap.size ≤ gb305)); clear HB; have HB := n0_; have BK305 := n1_; have GW305 := n2_; have GE305 := n3_; clear n0_ n1_ n2_ n3_; clear hb hbox hg) | ((with_reducible refine gate_dst (N := 3) rfl ?_); (try (refine gate_guard (by rfl) ?_; dsimp only)); refine box_event ?hg (N := 3) ?hd (cs := #[.slice A1_0 l1_0.length c1_0]) (t := 37) ?hr ?_; (case hd => rfl); (case hg => rfl); (case hr => first | (go_simp; done) | (go_simp; rfl)); intro gb306 hg w66 hbox hb; have n0_ := Aside0.mk (blk_below (bk_ BK305) hb); have n1_ := Aside0.mk (below_step bs_ hb); have n2_ := Aside0.mk (hbox); have n3_ := Aside0.mk ((by rw [hg]; exact (below_size bs_) : w.heap.size ≤ gb306)); have n4_ := Aside0.mk ((by rw [hg]; exact (below_size bs_) : w.heap.size ≤ gb306)); have n5_ := Aside0.mk ((by rw [hg]; exact Nat.ne_of_lt (blk_lt (bk_ BK305)) : gb305 ≠ gb306)); have n6_ := Aside0.mk ((by rw [hg]; exact Nat.ne_of_gt (blk_lt (bk_ BK305)) : gb306 ≠ gb305)); clear BK305 HB; have BK305 := n0_; have HB := n1_; have BK306 := n2_; have GW306 := n3_; have GE306 := n4_; have NB305_306 := n5_; have NB306_305 := n6_; clear n0_ n1_ n2_ n3_ n4_ n5_ n6_; clear hb hbox hg; have hnb67 := NB305_306.out; have hnc67 := NB306_305.out; have hcz68_0 : w66.cell? ⟨gb305, 0, none⟩ = some (.slice A0_0 l0_0.length c0_0) := (blk_cell BK305.out 0).trans rfl; have hfz68_0 := blk_frozen BK305.out 0; have hcz69_0 : w66.cell? ⟨gb306, 0, none⟩ = some (.slice A1_0 l1_0.length c1_0) := (blk_cell BK306.out 0).trans rfl; have hfz69_0 := blk_frozen BK306.out 0)); try go_wp2_with (first | ((with_reducible refine gate_dst (N := 2) rfl ?_); (try (refine gate_guard (by rfl) ?_; dsimp only)); refine box_event ?hg (N := 2) ?hd (cs := #[.slice A0_0 l0_0.length c0_0]) (t := 37) ?hr ?_; (case hd => rfl); (case hg => rfl); (case hr => first | (go_simp; done) | (go_simp; rfl)); intro gb305 hg w65 hbox hb; have n0_ := Aside0.mk (below_step bs_ hb); have n1_ := Aside0.mk (hbox); have n2_ := Aside0.mk ((by rw [hg]; exact (below_size bs_) : w.heap.size ≤ gb305)); have n3_ := Aside0.mk ((by rw [hg]; exact (below_size bs_) : w.heap.size ≤ gb305)); clear HB; have HB := n0_; have BK305 := n1_; have GW305 := n2_; have GE305 := n3_; clear n0_ n1_ n2_ n3_; clear hb hbox hg) | ((with_reducible refine gate_dst (N := 3) rfl ?_); (try (refine gate_guard (by rfl) ?_; dsimp only)); refine box_event ?hg (N := 3) ?hd (cs := #[.slice A1_0 l1_0.length c1_0]) (t := 37) ?hr ?_; (case hd => rfl); (case hg => rfl); (case hr => first | (go_simp; done) | (go_simp; rfl)); intro gb306 hg w66 hbox hb; have n0_ := Aside0.mk (blk_below (bk_ BK305) hb); have n1_ := Aside0.mk (below_step bs_ hb); have n2_ := Aside0.mk (hbox); have n3_ := Aside0.mk ((by rw [hg]; exact (below_size bs_) : w.heap.size ≤ gb306)); have n4_ := Aside0.mk ((by rw [hg]; exact (below_size bs_) : w.heap.size ≤ gb306)); have n5_ := Aside0.mk ((by rw [hg]; exact Nat.ne_of_lt (blk_lt (bk_ BK305)) : gb305 ≠ gb306)); have n6_ := Aside0.mk ((by rw [hg]; exact Nat.ne_of_gt (blk_lt (bk_ BK305)) : gb306 ≠ gb305)); clear BK305 HB; have BK305 := n0_; have HB := n1_; have BK306 := n2_; have GW306 := n3_; have GE306 := n4_; have NB305_306 := n5_; have NB306_305 := n6_; clear n0_ n1_ n2_ n3_ n4_ n5_ n6_; clear hb hbox hg; have hnb67 := NB305_306.out; have hnc67 := NB306_305.out; have hcz68_0 : w66.cell? ⟨gb305, 0, none⟩ = some (.slice A0_0 l0_0.length c0_0) := (blk_cell BK305.out 0).trans rfl; have hfz68_0 := blk_frozen BK305.out 0; have hcz69_0 : w66.cell? ⟨gb306, 0, none⟩ = some (.slice A1_0 l1_0.length c1_0) := (blk_cell BK306.out 0).trans rfl; have hfz69_0 := blk_frozen BK306.out 0)))
  go_ret
  exact ⟨by first | rfl | (simp [errW_none, errW_some] <;> rfl) | (simp [*, errW_none, errW_some] <;> rfl), by repeat (first | (with_reducible first | exact HB.out | apply below_alloc | apply pw_below_drewN | apply below_drew1 | refine below_set ?_ GE305.out | refine below_set ?_ GE306.out) | exact HB.out)⟩

end Go.Proofs.Ytlboachgeepadaa.P
