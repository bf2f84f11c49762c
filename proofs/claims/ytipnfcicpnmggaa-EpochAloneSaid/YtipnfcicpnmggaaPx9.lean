-- Written by a program of this session over the kit's print of the translation. Lean checks it.
import Derived.Test.YtipnfcicpnmggaaPx0
import Derived.Test.YtipnfcicpnmggaaSel
-- shorter
namespace Go.Proofs.Ytipnfcicpnmggaa.P
open Go.RowKit Go.Proofs.YtipnfcicpnmggaaW.PrintWords Go.Proofs.YtipnfcicpnmggaaW.PrintLast Go.Proofs.YtipnfcicpnmggaaW.PrintMore
attribute [local go_sem] max2_int min2_int max_two min_two max_three min_three max_four min_four   -- for this text's walks alone
set_option linter.unusedVariables false
set_option linter.unusedSimpArgs false

/-! ### epoch_ready: function 29 -/
def epoch_ready.l0 : Nat → Int → Int → Int → Int → Int → Int → List (S43) → Int → Int → Option (Bool)
  | 0, _, _, _, _, _, _, _, _, _ => none
  | k + 1, x6, x160000, x160001, x160002, x160003, x160004, x160005, x161000, x161001 => if x6 < 4 then (if 0 ≤ x6 then (if (sel4I x160001 x160002 x160003 x160004 x6) = 0 then (epoch_ready.l0 k (wrap64 (x6 + 1)) x160000 x160001 x160002 x160003 x160004 x160005 x161000 x161001) else (if (sel4I x160001 x160002 x160003 x160004 x6) ≤ x161001 then (some false) else (epoch_ready.l0 k (wrap64 (x6 + 1)) x160000 x160001 x160002 x160003 x160004 x160005 x161000 x161001))) else (none)) else (some true)
def epoch_ready.f (k : Nat) (a0_0 : Int) (a0_1 : Int) (a0_2 : Int) (a0_3 : Int) (a0_4 : Int) (l0_5 : List (S43)) (a1_0 : Int) (a1_1 : Int) : Option (Bool) := epoch_ready.l0 k 0 a0_0 a0_1 a0_2 a0_3 a0_4 l0_5 a1_0 a1_1
theorem epoch_ready.mono_l : ∀ k, (∀ y0 y1 y2 y3 y4 y5 y6 y7 y8, LeO (epoch_ready.l0 k y0 y1 y2 y3 y4 y5 y6 y7 y8) (epoch_ready.l0 (k + 1) y0 y1 y2 y3 y4 y5 y6 y7 y8))
  | 0 => fun _ _ _ _ _ _ _ _ _ r h => by simp [epoch_ready.l0] at h
  | k + 1 => by
    have ih0 := epoch_ready.mono_l k
    · intro y0 y1 y2 y3 y4 y5 y6 y7 y8
      unfold epoch_ready.l0
      repeat' first
      | (with_reducible exact ih0 _ _ _ _ _ _ _ _ _)
      | (with_reducible exact LeO.refl _)
      | (with_reducible exact LeO.none _)
      | (with_reducible refine LeO.ite ?_ ?_)
      | (with_reducible refine LeO.bind ?_ (fun _ => ?_))
      | exact ih0 _ _ _ _ _ _ _ _ _
      | exact LeO.none _
      | refine LeO.ite ?_ ?_
      | refine LeO.bind ?_ (fun _ => ?_)
theorem epoch_ready.mono : ∀ a0 a1 a2 a3 a4 a5 a6 a7 k, LeO (epoch_ready.f k a0 a1 a2 a3 a4 a5 a6 a7) (epoch_ready.f (k + 1) a0 a1 a2 a3 a4 a5 a6 a7) := by
 intro a0 a1 a2 a3 a4 a5 a6 a7 k
 have ih0 := epoch_ready.mono_l k
 unfold epoch_ready.f
 repeat' first
  | (with_reducible exact ih0 _ _ _ _ _ _ _ _ _)
  | (with_reducible exact LeO.refl _)
  | (with_reducible exact LeO.none _)
  | (with_reducible refine LeO.ite ?_ ?_)
  | (with_reducible refine LeO.bind ?_ (fun _ => ?_))
  | exact ih0 _ _ _ _ _ _ _ _ _
  | exact LeO.none _
  | refine LeO.ite ?_ ?_
  | refine LeO.bind ?_ (fun _ => ?_)
set_option maxHeartbeats 8000000 in
set_option maxRecDepth 100000 in
theorem epoch_ready.calls (k : Nat) (a0_0 : Int) (a0_1 : Int) (a0_2 : Int) (a0_3 : Int) (a0_4 : Int) (A0_5 : Option Addr) (c0_5 : Nat) (l0_5 : List (S43)) (a1_0 : Int) (a1_1 : Int) (r : Bool) (w : World) (hr0_5 : Kd.C k43 w A0_5 l0_5.length l0_5) (hc0_5 : l0_5.length ≤ c0_5) (h : epoch_ready.f k a0_0 a0_1 a0_2 a0_3 a0_4 l0_5 a1_0 a1_1 = some r) :
    Calls Try.prog 29 #[.agg #[.int .i64 a0_0, .int .i64 a0_1, .int .i64 a0_2, .int .i64 a0_3, .int .i64 a0_4, .slice A0_5 l0_5.length c0_5], .agg #[.int .i64 a1_0, .int .i64 a1_1]] w fun e w' => e = .returned (.bool r) ∧ Below w.heap.size w w' := by
 have hu25 := Try.underlying25
 have hu43 := Try.underlying43
 have HR0_5 := Aside0.mk hr0_5
 have HC0_5 := Aside0.mk hc0_5
 clear hr0_5 hc0_5
 have HB := Aside0.mk (Below.refl w.heap.size w)
 have H : (epoch_ready.l0 k 0 a0_0 a0_1 a0_2 a0_3 a0_4 l0_5 a1_0 a1_1) = some r := h
 clear h
 have H' := Aside0.mk H
 clear H
 go_enter Try.func29, Try.ntmps29
 go_wp2_with (first | ((with_reducible refine gate_dst (N := 2) rfl ?_); refine box_event ?hg (N := 2) ?hd (cs := #[.int .i64 a0_0, .int .i64 a0_1, .int .i64 a0_2, .int .i64 a0_3, .int .i64 a0_4, .slice A0_5 l0_5.length c0_5]) (t := 25) ?hr ?_; (case hd => rfl); (case hg => rfl); (case hr => first | (go_simp; done) | (go_simp; rfl)); intro gb159 hg w3 hbox hb; have n0_ := Aside0.mk (below_step bs_ hb); have n1_ := Aside0.mk (hbox); have n2_ := Aside0.mk ((by rw [hg]; exact (below_size bs_) : w.heap.size ≤ gb159)); have n3_ := Aside0.mk ((by rw [hg]; exact (below_size bs_) : w.heap.size ≤ gb159)); clear HB; have HB := n0_; have BK159 := n1_; have GW159 := n2_; have GE159 := n3_; clear n0_ n1_ n2_ n3_; clear hb hbox hg) | ((with_reducible refine gate_dst (N := 3) rfl ?_); refine box_event ?hg (N := 3) ?hd (cs := #[.int .i64 a1_0, .int .i64 a1_1]) (t := 43) ?hr ?_; (case hd => rfl); (case hg => rfl); (case hr => first | (go_simp; done) | (go_simp; rfl)); intro gb160 hg w4 hbox hb; have n0_ := Aside0.mk (blk_below (bk_ BK159) hb); have n1_ := Aside0.mk (below_step bs_ hb); have n2_ := Aside0.mk (hbox); have n3_ := Aside0.mk ((by rw [hg]; exact (below_size bs_) : w.heap.size ≤ gb160)); have n4_ := Aside0.mk ((by rw [hg]; exact (below_size bs_) : w.heap.size ≤ gb160)); have n5_ := Aside0.mk ((by rw [hg]; exact Nat.ne_of_lt (blk_lt (bk_ BK159)) : gb159 ≠ gb160)); have n6_ := Aside0.mk ((by rw [hg]; exact Nat.ne_of_gt (blk_lt (bk_ BK159)) : gb160 ≠ gb159)); clear BK159 HB; have BK159 := n0_; have HB := n1_; have BK160 := n2_; have GW160 := n3_; have GE160 := n4_; have NB159_160 := n5_; have NB160_159 := n6_; clear n0_ n1_ n2_ n3_ n4_ n5_ n6_; clear hb hbox hg))
 repeat (go_quiet (first | ((with_reducible refine gate_dst (N := 2) rfl ?_); refine box_event ?hg (N := 2) ?hd (cs := #[.int .i64 a0_0, .int .i64 a0_1, .int .i64 a0_2, .int .i64 a0_3, .int .i64 a0_4, .slice A0_5 l0_5.length c0_5]) (t := 25) ?hr ?_; (case hd => rfl); (case hg => rfl); (case hr => first | (go_simp; done) | (go_simp; rfl)); intro gb159 hg w3 hbox hb; have n0_ := Aside0.mk (below_step bs_ hb); have n1_ := Aside0.mk (hbox); have n2_ := Aside0.mk ((by rw [hg]; exact (below_size bs_) : w.heap.size ≤ gb159)); have n3_ := Aside0.mk ((by rw [hg]; exact (below_size bs_) : w.heap.size ≤ gb159)); clear HB; have HB := n0_; have BK159 := n1_; have GW159 := n2_; have GE159 := n3_; clear n0_ n1_ n2_ n3_; clear hb hbox hg) | ((with_reducible refine gate_dst (N := 3) rfl ?_); refine box_event ?hg (N := 3) ?hd (cs := #[.int .i64 a1_0, .int .i64 a1_1]) (t := 43) ?hr ?_; (case hd => rfl); (case hg => rfl); (case hr => first | (go_simp; done) | (go_simp; rfl)); intro gb160 hg w4 hbox hb; have n0_ := Aside0.mk (blk_below (bk_ BK159) hb); have n1_ := Aside0.mk (below_step bs_ hb); have n2_ := Aside0.mk (hbox); have n3_ := Aside0.mk ((by rw [hg]; exact (below_size bs_) : w.heap.size ≤ gb160)); have n4_ := Aside0.mk ((by rw [hg]; exact (below_size bs_) : w.heap.size ≤ gb160)); have n5_ := Aside0.mk ((by rw [hg]; exact Nat.ne_of_lt (blk_lt (bk_ BK159)) : gb159 ≠ gb160)); have n6_ := Aside0.mk ((by rw [hg]; exact Nat.ne_of_gt (blk_lt (bk_ BK159)) : gb160 ≠ gb159)); clear BK159 HB; have BK159 := n0_; have HB := n1_; have BK160 := n2_; have GW160 := n3_; have GE160 := n4_; have NB159_160 := n5_; have NB160_159 := n6_; clear n0_ n1_ n2_ n3_ n4_ n5_ n6_; clear hb hbox hg)); try go_wp2_with (first | ((with_reducible refine gate_dst (N := 2) rfl ?_); refine box_event ?hg (N := 2) ?hd (cs := #[.int .i64 a0_0, .int .i64 a0_1, .int .i64 a0_2, .int .i64 a0_3, .int .i64 a0_4, .slice A0_5 l0_5.length c0_5]) (t := 25) ?hr ?_; (case hd => rfl); (case hg => rfl); (case hr => first | (go_simp; done) | (go_simp; rfl)); intro gb159 hg w3 hbox hb; have n0_ := Aside0.mk (below_step bs_ hb); have n1_ := Aside0.mk (hbox); have n2_ := Aside0.mk ((by rw [hg]; exact (below_size bs_) : w.heap.size ≤ gb159)); have n3_ := Aside0.mk ((by rw [hg]; exact (below_size bs_) : w.heap.size ≤ gb159)); clear HB; have HB := n0_; have BK159 := n1_; have GW159 := n2_; have GE159 := n3_; clear n0_ n1_ n2_ n3_; clear hb hbox hg) | ((with_reducible refine gate_dst (N := 3) rfl ?_); refine box_event ?hg (N := 3) ?hd (cs := #[.int .i64 a1_0, .int .i64 a1_1]) (t := 43) ?hr ?_; (case hd => rfl); (case hg => rfl); (case hr => first | (go_simp; done) | (go_simp; rfl)); intro gb160 hg w4 hbox hb; have n0_ := Aside0.mk (blk_below (bk_ BK159) hb); have n1_ := Aside0.mk (below_step bs_ hb); have n2_ := Aside0.mk (hbox); have n3_ := Aside0.mk ((by rw [hg]; exact (below_size bs_) : w.heap.size ≤ gb160)); have n4_ := Aside0.mk ((by rw [hg]; exact (below_size bs_) : w.heap.size ≤ gb160)); have n5_ := Aside0.mk ((by rw [hg]; exact Nat.ne_of_lt (blk_lt (bk_ BK159)) : gb159 ≠ gb160)); have n6_ := Aside0.mk ((by rw [hg]; exact Nat.ne_of_gt (blk_lt (bk_ BK159)) : gb160 ≠ gb159)); clear BK159 HB; have BK159 := n0_; have HB := n1_; have BK160 := n2_; have GW160 := n3_; have GE160 := n4_; have NB159_160 := n5_; have NB160_159 := n6_; clear n0_ n1_ n2_ n3_ n4_ n5_ n6_; clear hb hbox hg)))
 go_loopg [6] k (fun kq v6 w' => ∃ (x6_1 : Int), v6 = .int .i64 x6_1 ∧ Aside0 (epoch_ready.l0 kq x6_1 a0_0 a0_1 a0_2 a0_3 a0_4 l0_5 a1_0 a1_1 = some r) ∧ Aside0 (kq ≤ k) ∧ Aside0 (w'.heap[gb159]? = some (.cells #[.int .i64 a0_0, .int .i64 a0_1, .int .i64 a0_2, .int .i64 a0_3, .int .i64 a0_4, (.slice A0_5 l0_5.length c0_5)] 25 (0, 0))) ∧ Aside0 (w'.heap[gb160]? = some (.cells #[.int .i64 a1_0, .int .i64 a1_1] 43 (0, 0))) ∧ Aside0 (Below w.heap.size w w'))
 case atStart => exact ⟨(0), eq_, H', ⟨Nat.le_refl _⟩, ⟨bk_ BK159⟩, ⟨bk_ BK160⟩, ⟨bs_⟩⟩
 case round =>
  clear H'
  obtain ⟨x6_1, rfl, HA, HK1, BK159, BK160, HB⟩ := hrel
  cases gk with
  | zero => exact absurd HA.out (by simp [epoch_ready.l0])
  | succ k1 =>
   have H := HA.out
   clear HA
   simp only [epoch_ready.l0] at H
   by_cases c5 : x6_1 < 4
   ·rw [if_pos c5] at H
    have c5b0 : decide (x6_1 < 4) = true := decide_eq_true c5
    clear c5
    by_cases c6 : 0 ≤ x6_1
    ·rw [if_pos c6] at H
     have c6b0 : decide (0 ≤ x6_1) = true := decide_eq_true c6
     clear c6
     by_cases c7 : (sel4I a0_1 a0_2 a0_3 a0_4 x6_1) = 0
     ·rw [if_pos c7] at H
      have c7b0 : ((sel4I a0_1 a0_2 a0_3 a0_4 x6_1) == 0) = true := beq_iff_eq.mpr c7
      have c7b1 : ((sel4I a0_1 a0_2 a0_3 a0_4 x6_1) != 0) = false := bne_eq_false_iff_eq.mpr c7
      clear c7
      have H' := Aside0.mk H
      clear H
      have hnb8 := NB159_160.out
      have hnc8 := NB160_159.out
      obtain ⟨hcz9_0, hcz9_1, hcz9_2, hcz9_3, hcz9_4, hcz9_5, hfz9_0, hfz9_1, hfz9_2, hfz9_3, hfz9_4, hfz9_5⟩ := blk6 BK159
      have pz10 : (0 ≤ (x6_1 : Int)) = True := eq_true (of_decide_eq_true (by first | (with_reducible assumption) | assumption))
      have qz10 : ((x6_1 : Int) < 4) = True := eq_true (of_decide_eq_true (by first | (with_reducible assumption) | assumption))
      have hcz10_v : wr.cell? ⟨gb159, 1 + (x6_1).toNat, none⟩ = some (.int .i64 (sel4I a0_1 a0_2 a0_3 a0_4 x6_1)) := (blk_sel4I BK159.out rfl rfl rfl rfl (of_eq_true pz10) (of_eq_true qz10))
      go_wp2
      repeat (go_quiet (fail); try go_wp2)
      go_roundg k1
      case measure => have := HK1.out; omega
      case rel => exact ⟨(wrap64 (x6_1 + 1)), eq_, H', ⟨by have := HK1.out; omega⟩, ⟨bk_ BK159⟩, ⟨bk_ BK160⟩, ⟨bs_⟩⟩
     ·rw [if_neg c7] at H
      have c7b0 : ((sel4I a0_1 a0_2 a0_3 a0_4 x6_1) == 0) = false := beq_eq_false_iff_ne.mpr c7
      have c7b1 : ((sel4I a0_1 a0_2 a0_3 a0_4 x6_1) != 0) = true := bne_iff_ne.mpr c7
      by_cases c11 : (sel4I a0_1 a0_2 a0_3 a0_4 x6_1) ≤ a1_1
      ·rw [if_pos c11] at H
       have c11b0 : decide ((sel4I a0_1 a0_2 a0_3 a0_4 x6_1) ≤ a1_1) = true := decide_eq_true c11
       clear c11
       obtain rfl := Option.some.inj H
       have hnb12 := NB159_160.out
       have hnc12 := NB160_159.out
       obtain ⟨hcz13_0, hcz13_1, hcz13_2, hcz13_3, hcz13_4, hcz13_5, hfz13_0, hfz13_1, hfz13_2, hfz13_3, hfz13_4, hfz13_5⟩ := blk6 BK159
       have pz14 : (0 ≤ (x6_1 : Int)) = True := eq_true (of_decide_eq_true (by first | (with_reducible assumption) | assumption))
       have qz14 : ((x6_1 : Int) < 4) = True := eq_true (of_decide_eq_true (by first | (with_reducible assumption) | assumption))
       have hcz14_v : wr.cell? ⟨gb159, 1 + (x6_1).toNat, none⟩ = some (.int .i64 (sel4I a0_1 a0_2 a0_3 a0_4 x6_1)) := (blk_sel4I BK159.out rfl rfl rfl rfl (of_eq_true pz14) (of_eq_true qz14))
       have pz15 : (0 ≤ (x6_1 : Int)) = True := eq_true (of_decide_eq_true (by first | (with_reducible assumption) | assumption))
       have qz15 : ((x6_1 : Int) < 4) = True := eq_true (of_decide_eq_true (by first | (with_reducible assumption) | assumption))
       have hcz15_v : wr.cell? ⟨gb159, 1 + (x6_1).toNat, none⟩ = some (.int .i64 (sel4I a0_1 a0_2 a0_3 a0_4 x6_1)) := (blk_sel4I BK159.out rfl rfl rfl rfl (of_eq_true pz15) (of_eq_true qz15))
       obtain ⟨hcz16_0, hcz16_1, hfz16_0, hfz16_1⟩ := blk2 BK160
       go_wp2
       repeat (go_quiet (fail); try go_wp2)
       go_ret
       exact ⟨by first | rfl | (simp [errW_none, errW_some] <;> rfl) | (simp [*, errW_none, errW_some] <;> rfl), by repeat (first | (with_reducible first | exact HB.out | apply below_alloc | apply pw_below_drewN | apply below_drew1 | refine below_set ?_ GE159.out | refine below_set ?_ GE160.out) | exact HB.out)⟩
      ·rw [if_neg c11] at H
       have c11b0 : decide ((sel4I a0_1 a0_2 a0_3 a0_4 x6_1) ≤ a1_1) = false := decide_eq_false c11
       clear c11
       have H' := Aside0.mk H
       clear H
       have hnb17 := NB159_160.out
       have hnc17 := NB160_159.out
       obtain ⟨hcz18_0, hcz18_1, hcz18_2, hcz18_3, hcz18_4, hcz18_5, hfz18_0, hfz18_1, hfz18_2, hfz18_3, hfz18_4, hfz18_5⟩ := blk6 BK159
       have pz19 : (0 ≤ (x6_1 : Int)) = True := eq_true (of_decide_eq_true (by first | (with_reducible assumption) | assumption))
       have qz19 : ((x6_1 : Int) < 4) = True := eq_true (of_decide_eq_true (by first | (with_reducible assumption) | assumption))
       have hcz19_v : wr.cell? ⟨gb159, 1 + (x6_1).toNat, none⟩ = some (.int .i64 (sel4I a0_1 a0_2 a0_3 a0_4 x6_1)) := (blk_sel4I BK159.out rfl rfl rfl rfl (of_eq_true pz19) (of_eq_true qz19))
       have pz20 : (0 ≤ (x6_1 : Int)) = True := eq_true (of_decide_eq_true (by first | (with_reducible assumption) | assumption))
       have qz20 : ((x6_1 : Int) < 4) = True := eq_true (of_decide_eq_true (by first | (with_reducible assumption) | assumption))
       have hcz20_v : wr.cell? ⟨gb159, 1 + (x6_1).toNat, none⟩ = some (.int .i64 (sel4I a0_1 a0_2 a0_3 a0_4 x6_1)) := (blk_sel4I BK159.out rfl rfl rfl rfl (of_eq_true pz20) (of_eq_true qz20))
       obtain ⟨hcz21_0, hcz21_1, hfz21_0, hfz21_1⟩ := blk2 BK160
       go_wp2
       repeat (go_quiet (fail); try go_wp2)
       go_roundg k1
       case measure => have := HK1.out; omega
       case rel => exact ⟨(wrap64 (x6_1 + 1)), eq_, H', ⟨by have := HK1.out; omega⟩, ⟨bk_ BK159⟩, ⟨bk_ BK160⟩, ⟨bs_⟩⟩
    ·rw [if_neg c6] at H
     exact absurd H (by simp)
   ·rw [if_neg c5] at H
    have c5b0 : decide (x6_1 < 4) = false := decide_eq_false c5
    clear c5
    obtain rfl := Option.some.inj H
    go_wp2
    repeat (go_quiet (fail); try go_wp2)
    go_ret
    exact ⟨by first | rfl | (simp [errW_none, errW_some] <;> rfl) | (simp [*, errW_none, errW_some] <;> rfl), by repeat (first | (with_reducible first | exact HB.out | apply below_alloc | apply pw_below_drewN | apply below_drew1 | refine below_set ?_ GE159.out | refine below_set ?_ GE160.out) | exact HB.out)⟩

end Go.Proofs.Ytipnfcicpnmggaa.P
