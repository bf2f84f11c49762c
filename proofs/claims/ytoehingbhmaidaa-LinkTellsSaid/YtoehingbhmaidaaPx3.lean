-- Written by a program of this session over the kit's print of the translation. Lean checks it.
import Derived.Test.YtoehingbhmaidaaPx0
import Derived.Test.YtoehingbhmaidaaPx2
import Derived.Test.YtoehingbhmaidaaHFind
-- shorter
namespace Go.Proofs.Ytoehingbhmaidaa.P
open Go.RowKit Go.Proofs.YtoehingbhmaidaaW.PrintWords Go.Proofs.YtoehingbhmaidaaW.PrintLast Go.Proofs.YtoehingbhmaidaaW.PrintMore
attribute [local go_sem] max2_int min2_int max_two min_two max_three min_three max_four min_four   -- for this text's walks alone
set_option linter.unusedVariables false
set_option linter.unusedSimpArgs false

/-! ### link_May: function 21 -/
def link_May.l0 : Nat → List (S26) → Int → Int → Int → List (S26) → Option (Bool)
  | 0, _, _, _, _, _ => none
  | k + 1, x6, x7, x8, x103000, x103001 => if x8 < x7 then (if 0 ≤ x8 then (if x8 < (x6.length : Int) then ((link_one.f ((rd_T26 x6 x8).f0) ((rd_T26 x6 x8).f1)).bind fun t105 => (if t105 = true then ((link_find.f x103000 x103001 ((rd_T26 x6 x8).f0)).bind fun t106 => (if t106 = x8 then (link_May.l0 k x6 x7 (wrap64 (x8 + 1)) x103000 x103001) else (some false))) else (some false))) else (none)) else (none)) else (if x103000 ≥ 0 then (if x103000 ≤ 1073741824 then (some (decide ((x103001.length : Int) ≤ 4))) else (some false)) else (some false))
def link_May.f (k : Nat) (a0_0 : Int) (l0_1 : List (S26)) : Option (Bool) := link_May.l0 k l0_1 (l0_1.length : Int) 0 a0_0 l0_1
theorem link_May.mono_l : ∀ k, (∀ y0 y1 y2 y3 y4, LeO (link_May.l0 k y0 y1 y2 y3 y4) (link_May.l0 (k + 1) y0 y1 y2 y3 y4))
  | 0 => fun _ _ _ _ _ r h => by simp [link_May.l0] at h
  | k + 1 => by
    have ih0 := link_May.mono_l k
    · intro y0 y1 y2 y3 y4
      unfold link_May.l0
      repeat' first
      | (with_reducible exact ih0 _ _ _ _ _)
      | (with_reducible exact LeO.refl _)
      | (with_reducible exact LeO.none _)
      | (with_reducible refine LeO.ite ?_ ?_)
      | (with_reducible refine LeO.bind ?_ (fun _ => ?_))
      | exact ih0 _ _ _ _ _
      | exact LeO.none _
      | refine LeO.ite ?_ ?_
      | refine LeO.bind ?_ (fun _ => ?_)
theorem link_May.mono : ∀ a0 a1 k, LeO (link_May.f k a0 a1) (link_May.f (k + 1) a0 a1) := by
 intro a0 a1 k
 have ih0 := link_May.mono_l k
 unfold link_May.f
 repeat' first
  | (with_reducible exact ih0 _ _ _ _ _)
  | (with_reducible exact LeO.refl _)
  | (with_reducible exact LeO.none _)
  | (with_reducible refine LeO.ite ?_ ?_)
  | (with_reducible refine LeO.bind ?_ (fun _ => ?_))
  | exact ih0 _ _ _ _ _
  | exact LeO.none _
  | refine LeO.ite ?_ ?_
  | refine LeO.bind ?_ (fun _ => ?_)
set_option maxHeartbeats 8000000 in
set_option maxRecDepth 100000 in
theorem link_May.calls (k : Nat) (a0_0 : Int) (A0_1 : Option Addr) (c0_1 : Nat) (l0_1 : List (S26)) (r : Bool) (w : World) (hr0_1 : Kd.C k26 w A0_1 l0_1.length l0_1) (hc0_1 : l0_1.length ≤ c0_1) (h : link_May.f k a0_0 l0_1 = some r) :
    Calls Try.prog 21 #[.agg #[.int .i64 a0_0, .slice A0_1 l0_1.length c0_1]] w fun e w' => e = .returned (.bool r) ∧ Below w.heap.size w w' := by
 have hu24 := Try.underlying24
 have hu26 := Try.underlying26
 have HR0_1 := Aside0.mk hr0_1
 have HC0_1 := Aside0.mk hc0_1
 clear hr0_1 hc0_1
 have HB := Aside0.mk (Below.refl w.heap.size w)
 have H : (link_May.l0 k l0_1 (l0_1.length : Int) 0 a0_0 l0_1) = some r := h
 clear h
 have H' := Aside0.mk H
 clear H
 go_enter Try.func21, Try.ntmps21
 go_wp2_with (first | ((with_reducible refine gate_dst (N := 1) rfl ?_); (try (refine gate_guard (by rfl) ?_; dsimp only)); refine box_event ?hg (N := 1) ?hd (cs := #[.int .i64 a0_0, .slice A0_1 l0_1.length c0_1]) (t := 24) ?hr ?_; (case hd => rfl); (case hg => rfl); (case hr => first | (go_simp; done) | (go_simp; rfl)); intro gb102 hg w2 hbox hb; have n0_ := Aside0.mk (below_step bs_ hb); have n1_ := Aside0.mk (hbox); have n2_ := Aside0.mk ((by rw [hg]; exact (below_size bs_) : w.heap.size ≤ gb102)); have n3_ := Aside0.mk ((by rw [hg]; exact (below_size bs_) : w.heap.size ≤ gb102)); clear HB; have HB := n0_; have BK102 := n1_; have GW102 := n2_; have GE102 := n3_; clear n0_ n1_ n2_ n3_; clear hb hbox hg; obtain ⟨hcz3_0, hcz3_1, hfz3_0, hfz3_1⟩ := blk2 BK102))
 go_loopg [8] k (fun kq v8 w' => ∃ (x8_1 : Int), v8 = .int .i64 x8_1 ∧ Aside0 (link_May.l0 kq l0_1 (l0_1.length : Int) x8_1 a0_0 l0_1 = some r) ∧ Aside0 (kq ≤ k) ∧ Aside0 (w'.heap[gb102]? = some (.cells #[.int .i64 a0_0, (.slice A0_1 l0_1.length c0_1)] 24 (0, 0))) ∧ Aside0 (Below w.heap.size w w'))
 case atStart => exact ⟨(0), (by first | rfl | (simp; done) | (simp [*]; done)), H', ⟨Nat.le_refl _⟩, ⟨bk_ BK102⟩, ⟨bs_⟩⟩
 case round =>
  clear H'
  try clear hcz3_0
  try clear hcz3_1
  try clear hfz3_0
  try clear hfz3_1
  obtain ⟨x8_1, rfl, HA, HK1, BK102, HB⟩ := hrel
  cases gk with
  | zero => exact absurd HA.out (by simp [link_May.l0])
  | succ k1 =>
   have H := HA.out
   clear HA
   simp only [link_May.l0] at H
   by_cases c4 : x8_1 < (l0_1.length : Int)
   ·rw [if_pos c4] at H
    have c4b0 : decide (x8_1 < (l0_1.length : Int)) = true := decide_eq_true c4
    clear c4
    by_cases c5 : 0 ≤ x8_1
    ·rw [if_pos c5] at H
     have c5b0 : decide (0 ≤ x8_1) = true := decide_eq_true c5
     clear c5
     by_cases c6 : x8_1 < (l0_1.length : Int)
     ·rw [if_pos c6] at H
      have c6b0 : decide (x8_1 < (l0_1.length : Int)) = true := decide_eq_true c6
      clear c6
      replace H := Option.bind_eq_some_iff.mp H
      obtain ⟨t105, A70, H⟩ := H
      replace H : (if t105 = true then ((link_find.f a0_0 l0_1 ((rd_T26 l0_1 x8_1).f0)).bind fun t106 => (if t106 = x8_1 then (link_May.l0 k1 l0_1 (l0_1.length : Int) (wrap64 (x8_1 + 1)) a0_0 l0_1) else (some false))) else (some false)) = some r := H
      have A7 := Aside0.mk A70
      clear A70
      by_cases c8 : t105 = true
      ·subst c8
       have H1 : ((link_find.f a0_0 l0_1 ((rd_T26 l0_1 x8_1).f0)).bind fun t106 => (if t106 = x8_1 then (link_May.l0 k1 l0_1 (l0_1.length : Int) (wrap64 (x8_1 + 1)) a0_0 l0_1) else (some false))) = some r := by rw [if_pos rfl] at H; exact H
       clear H
       have H := H1
       clear H1
       replace H := Option.bind_eq_some_iff.mp H
       obtain ⟨t106, A90, H⟩ := H
       replace H : (if t106 = x8_1 then (link_May.l0 k1 l0_1 (l0_1.length : Int) (wrap64 (x8_1 + 1)) a0_0 l0_1) else (some false)) = some r := H
       have A9 := Aside0.mk A90
       clear A90
       by_cases c10 : t106 = x8_1
       ·rw [if_pos c10] at H
        have c10b0 : (t106 == x8_1) = true := beq_iff_eq.mpr c10
        have c10b1 : (t106 != x8_1) = false := bne_eq_false_iff_eq.mpr c10
        clear c10
        have H' := Aside0.mk H
        clear H
        have p103 : 0 ≤ (x8_1 : Int) := of_decide_eq_true (by first | (with_reducible assumption) | assumption)
        have q103 : x8_1 < (l0_1.length : Int) := of_decide_eq_true (by first | (with_reducible assumption) | assumption)
        obtain ⟨ad103, e103, hx103_0, hx103_1⟩ := at_T26 HR0_1.out x8_1 p103 q103
        cases e103
        replace hx103_0 := (HB.out.cell (World.block_lt_of_cell? w _ hx103_0)).trans hx103_0
        replace hx103_1 := (HB.out.cell (World.block_lt_of_cell? w _ hx103_1)).trans hx103_1
        replace p103 := eq_true p103
        replace q103 := eq_true q103
        go_wp2_with (first | ((with_reducible refine gate_dst (N := 4) rfl ?_); (try (refine gate_guard (by rfl) ?_; dsimp only)); refine box_event ?hg (N := 4) ?hd (cs := #[.int .i64 0, .int .i64 0]) (t := 26) ?hr ?_; (case hd => rfl); (case hg => rfl); (case hr => first | (go_simp; done) | (go_simp; rfl)); intro gb104 hg w11 hbox hb; have n0_ := Aside0.mk (blk_below (bk_ BK102) hb); have n1_ := Aside0.mk (below_step bs_ hb); have n2_ := Aside0.mk (hbox); have n3_ := Aside0.mk ((by rw [hg]; exact (below_size bs_) : w.heap.size ≤ gb104)); have n4_ := Aside0.mk ((by rw [hg]; exact (below_size bs_) : w.heap.size ≤ gb104)); have n5_ := Aside0.mk ((by rw [hg]; exact Nat.ne_of_lt (blk_lt (bk_ BK102)) : gb102 ≠ gb104)); have n6_ := Aside0.mk ((by rw [hg]; exact Nat.ne_of_gt (blk_lt (bk_ BK102)) : gb104 ≠ gb102)); clear BK102 HB; have BK102 := n0_; have HB := n1_; have BK104 := n2_; have GW104 := n3_; have GE104 := n4_; have NB102_104 := n5_; have NB104_102 := n6_; clear n0_ n1_ n2_ n3_ n4_ n5_ n6_; clear hb hbox hg; have hnb12 := NB104_102.out; have hnc12 := NB102_104.out; obtain ⟨hcz13_0, hcz13_1, hfz13_0, hfz13_1⟩ := blk2 BK104) | ((with_reducible refine gate_callee (f := 30) rfl ?_); refine goesL_ (some 14) rfl rfl Try.func30 (by kernel_rfl) rfl #[.agg #[.int .i64 ((rd_T26 l0_1 x8_1).f0), .int .i64 ((rd_T26 l0_1 x8_1).f1)]] rfl (by (try simp only [List.map_toArray, List.map_cons, List.map_nil]); first | done | rfl | (simp only [List.length_drop, List.length_take]; rfl)) ?_; (with_reducible refine (link_one.calls ((rd_T26 l0_1 x8_1).f0) ((rd_T26 l0_1 x8_1).f1) true _ A7.out).mono ?_); rintro e w14 ⟨rfl, hb⟩; refine ⟨_, rfl, ?_⟩; have n0_ := Aside0.mk (blk_below (bf_ BK102) hb); have n1_ := Aside0.mk (blk_below (bp_ (o := .cells #[.int .i64 ((rd_T26 l0_1 x8_1).f0), .int .i64 ((rd_T26 l0_1 x8_1).f1)] 26 (0, 0)) BK104) hb); have n2_ := Aside0.mk (below_step bs_ hb); clear BK102 BK104 HB; have BK102 := n0_; have BK104 := n1_; have HB := n2_; clear n0_ n1_ n2_; (try clear hb); (try clear hb2); (try clear hk); (try clear hi); obtain ⟨hcz15_0, hcz15_1, hfz15_0, hfz15_1⟩ := blk2 BK102; obtain ⟨hcz16_0, hcz16_1, hfz16_0, hfz16_1⟩ := blk2 BK104) | (go_at_call 24; (with_reducible refine (link_find.calls a0_0 _ _ l0_1 ((rd_T26 l0_1 x8_1).f0) t106 _ ?side1 ?side2 A9.out).mono ?_); (case side1 => repeat (first | exact (Kd.C_below HR0_1.out HB.out) | (with_reducible refine Kd.C_alloc ?_ _) | (with_reducible refine Kd.C_drewN ?_ _) | (with_reducible refine Kd.C_drew ?_))); (case side2 => exact HC0_1.out); rintro e w17 ⟨rfl, hb⟩; have n0_ := Aside0.mk (blk_below (bk_ BK102) hb); have n1_ := Aside0.mk (blk_below (bk_ BK104) hb); have n2_ := Aside0.mk (below_step bs_ hb); clear BK102 BK104 HB; have BK102 := n0_; have BK104 := n1_; have HB := n2_; clear n0_ n1_ n2_; (try clear hb); (try clear hb2); (try clear hk); (try clear hi)))
        go_roundg k1
        case measure => have := HK1.out; omega
        case rel => exact ⟨(wrap64 (x8_1 + 1)), (by first | rfl | (simp; done) | (simp [*]; done)), H', ⟨by have := HK1.out; omega⟩, ⟨bk_ BK102⟩, ⟨bs_⟩⟩
       ·rw [if_neg c10] at H
        have c10b0 : (t106 == x8_1) = false := beq_eq_false_iff_ne.mpr c10
        have c10b1 : (t106 != x8_1) = true := bne_iff_ne.mpr c10
        obtain rfl := Option.some.inj H
        have p103 : 0 ≤ (x8_1 : Int) := of_decide_eq_true (by first | (with_reducible assumption) | assumption)
        have q103 : x8_1 < (l0_1.length : Int) := of_decide_eq_true (by first | (with_reducible assumption) | assumption)
        obtain ⟨ad103, e103, hx103_0, hx103_1⟩ := at_T26 HR0_1.out x8_1 p103 q103
        cases e103
        replace hx103_0 := (HB.out.cell (World.block_lt_of_cell? w _ hx103_0)).trans hx103_0
        replace hx103_1 := (HB.out.cell (World.block_lt_of_cell? w _ hx103_1)).trans hx103_1
        replace p103 := eq_true p103
        replace q103 := eq_true q103
        go_wp2_with (first | ((with_reducible refine gate_dst (N := 4) rfl ?_); (try (refine gate_guard (by rfl) ?_; dsimp only)); refine box_event ?hg (N := 4) ?hd (cs := #[.int .i64 0, .int .i64 0]) (t := 26) ?hr ?_; (case hd => rfl); (case hg => rfl); (case hr => first | (go_simp; done) | (go_simp; rfl)); intro gb104 hg w18 hbox hb; have n0_ := Aside0.mk (blk_below (bk_ BK102) hb); have n1_ := Aside0.mk (below_step bs_ hb); have n2_ := Aside0.mk (hbox); have n3_ := Aside0.mk ((by rw [hg]; exact (below_size bs_) : w.heap.size ≤ gb104)); have n4_ := Aside0.mk ((by rw [hg]; exact (below_size bs_) : w.heap.size ≤ gb104)); have n5_ := Aside0.mk ((by rw [hg]; exact Nat.ne_of_lt (blk_lt (bk_ BK102)) : gb102 ≠ gb104)); have n6_ := Aside0.mk ((by rw [hg]; exact Nat.ne_of_gt (blk_lt (bk_ BK102)) : gb104 ≠ gb102)); clear BK102 HB; have BK102 := n0_; have HB := n1_; have BK104 := n2_; have GW104 := n3_; have GE104 := n4_; have NB102_104 := n5_; have NB104_102 := n6_; clear n0_ n1_ n2_ n3_ n4_ n5_ n6_; clear hb hbox hg; have hnb19 := NB104_102.out; have hnc19 := NB102_104.out; obtain ⟨hcz20_0, hcz20_1, hfz20_0, hfz20_1⟩ := blk2 BK104) | ((with_reducible refine gate_callee (f := 30) rfl ?_); refine goesL_ (some 14) rfl rfl Try.func30 (by kernel_rfl) rfl #[.agg #[.int .i64 ((rd_T26 l0_1 x8_1).f0), .int .i64 ((rd_T26 l0_1 x8_1).f1)]] rfl (by (try simp only [List.map_toArray, List.map_cons, List.map_nil]); first | done | rfl | (simp only [List.length_drop, List.length_take]; rfl)) ?_; (with_reducible refine (link_one.calls ((rd_T26 l0_1 x8_1).f0) ((rd_T26 l0_1 x8_1).f1) true _ A7.out).mono ?_); rintro e w21 ⟨rfl, hb⟩; refine ⟨_, rfl, ?_⟩; have n0_ := Aside0.mk (blk_below (bf_ BK102) hb); have n1_ := Aside0.mk (blk_below (bp_ (o := .cells #[.int .i64 ((rd_T26 l0_1 x8_1).f0), .int .i64 ((rd_T26 l0_1 x8_1).f1)] 26 (0, 0)) BK104) hb); have n2_ := Aside0.mk (below_step bs_ hb); clear BK102 BK104 HB; have BK102 := n0_; have BK104 := n1_; have HB := n2_; clear n0_ n1_ n2_; (try clear hb); (try clear hb2); (try clear hk); (try clear hi); obtain ⟨hcz22_0, hcz22_1, hfz22_0, hfz22_1⟩ := blk2 BK102; obtain ⟨hcz23_0, hcz23_1, hfz23_0, hfz23_1⟩ := blk2 BK104) | (go_at_call 24; (with_reducible refine (link_find.calls a0_0 _ _ l0_1 ((rd_T26 l0_1 x8_1).f0) t106 _ ?side1 ?side2 A9.out).mono ?_); (case side1 => repeat (first | exact (Kd.C_below HR0_1.out HB.out) | (with_reducible refine Kd.C_alloc ?_ _) | (with_reducible refine Kd.C_drewN ?_ _) | (with_reducible refine Kd.C_drew ?_))); (case side2 => exact HC0_1.out); rintro e w24 ⟨rfl, hb⟩; have n0_ := Aside0.mk (blk_below (bk_ BK102) hb); have n1_ := Aside0.mk (blk_below (bk_ BK104) hb); have n2_ := Aside0.mk (below_step bs_ hb); clear BK102 BK104 HB; have BK102 := n0_; have BK104 := n1_; have HB := n2_; clear n0_ n1_ n2_; (try clear hb); (try clear hb2); (try clear hk); (try clear hi)))
        go_ret
        exact ⟨by first | rfl | (simp [errW_none, errW_some] <;> rfl) | (simp [*, errW_none, errW_some] <;> rfl), by repeat (first | (with_reducible first | exact HB.out | apply below_alloc | apply pw_below_drewN | apply below_drew1 | refine below_set ?_ GE102.out | refine below_set ?_ GE104.out) | exact HB.out)⟩
      ·replace c8 := Bool.eq_false_iff.mpr c8
       subst c8
       have H1 : (some false) = some r := by rw [if_neg (show ¬ (false = true) by decide)] at H; exact H
       clear H
       have H := H1
       clear H1
       obtain rfl := Option.some.inj H
       have p103 : 0 ≤ (x8_1 : Int) := of_decide_eq_true (by first | (with_reducible assumption) | assumption)
       have q103 : x8_1 < (l0_1.length : Int) := of_decide_eq_true (by first | (with_reducible assumption) | assumption)
       obtain ⟨ad103, e103, hx103_0, hx103_1⟩ := at_T26 HR0_1.out x8_1 p103 q103
       cases e103
       replace hx103_0 := (HB.out.cell (World.block_lt_of_cell? w _ hx103_0)).trans hx103_0
       replace hx103_1 := (HB.out.cell (World.block_lt_of_cell? w _ hx103_1)).trans hx103_1
       replace p103 := eq_true p103
       replace q103 := eq_true q103
       go_wp2_with (first | ((with_reducible refine gate_dst (N := 4) rfl ?_); (try (refine gate_guard (by rfl) ?_; dsimp only)); refine box_event ?hg (N := 4) ?hd (cs := #[.int .i64 0, .int .i64 0]) (t := 26) ?hr ?_; (case hd => rfl); (case hg => rfl); (case hr => first | (go_simp; done) | (go_simp; rfl)); intro gb104 hg w25 hbox hb; have n0_ := Aside0.mk (blk_below (bk_ BK102) hb); have n1_ := Aside0.mk (below_step bs_ hb); have n2_ := Aside0.mk (hbox); have n3_ := Aside0.mk ((by rw [hg]; exact (below_size bs_) : w.heap.size ≤ gb104)); have n4_ := Aside0.mk ((by rw [hg]; exact (below_size bs_) : w.heap.size ≤ gb104)); have n5_ := Aside0.mk ((by rw [hg]; exact Nat.ne_of_lt (blk_lt (bk_ BK102)) : gb102 ≠ gb104)); have n6_ := Aside0.mk ((by rw [hg]; exact Nat.ne_of_gt (blk_lt (bk_ BK102)) : gb104 ≠ gb102)); clear BK102 HB; have BK102 := n0_; have HB := n1_; have BK104 := n2_; have GW104 := n3_; have GE104 := n4_; have NB102_104 := n5_; have NB104_102 := n6_; clear n0_ n1_ n2_ n3_ n4_ n5_ n6_; clear hb hbox hg; have hnb26 := NB104_102.out; have hnc26 := NB102_104.out; obtain ⟨hcz27_0, hcz27_1, hfz27_0, hfz27_1⟩ := blk2 BK104) | ((with_reducible refine gate_callee (f := 30) rfl ?_); refine goesL_ (some 14) rfl rfl Try.func30 (by kernel_rfl) rfl #[.agg #[.int .i64 ((rd_T26 l0_1 x8_1).f0), .int .i64 ((rd_T26 l0_1 x8_1).f1)]] rfl (by (try simp only [List.map_toArray, List.map_cons, List.map_nil]); first | done | rfl | (simp only [List.length_drop, List.length_take]; rfl)) ?_; (with_reducible refine (link_one.calls ((rd_T26 l0_1 x8_1).f0) ((rd_T26 l0_1 x8_1).f1) false _ A7.out).mono ?_); rintro e w28 ⟨rfl, hb⟩; refine ⟨_, rfl, ?_⟩; have n0_ := Aside0.mk (blk_below (bf_ BK102) hb); have n1_ := Aside0.mk (blk_below (bp_ (o := .cells #[.int .i64 ((rd_T26 l0_1 x8_1).f0), .int .i64 ((rd_T26 l0_1 x8_1).f1)] 26 (0, 0)) BK104) hb); have n2_ := Aside0.mk (below_step bs_ hb); clear BK102 BK104 HB; have BK102 := n0_; have BK104 := n1_; have HB := n2_; clear n0_ n1_ n2_; (try clear hb); (try clear hb2); (try clear hk); (try clear hi)))
       go_ret
       exact ⟨by first | rfl | (simp [errW_none, errW_some] <;> rfl) | (simp [*, errW_none, errW_some] <;> rfl), by repeat (first | (with_reducible first | exact HB.out | apply below_alloc | apply pw_below_drewN | apply below_drew1 | refine below_set ?_ GE102.out | refine below_set ?_ GE104.out) | exact HB.out)⟩
     ·rw [if_neg c6] at H
      exact absurd H (by simp)
    ·rw [if_neg c5] at H
     exact absurd H (by simp)
   ·rw [if_neg c4] at H
    have c4b0 : decide (x8_1 < (l0_1.length : Int)) = false := decide_eq_false c4
    clear c4
    by_cases c29 : a0_0 ≥ 0
    ·rw [if_pos c29] at H
     have c29b0 : decide (0 ≤ a0_0) = true := decide_eq_true c29
     clear c29
     by_cases c30 : a0_0 ≤ 1073741824
     ·rw [if_pos c30] at H
      have c30b0 : decide (a0_0 ≤ 1073741824) = true := decide_eq_true c30
      clear c30
      obtain rfl := Option.some.inj H
      obtain ⟨hcz31_0, hcz31_1, hfz31_0, hfz31_1⟩ := blk2 BK102
      go_wp2
      go_ret
      exact ⟨by first | rfl | (simp [errW_none, errW_some] <;> rfl) | (simp [*, errW_none, errW_some] <;> rfl), by repeat (first | (with_reducible first | exact HB.out | apply below_alloc | apply pw_below_drewN | apply below_drew1 | refine below_set ?_ GE102.out) | exact HB.out)⟩
     ·rw [if_neg c30] at H
      have c30b0 : decide (a0_0 ≤ 1073741824) = false := decide_eq_false c30
      clear c30
      obtain rfl := Option.some.inj H
      obtain ⟨hcz32_0, hcz32_1, hfz32_0, hfz32_1⟩ := blk2 BK102
      go_wp2
      go_ret
      exact ⟨by first | rfl | (simp [errW_none, errW_some] <;> rfl) | (simp [*, errW_none, errW_some] <;> rfl), by repeat (first | (with_reducible first | exact HB.out | apply below_alloc | apply pw_below_drewN | apply below_drew1 | refine below_set ?_ GE102.out) | exact HB.out)⟩
    ·rw [if_neg c29] at H
     have c29b0 : decide (0 ≤ a0_0) = false := decide_eq_false c29
     clear c29
     obtain rfl := Option.some.inj H
     obtain ⟨hcz33_0, hcz33_1, hfz33_0, hfz33_1⟩ := blk2 BK102
     go_wp2
     go_ret
     exact ⟨by first | rfl | (simp [errW_none, errW_some] <;> rfl) | (simp [*, errW_none, errW_some] <;> rfl), by repeat (first | (with_reducible first | exact HB.out | apply below_alloc | apply pw_below_drewN | apply below_drew1 | refine below_set ?_ GE102.out) | exact HB.out)⟩

end Go.Proofs.Ytoehingbhmaidaa.P
