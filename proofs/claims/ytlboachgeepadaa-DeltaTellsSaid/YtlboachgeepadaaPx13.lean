-- Written by a program of this session over the kit's print of the translation. Lean checks it.
import Derived.Test.YtlboachgeepadaaPx0
-- shorter
namespace Go.Proofs.Ytlboachgeepadaa.P
open Go.RowKit Go.Proofs.YtlboachgeepadaaW.PrintWords Go.Proofs.YtlboachgeepadaaW.PrintLast Go.Proofs.YtlboachgeepadaaW.PrintMore
attribute [local go_sem] max2_int min2_int max_two min_two max_three min_three max_four min_four   -- for this text's walks alone
set_option linter.unusedVariables false
set_option linter.unusedSimpArgs false

/-! ### drydockref05_Own: function 27 -/
def drydockref05_Own.l0 : Nat → Int → Int → Int → Int → Int → List (S63) → Int → Int → Int → Int → Int → List (S63) → Int → Option (Int × Int × Int × Int × (List (S63)) × Int)
  | 0, _, _, _, _, _, _, _, _, _, _, _, _, _ => none
  | k + 1, x4, x221000, x221001, x221002, x221003, x221004, x221005, x223000, x223001, x223002, x223003, x223004, x223005 => if x4 < (x221004.length : Int) then (if 0 ≤ x4 then (if ([] : List Int).length + ((rd_T63 x221004 x4).f1).length < 35184372088832 then (if x223004.length < 4398046511104 then (drydockref05_Own.l0 k (wrap64 (x4 + 1)) x221000 x221001 x221002 x221003 x221004 x221005 x223000 x223001 x223002 x223003 (x223004 ++ [(⟨(rd_T63 x221004 x4).f0, (([] : List Int) ++ ((rd_T63 x221004 x4).f1))⟩ : S63)]) x223005) else (none)) else (none)) else (none)) else (some (x223000, x223001, x223002, x223003, x223004, x223005))
def drydockref05_Own.f (k : Nat) (a0_0 : Int) (a0_1 : Int) (a0_2 : Int) (a0_3 : Int) (l0_4 : List (S63)) (a0_5 : Int) : Option (Int × Int × Int × Int × (List (S63)) × Int) := drydockref05_Own.l0 k 0 a0_0 a0_1 a0_2 a0_3 l0_4 a0_5 a0_0 a0_1 a0_2 a0_3 ([] : List (S63)) a0_5
theorem drydockref05_Own.mono_l : ∀ k, (∀ y0 y1 y2 y3 y4 y5 y6 y7 y8 y9 y10 y11 y12, LeO (drydockref05_Own.l0 k y0 y1 y2 y3 y4 y5 y6 y7 y8 y9 y10 y11 y12) (drydockref05_Own.l0 (k + 1) y0 y1 y2 y3 y4 y5 y6 y7 y8 y9 y10 y11 y12))
  | 0 => fun _ _ _ _ _ _ _ _ _ _ _ _ _ r h => by simp [drydockref05_Own.l0] at h
  | k + 1 => by
    have ih0 := drydockref05_Own.mono_l k
    · intro y0 y1 y2 y3 y4 y5 y6 y7 y8 y9 y10 y11 y12
      unfold drydockref05_Own.l0
      repeat' first
      | (with_reducible exact ih0 _ _ _ _ _ _ _ _ _ _ _ _ _)
      | (with_reducible exact LeO.refl _)
      | (with_reducible exact LeO.none _)
      | (with_reducible refine LeO.ite ?_ ?_)
      | (with_reducible refine LeO.bind ?_ (fun _ => ?_))
      | exact ih0 _ _ _ _ _ _ _ _ _ _ _ _ _
      | exact LeO.none _
      | refine LeO.ite ?_ ?_
      | refine LeO.bind ?_ (fun _ => ?_)
theorem drydockref05_Own.mono : ∀ a0 a1 a2 a3 a4 a5 k, LeO (drydockref05_Own.f k a0 a1 a2 a3 a4 a5) (drydockref05_Own.f (k + 1) a0 a1 a2 a3 a4 a5) := by
 intro a0 a1 a2 a3 a4 a5 k
 have ih0 := drydockref05_Own.mono_l k
 unfold drydockref05_Own.f
 repeat' first
  | (with_reducible exact ih0 _ _ _ _ _ _ _ _ _ _ _ _ _)
  | (with_reducible exact LeO.refl _)
  | (with_reducible exact LeO.none _)
  | (with_reducible refine LeO.ite ?_ ?_)
  | (with_reducible refine LeO.bind ?_ (fun _ => ?_))
  | exact ih0 _ _ _ _ _ _ _ _ _ _ _ _ _
  | exact LeO.none _
  | refine LeO.ite ?_ ?_
  | refine LeO.bind ?_ (fun _ => ?_)
def drydockref05_Own.T5 : Bool × List (List Nat × List Nat) := (true, [([], []), ([0], [0]), ([], []), ([2], [2]), ([], []), ([3, 4], [3, 4]), ([5], [5]), ([6], [6]), ([], []), ([8], [8]), ([], []), ([9, 10], [9, 10]), ([11], [11]), ([12], [12]), ([13], [13]), ([7, 14], [7, 14]), ([15], [15]), ([1, 16, 14], [1, 16]), ([0, 1, 2, 3, 4, 5, 6, 7, 8, 9, 10, 11, 12, 13, 14, 15, 16, 17], []), ([18, 17, 17, 0, 1, 2, 3, 4, 5, 6, 7, 8, 9, 10, 11, 12, 13, 14, 15, 16, 17], [17, 18])])
def drydockref05_Own.B5 : List Nat := [0, 1, 0, 4, 0, 28, 60, 124, 0, 256, 0, 1792, 3840, 7936, 16128, 32764, 65532, 131071, 262143, 524287]
theorem drydockref05_Own.tab5 : rtab .any (opsOf Try.f27 5) = drydockref05_Own.T5 := by kernel_rfl
theorem drydockref05_Own.bits5 : waitsOk drydockref05_Own.T5.2 drydockref05_Own.B5 = true := by kernel_rfl
set_option maxHeartbeats 8000000 in
set_option maxRecDepth 100000 in
theorem drydockref05_Own.calls (k : Nat) (a0_0 : Int) (a0_1 : Int) (a0_2 : Int) (a0_3 : Int) (A0_4 : Option Addr) (c0_4 : Nat) (l0_4 : List (S63)) (a0_5 : Int) (r1 : Int) (r2 : Int) (r3 : Int) (r4 : Int) (r5 : List (S63)) (r6 : Int) (w : World) (hr0_4 : Kd.C k63 w A0_4 l0_4.length l0_4) (hc0_4 : l0_4.length ≤ c0_4) (h : drydockref05_Own.f k a0_0 a0_1 a0_2 a0_3 l0_4 a0_5 = some (r1, r2, r3, r4, r5, r6)) :
    Calls Try.prog 27 #[.agg #[.int .i64 a0_0, .int .i64 a0_1, .int .i64 a0_2, .int .i64 a0_3, .slice A0_4 l0_4.length c0_4, .int .u32 a0_5]] w fun e w' => ∃ v4_ : Value, e = .returned (.agg #[.int .i64 r1, .int .i64 r2, .int .i64 r3, .int .i64 r4, v4_, .int .u32 r6]) ∧ Kd.S k63 63 w' w.heap.size (fun _ => True) v4_ r5 ∧ Below w.heap.size w w' := by
 have hu40 := Try.underlying40
 have hu34 := Try.underlying34
 have hu63 := Try.underlying63
 have HR0_4 := Aside0.mk hr0_4
 have HC0_4 := Aside0.mk hc0_4
 clear hr0_4 hc0_4
 have HB := Aside0.mk (Below.refl w.heap.size w)
 have H : (drydockref05_Own.l0 k 0 a0_0 a0_1 a0_2 a0_3 l0_4 a0_5 a0_0 a0_1 a0_2 a0_3 ([] : List (S63)) a0_5) = some (r1, r2, r3, r4, r5, r6) := h
 clear h
 have H' := Aside0.mk H
 clear H
 go_enter Try.func27, Try.ntmps27
 go_wp2_with (first | ((with_reducible refine gate_dst (N := 1) rfl ?_); refine box_event ?hg (N := 1) ?hd (cs := #[.int .i64 a0_0, .int .i64 a0_1, .int .i64 a0_2, .int .i64 a0_3, .slice A0_4 l0_4.length c0_4, .int .u32 a0_5]) (t := 40) ?hr ?_; (case hd => rfl); (case hg => rfl); (case hr => first | (go_simp; done) | (go_simp; rfl)); intro gb220 hg w2 hbox hb; have n0_ := Aside0.mk (below_step bs_ hb); have n1_ := Aside0.mk (hbox); have n2_ := Aside0.mk ((by rw [hg]; exact (below_size bs_) : w.heap.size ≤ gb220)); have n3_ := Aside0.mk ((by rw [hg]; exact (below_size bs_) : w.heap.size ≤ gb220)); clear HB; have HB := n0_; have BK220 := n1_; have GW220 := n2_; have GE220 := n3_; clear n0_ n1_ n2_ n3_; clear hb hbox hg) | ((with_reducible refine gate_dst (N := 2) rfl ?_); refine box_event ?hg (N := 2) ?hd (cs := #[.int .i64 0, .int .i64 0, .int .i64 0, .int .i64 0, .slice none 0 0, .int .u32 0]) (t := 40) ?hr ?_; (case hd => rfl); (case hg => rfl); (case hr => first | (go_simp; done) | (go_simp; rfl)); intro gb221 hg w3 hbox hb; have n0_ := Aside0.mk (blk_below (bk_ BK220) hb); have n1_ := Aside0.mk (below_step bs_ hb); have n2_ := Aside0.mk (hbox); have n3_ := Aside0.mk ((by rw [hg]; exact (below_size bs_) : w.heap.size ≤ gb221)); have n4_ := Aside0.mk ((by rw [hg]; exact (below_size bs_) : w.heap.size ≤ gb221)); have n5_ := Aside0.mk ((by rw [hg]; exact Nat.ne_of_lt (blk_lt (bk_ BK220)) : gb220 ≠ gb221)); have n6_ := Aside0.mk ((by rw [hg]; exact Nat.ne_of_gt (blk_lt (bk_ BK220)) : gb221 ≠ gb220)); clear BK220 HB; have BK220 := n0_; have HB := n1_; have BK221 := n2_; have GW221 := n3_; have GE221 := n4_; have NB220_221 := n5_; have NB221_220 := n6_; clear n0_ n1_ n2_ n3_ n4_ n5_ n6_; clear hb hbox hg; have hnb4 := NB220_221.out; have hnc4 := NB221_220.out; obtain ⟨hcz5_0, hcz5_1, hcz5_2, hcz5_3, hcz5_4, hcz5_5, hfz5_0, hfz5_1, hfz5_2, hfz5_3, hfz5_4, hfz5_5⟩ := blk6 BK220) | ((with_reducible refine gate_dst (N := 3) rfl ?_); refine box_event ?hg (N := 3) ?hd (cs := #[.int .i64 0, .int .i64 0, .int .i64 0, .int .i64 0, .slice none 0 0, .int .u32 0]) (t := 40) ?hr ?_; (case hd => rfl); (case hg => rfl); (case hr => first | (go_simp; done) | (go_simp; rfl)); intro gb222 hg w6 hbox hb; have n0_ := Aside0.mk (blk_below (bk_ BK220) hb); have n1_ := Aside0.mk (blk_below (bk_ BK221) hb); have n2_ := Aside0.mk (below_step bs_ hb); have n3_ := Aside0.mk (hbox); have n4_ := Aside0.mk ((by rw [hg]; exact (below_size bs_) : w.heap.size ≤ gb222)); have n5_ := Aside0.mk ((by rw [hg]; exact (below_size bs_) : w.heap.size ≤ gb222)); have n6_ := Aside0.mk ((by rw [hg]; exact Nat.ne_of_lt (blk_lt (bk_ BK220)) : gb220 ≠ gb222)); have n7_ := Aside0.mk ((by rw [hg]; exact Nat.ne_of_gt (blk_lt (bk_ BK220)) : gb222 ≠ gb220)); have n8_ := Aside0.mk ((by rw [hg]; exact Nat.ne_of_lt (blk_lt (bk_ BK221)) : gb221 ≠ gb222)); have n9_ := Aside0.mk ((by rw [hg]; exact Nat.ne_of_gt (blk_lt (bk_ BK221)) : gb222 ≠ gb221)); clear BK220 BK221 HB; have BK220 := n0_; have BK221 := n1_; have HB := n2_; have BK222 := n3_; have GW222 := n4_; have GE222 := n5_; have NB220_222 := n6_; have NB222_220 := n7_; have NB221_222 := n8_; have NB222_221 := n9_; clear n0_ n1_ n2_ n3_ n4_ n5_ n6_ n7_ n8_ n9_; clear hb hbox hg; have hnb7 := NB222_220.out; have hnc7 := NB220_222.out; have hnb8 := NB222_221.out; have hnc8 := NB221_222.out; obtain ⟨hcz9_0, hcz9_1, hcz9_2, hcz9_3, hcz9_4, hcz9_5, hfz9_0, hfz9_1, hfz9_2, hfz9_3, hfz9_4, hfz9_5⟩ := blk6 BK222))
 go_loopg [4] k (fun kq v4 w' => ∃ (x4_1 : Int) (x223004_1 : List (S63)) (u223004 : Value), v4 = .int .i64 x4_1 ∧ Aside0 (drydockref05_Own.l0 kq x4_1 a0_0 a0_1 a0_2 a0_3 l0_4 a0_5 a0_0 a0_1 a0_2 a0_3 x223004_1 a0_5 = some (r1, r2, r3, r4, r5, r6)) ∧ Aside0 (kq ≤ k) ∧ Aside0 (Kd.S k63 63 w' w.heap.size (fun _ => True) u223004 x223004_1) ∧ Aside0 (w'.heap[gb220]? = some (.cells #[.int .i64 a0_0, .int .i64 a0_1, .int .i64 a0_2, .int .i64 a0_3, (.slice A0_4 l0_4.length c0_4), .int .u32 a0_5] 40 (0, 0))) ∧ Aside0 (w'.heap[gb221]? = some (.cells #[.int .i64 0, .int .i64 0, .int .i64 0, .int .i64 0, (.slice none 0 0), .int .u32 0] 40 (0, 0))) ∧ Aside0 (w'.heap[gb222]? = some (.cells #[.int .i64 a0_0, .int .i64 a0_1, .int .i64 a0_2, .int .i64 a0_3, u223004, .int .u32 a0_5] 40 (0, 0))) ∧ Aside0 (Below w.heap.size w w'))
 case atStart => exact ⟨(0), (([] : List (S63))), (.slice none 0 0), eq_, H', ⟨Nat.le_refl _⟩, ⟨by first | exact Kd.S_nil _ _ _ _ _ | exact Kd.N_nil _ _ _ _ _ | exact Kd.V_nil _ _ _ _ _ | exact Kd.Q_nil _ _ _ _ _ | exact Kd.R_nil _ _ _ _ _⟩, ⟨bf_ BK220⟩, ⟨bf_ BK221⟩, ⟨bp_ BK222⟩, ⟨bs_⟩⟩
 case round =>
  clear H'
  try clear hcz5_0
  try clear hcz5_1
  try clear hcz5_2
  try clear hcz5_3
  try clear hcz5_4
  try clear hcz5_5
  try clear hcz9_0
  try clear hcz9_1
  try clear hcz9_2
  try clear hcz9_3
  try clear hcz9_4
  try clear hcz9_5
  try clear hfz5_0
  try clear hfz5_1
  try clear hfz5_2
  try clear hfz5_3
  try clear hfz5_4
  try clear hfz5_5
  try clear hfz9_0
  try clear hfz9_1
  try clear hfz9_2
  try clear hfz9_3
  try clear hfz9_4
  try clear hfz9_5
  obtain ⟨x4_1, x223004_1, u223004, rfl, HA, HK1, HO_223004, BK220, BK221, BK222, HB⟩ := hrel
  cases gk with
  | zero => exact absurd HA.out (by simp [drydockref05_Own.l0])
  | succ k1 =>
   have H := HA.out
   clear HA
   simp only [drydockref05_Own.l0] at H
   by_cases c10 : x4_1 < (l0_4.length : Int)
   ·rw [if_pos c10] at H
    have c10b0 : decide (x4_1 < (l0_4.length : Int)) = true := decide_eq_true c10
    clear c10
    by_cases c11 : 0 ≤ x4_1
    ·rw [if_pos c11] at H
     have c11b0 : decide (0 ≤ x4_1) = true := decide_eq_true c11
     clear c11
     by_cases c12 : ([] : List Int).length + ((rd_T63 l0_4 x4_1).f1).length < 35184372088832
     ·rw [if_pos c12] at H
      have LMc12 := Aside0.mk c12
      clear c12
      obtain ⟨y225, hy225⟩ : ∃ y_ : List Int, y_ = (([] : List Int) ++ ((rd_T63 l0_4 x4_1).f1)) := ⟨_, rfl⟩
      replace H : (if x223004_1.length < 4398046511104 then (drydockref05_Own.l0 k1 (wrap64 (x4_1 + 1)) a0_0 a0_1 a0_2 a0_3 l0_4 a0_5 a0_0 a0_1 a0_2 a0_3 (x223004_1 ++ [(⟨(rd_T63 l0_4 x4_1).f0, y225⟩ : S63)]) a0_5) else (none)) = some (r1, r2, r3, r4, r5, r6) := by first | (rw [hy225]; with_reducible exact H) | (have H2_ := (Option.bind_some _ _).symm.trans H; rw [hy225]; with_reducible exact H2_) | (have H2_ := (Option.bind_some _ _).symm.trans H; with_reducible exact H2_) | with_reducible exact H | (rw [hy225]; exact H) | exact H
      have Ny225 := Aside0.mk hy225
      clear hy225
      by_cases c13 : x223004_1.length < 4398046511104
      ·rw [if_pos c13] at H
       have LMc13 := Aside0.mk c13
       clear c13
       obtain ⟨y228, hy228⟩ : ∃ y_ : List (S63), y_ = (x223004_1 ++ [(⟨(rd_T63 l0_4 x4_1).f0, y225⟩ : S63)]) := ⟨_, rfl⟩
       replace H : (drydockref05_Own.l0 k1 (wrap64 (x4_1 + 1)) a0_0 a0_1 a0_2 a0_3 l0_4 a0_5 a0_0 a0_1 a0_2 a0_3 y228 a0_5) = some (r1, r2, r3, r4, r5, r6) := by first | (rw [hy228]; with_reducible exact H) | (have H2_ := (Option.bind_some _ _).symm.trans H; rw [hy228]; with_reducible exact H2_) | (have H2_ := (Option.bind_some _ _).symm.trans H; with_reducible exact H2_) | with_reducible exact H | (rw [hy228]; exact H) | exact H
       have Ny228 := Aside0.mk hy228
       clear hy228
       have H' := Aside0.mk H
       clear H
       have hnb14 := NB220_221.out
       have hnc14 := NB221_220.out
       have hnb15 := NB220_222.out
       have hnc15 := NB222_220.out
       obtain ⟨hcz16_0, hcz16_1, hcz16_2, hcz16_3, hcz16_4, hcz16_5, hfz16_0, hfz16_1, hfz16_2, hfz16_3, hfz16_4, hfz16_5⟩ := blk6 BK220
       try go_wp2
       have n0_ := Aside0.mk (Kd.S_drew HO_223004.out)
       have n1_ := Aside0.mk (blk_drew BK220.out)
       have n2_ := Aside0.mk (blk_drew BK221.out)
       have n3_ := Aside0.mk (blk_drew BK222.out)
       have n4_ := Aside0.mk (below_drew1 HB.out)
       clear HO_223004
       clear BK220
       clear BK221
       clear BK222
       clear HB
       have HO_223004 := n0_
       have BK220 := n1_
       have BK221 := n2_
       have BK222 := n3_
       have HB := n4_
       clear n0_ n1_ n2_ n3_ n4_
       have p223 : 0 ≤ (x4_1 : Int) := of_decide_eq_true (by first | (with_reducible assumption) | assumption)
       have q223 : x4_1 < (l0_4.length : Int) := of_decide_eq_true (by first | (with_reducible assumption) | assumption)
       obtain ⟨ad223, A223_1, c223_1, e223, hx223_0, hx223_1, hl223_1, hi223_1⟩ := at_T63 HR0_4.out x4_1 p223 q223
       have hw223_1 := hx223_1
       have hw223_0 := hx223_0
       cases e223
       replace hx223_0 := (HB.out.cell (World.block_lt_of_cell? w _ hx223_0)).trans hx223_0
       replace hx223_1 := (HB.out.cell (World.block_lt_of_cell? w _ hx223_1)).trans hx223_1
       have HR223_1 := Aside0.mk hi223_1
       have HC223_1 := Aside0.mk hl223_1
       clear hi223_1 hl223_1
       replace p223 := eq_true p223
       replace q223 := eq_true q223
       have p224 : 0 ≤ (x4_1 : Int) := of_decide_eq_true (by first | (with_reducible assumption) | assumption)
       have q224 : x4_1 < (l0_4.length : Int) := of_decide_eq_true (by first | (with_reducible assumption) | assumption)
       obtain ⟨ad224, A224_1, c224_1, e224, hx224_0, hx224_1, hl224_1, hi224_1⟩ := at_T63 HR0_4.out x4_1 p224 q224
       have hw224_1 := hx224_1
       have hw224_0 := hx224_0
       obtain rfl : ad223 = ad224 := (by injection e224)
       replace hx224_0 := (HB.out.cell (World.block_lt_of_cell? w _ hx224_0)).trans hx224_0
       replace hx224_1 := (HB.out.cell (World.block_lt_of_cell? w _ hx224_1)).trans hx224_1
       have HR224_1 := Aside0.mk hi224_1
       have HC224_1 := Aside0.mk hl224_1
       clear hi224_1 hl224_1
       replace p224 := eq_true p224
       replace q224 := eq_true q224
       have ea_ := Option.some.inj (hx223_1.symm.trans hx224_1)
       injection ea_ with ea_ en_ ec_
       subst ea_
       subst ec_
       clear en_
       refine start_ (n := 20) (S := fun w' => w'.cell? ⟨gb222, 0, none⟩ = some (.int .i64 a0_0) ∧ w'.cell? ⟨gb222, 1, none⟩ = some (.int .i64 a0_1) ∧ w'.cell? ⟨gb222, 2, none⟩ = some (.int .i64 a0_2) ∧ w'.cell? ⟨gb222, 3, none⟩ = some (.int .i64 a0_3) ∧ w'.cell? ⟨gb222, 4, none⟩ = some (u223004) ∧ w'.cell? ⟨gb222, 5, none⟩ = some (.int .u32 a0_5) ∧ w'.cell? ⟨gb220, 0, none⟩ = some (.int .i64 a0_0) ∧ w'.cell? ⟨gb220, 1, none⟩ = some (.int .i64 a0_1) ∧ w'.cell? ⟨gb220, 2, none⟩ = some (.int .i64 a0_2) ∧ w'.cell? ⟨gb220, 3, none⟩ = some (.int .i64 a0_3) ∧ w'.cell? ⟨gb220, 4, none⟩ = some (.slice (some ad223) l0_4.length c0_4) ∧ w'.cell? ⟨gb220, 5, none⟩ = some (.int .u32 a0_5) ∧ w'.cell? (ad223.add ((x4_1).toNat * 2)) = some (.int .u32 ((rd_T63 l0_4 x4_1).f0)) ∧ w'.cell? ⟨(ad223.add ((x4_1).toNat * 2)).block, (ad223.add ((x4_1).toNat * 2)).off + 1, none⟩ = some (.slice A223_1 ((rd_T63 l0_4 x4_1).f1).length c223_1) ∧ w'.cell? (ad223.add ((x4_1).toNat * 2)) = some (.int .u32 ((rd_T63 l0_4 x4_1).f0)) ∧ w'.cell? ⟨(ad223.add ((x4_1).toNat * 2)).block, (ad223.add ((x4_1).toNat * 2)).off + 1, none⟩ = some (.slice A223_1 ((rd_T63 l0_4 x4_1).f1).length c223_1)) (ds := [19]) #[false, false, false, false, false, false, false, false, false, false, false, false, false, false, false, false, false, false, false, false] (by kernel_rfl) rfl rfl ⟨(blk_cell BK222.out 0).trans rfl, (blk_cell BK222.out 1).trans rfl, (blk_cell BK222.out 2).trans rfl, (blk_cell BK222.out 3).trans rfl, (blk_cell BK222.out 4).trans rfl, (blk_cell BK222.out 5).trans rfl, (blk_cell BK220.out 0).trans rfl, (blk_cell BK220.out 1).trans rfl, (blk_cell BK220.out 2).trans rfl, (blk_cell BK220.out 3).trans rfl, (blk_cell BK220.out 4).trans rfl, (blk_cell BK220.out 5).trans rfl, ((HB.out.cell (World.block_lt_of_cell? w _ hw223_0)).trans hw223_0), ((HB.out.cell (World.block_lt_of_cell? w _ hw223_1)).trans hw223_1), ((HB.out.cell (World.block_lt_of_cell? w _ hw224_0)).trans hw224_0), ((HB.out.cell (World.block_lt_of_cell? w _ hw224_1)).trans hw224_1)⟩ (fun hHeld => ?_); refine with_tabW drydockref05_Own.tab5 drydockref05_Own.bits5 (fun HT_ HW_ => ?_)
       generalize wr.drew = w17 at HO_223004 BK220 BK221 BK222 HB HR223_1 HR224_1 hx223_0 hx223_1 hx224_0 hx224_1 hHeld ⊢
       refine pv_ 0 (some 17) HT_ (h := ?_)
       refine pv_ 2 (some 19) HT_ (h := ?_)
       refine pv_ 4 (some 21) HT_ (h := ?_)
       refine pv_ 8 (some 25) HT_ (h := ?_)
       refine pv_ 10 (some 27) HT_ (h := ?_)
       refine tk_ 1 (some 18) HT_ HW_ hHeld (h := ?_)
       refine tk_ 3 (some 20) HT_ HW_ hHeld (h := ?_)
       refine pv_ 5 (some 22) HT_ (h := ?_)
       refine pv_ 6 (some 23) HT_ (h := ?_)
       refine tk_ 7 (some 24) HT_ HW_ hHeld (h := ?_)
       refine tk_ 9 (some 26) HT_ HW_ hHeld (h := ?_)
       refine pv_ 11 (some 28) HT_ (h := ?_)
       refine pv_ 12 (some 29) HT_ (h := ?_)
       refine tk_ 13 (some 30) HT_ HW_ hHeld (h := ?_)
       refine one_ (i := 14) (N := some 31) #[true, true, true, true, true, true, true, true, true, true, true, true, true, true, true, false, false, false, false, false] rfl rfl (one_of HT_.out (by kernel_rfl)) (by decide) (fun K hK => ?_)
       refine Kd.R_append_rows_step (Kd.int .u32) (w0 := w) w.heap.size rfl (.const (.slice none 0 0)) (.tmp 30) 22 27 (.int .u32 0) 4 rfl Try.underlying22 info27 rfl (by decide) (by omega) (.slice none 0 0) ([] : List Int) ((rd_T63 l0_4 x4_1).f1) _ _ _ (fun _ => True) (fun _ => False) rfl rfl ?aO ?aR (fun _ _ h => h) (fun _ h => h.elim) ?aF ?aB ?aS ?aL ?_
       (case aR => repeat (first | exact (Kd.C_below HR224_1.out HB.out) | (with_reducible refine Kd.C_alloc ?_ _) | (with_reducible refine Kd.C_drewN ?_ _) | (with_reducible refine Kd.C_drew ?_)))
       (case aB => exact bs_)
       (case aF => exact (fun _ _ => trivial))
       (case aO => exact ((Kd.R_nil _ _ _ _ (fun _ => True))))
       (case aS => exact (below_size bs_))
       (case aL => have := LMc12.out; omega)
       intro v226 w18 ho hb hg hat
       rw [← Ny225.out] at ho
       have n0_ := Aside0.mk (Kd.S_after (Kd.S_apart_nil (by (with_reducible repeat (first | apply Kd.S_alloc | apply Kd.S_drewN | apply Kd.S_drew)); exact HO_223004.out)) hg hat)
       have n1_ := Aside0.mk (blk_grown (g := gb220) (o := .cells #[.int .i64 a0_0, .int .i64 a0_1, .int .i64 a0_2, .int .i64 a0_3, .slice (some ad223) l0_4.length c0_4, .int .u32 a0_5] 40 (0, 0)) (by (with_reducible repeat (first | refine blk_drewN ?_ _ | refine blk_drew ?_ | refine blk_alloc ?_ _)); exact BK220.out) hg (by simp [Value.ownBlock]))
       have n2_ := Aside0.mk (blk_grown (g := gb221) (o := .cells #[.int .i64 0, .int .i64 0, .int .i64 0, .int .i64 0, .slice none 0 0, .int .u32 0] 40 (0, 0)) (by (with_reducible repeat (first | refine blk_drewN ?_ _ | refine blk_drew ?_ | refine blk_alloc ?_ _)); exact BK221.out) hg (by simp [Value.ownBlock]))
       have n3_ := Aside0.mk (blk_grown (g := gb222) (o := .cells #[.int .i64 a0_0, .int .i64 a0_1, .int .i64 a0_2, .int .i64 a0_3, u223004, .int .u32 a0_5] 40 (0, 0)) (by (with_reducible repeat (first | refine blk_drewN ?_ _ | refine blk_drew ?_ | refine blk_alloc ?_ _)); exact BK222.out) hg (by simp [Value.ownBlock]))
       have n4_ := Aside0.mk (hb)
       have n5_ := Aside0.mk (ho)
       clear HO_223004
       clear BK220
       clear BK221
       clear BK222
       clear HB
       have HO_223004 := n0_
       have BK220 := n1_
       have BK221 := n2_
       have BK222 := n3_
       have HB := n4_
       have HO227 := n5_
       clear n0_ n1_ n2_ n3_ n4_ n5_
       clear ho hb hg hat
       obtain ⟨Ao19, co19, eo19⟩ := Kd.R_slice HO227.out
       (first | subst eo19 | (injection eo19 with f1_ f2_ f3_; have f4_ := f1_.symm; have f5_ := f3_.symm; clear f1_ f2_ f3_; subst f4_; subst f5_))
       refine hK.out _ _ ⟨(blk_cell BK222.out 0).trans rfl, (blk_cell BK222.out 1).trans rfl, (blk_cell BK222.out 2).trans rfl, (blk_cell BK222.out 3).trans rfl, (blk_cell BK222.out 4).trans rfl, (blk_cell BK222.out 5).trans rfl, (blk_cell BK220.out 0).trans rfl, (blk_cell BK220.out 1).trans rfl, (blk_cell BK220.out 2).trans rfl, (blk_cell BK220.out 3).trans rfl, (blk_cell BK220.out 4).trans rfl, (blk_cell BK220.out 5).trans rfl, ((HB.out.cell (World.block_lt_of_cell? w _ hw223_0)).trans hw223_0), ((HB.out.cell (World.block_lt_of_cell? w _ hw223_1)).trans hw223_1), ((HB.out.cell (World.block_lt_of_cell? w _ hw224_0)).trans hw224_0), ((HB.out.cell (World.block_lt_of_cell? w _ hw224_1)).trans hw224_1)⟩ (fun hHeld => ?_)
       clear hK K
       refine norm_ (a' := ?_) ?_ ?_
       rotate_left
       ·show Act.put _ (some 31) _ = _
        simp only [Act.put, List.setIfInBounds_toArray, List.set_cons_zero, List.set_cons_succ, i64_w, i32_w]
        rfl
       refine pv_ 15 (some 32) HT_ (h := ?_)
       refine one_ (i := 16) (N := some 33) #[true, true, true, true, true, true, true, true, true, true, true, true, true, true, true, true, true, false, false, false] rfl rfl (one_of HT_.out (by kernel_rfl)) (by decide) (fun K hK => ?_)
       refine value_ (w1 := ?_) (v := ?_) (by rfl) rfl ?_ ?_
       rotate_left 2
       ·go_simp
        constructor
        ·rfl
        ·rfl
       refine hK.out _ _ ⟨(blk_cell (blk_alloc BK222.out _) 0).trans rfl, (blk_cell (blk_alloc BK222.out _) 1).trans rfl, (blk_cell (blk_alloc BK222.out _) 2).trans rfl, (blk_cell (blk_alloc BK222.out _) 3).trans rfl, (blk_cell (blk_alloc BK222.out _) 4).trans rfl, (blk_cell (blk_alloc BK222.out _) 5).trans rfl, (blk_cell (blk_alloc BK220.out _) 0).trans rfl, (blk_cell (blk_alloc BK220.out _) 1).trans rfl, (blk_cell (blk_alloc BK220.out _) 2).trans rfl, (blk_cell (blk_alloc BK220.out _) 3).trans rfl, (blk_cell (blk_alloc BK220.out _) 4).trans rfl, (blk_cell (blk_alloc BK220.out _) 5).trans rfl, (World.cell?_alloc_lt _ _ _ (World.block_lt_of_cell? _ _ (((HB.out.cell (World.block_lt_of_cell? w _ hw223_0)).trans hw223_0)))).trans (((HB.out.cell (World.block_lt_of_cell? w _ hw223_0)).trans hw223_0)), (World.cell?_alloc_lt _ _ _ (World.block_lt_of_cell? _ _ (((HB.out.cell (World.block_lt_of_cell? w _ hw223_1)).trans hw223_1)))).trans (((HB.out.cell (World.block_lt_of_cell? w _ hw223_1)).trans hw223_1)), (World.cell?_alloc_lt _ _ _ (World.block_lt_of_cell? _ _ (((HB.out.cell (World.block_lt_of_cell? w _ hw224_0)).trans hw224_0)))).trans (((HB.out.cell (World.block_lt_of_cell? w _ hw224_0)).trans hw224_0)), (World.cell?_alloc_lt _ _ _ (World.block_lt_of_cell? _ _ (((HB.out.cell (World.block_lt_of_cell? w _ hw224_1)).trans hw224_1)))).trans (((HB.out.cell (World.block_lt_of_cell? w _ hw224_1)).trans hw224_1))⟩ (fun hHeld => ?_)
       clear hK K
       refine norm_ (a' := ?_) ?_ ?_
       rotate_left
       ·show Act.put _ (some 33) _ = _
        simp only [Act.put, List.setIfInBounds_toArray, List.set_cons_zero, List.set_cons_succ, i64_w, i32_w]
        rfl
       refine one_ (i := 17) (N := some 34) #[true, true, true, true, true, true, true, true, true, true, true, true, true, true, true, true, true, true, false, false] rfl rfl (one_of HT_.out (by kernel_rfl)) (by decide) (fun K hK => ?_)
       refine Kd.S_append_step k63 (w0 := w) w.heap.size (by rfl) (.tmp 18) (.tmp 33) 38 63 (.agg #[(.int .u32 0), (.slice none 0 0)]) 32 rfl Try.underlying38 info63 rfl (by decide) (by omega) u223004 x223004_1 (⟨(rd_T63 l0_4 x4_1).f0, y225⟩ : S63) [.int .u32 ((rd_T63 l0_4 x4_1).f0), .slice Ao19 y225.length co19] (fun _ => True) (fun k_ => some k_ = (.slice Ao19 y225.length co19 : Value).ownBlock) rfl rfl ?aP (fun k_ hk_ => ((Kd.R_mono (ok' := fun k_ => ((fun _ => True)) k_ ∧ some k_ ≠ (u223004 : Value).ownBlock) (Kd.R_apart' (HO227.out) (Kd.S_typed HO_223004.out) (by decide)) (fun k_ hk => ⟨trivial, hk.2⟩))).1 k_ hk_.symm) ?aF ?aO ?aB ?aS ?aL ?_
       (case aP => exact k63_mkM _ _ _ (⟨(rd_T63 l0_4 x4_1).f0, y225⟩ : S63) (Kd.R_mono (Kd.R_tight rfl (Kd.R_mono (ok' := fun k_ => ((fun _ => True)) k_ ∧ some k_ ≠ (u223004 : Value).ownBlock) (Kd.R_apart' (HO227.out) (Kd.S_typed HO_223004.out) (by decide)) (fun k_ hk => ⟨trivial, hk.2⟩))) (fun _ h_ => h_)))
       (case aB => exact bs_)
       (case aF => exact (fun _ _ => trivial))
       (case aO => exact (by (with_reducible repeat (first | apply Kd.S_alloc | apply Kd.S_drewN | apply Kd.S_drew)); exact Kd.S_mono HO_223004.out (fun k_ hk => ⟨trivial, fun e_ => hk.2 e_⟩)))
       (case aS => exact (below_size bs_))
       (case aL => have := LMc13.out; omega)
       intro v229 w20 ho hb hg hat
       rw [← Ny228.out] at ho
       have n0_ := Aside0.mk (blk_grown (g := gb220) (o := .cells #[.int .i64 a0_0, .int .i64 a0_1, .int .i64 a0_2, .int .i64 a0_3, .slice (some ad223) l0_4.length c0_4, .int .u32 a0_5] 40 (0, 0)) (by (with_reducible repeat (first | refine blk_drewN ?_ _ | refine blk_drew ?_ | refine blk_alloc ?_ _)); exact BK220.out) hg (Kd.S_ne HO_223004.out BK220.out (by decide)))
       have n1_ := Aside0.mk (blk_grown (g := gb221) (o := .cells #[.int .i64 0, .int .i64 0, .int .i64 0, .int .i64 0, .slice none 0 0, .int .u32 0] 40 (0, 0)) (by (with_reducible repeat (first | refine blk_drewN ?_ _ | refine blk_drew ?_ | refine blk_alloc ?_ _)); exact BK221.out) hg (Kd.S_ne HO_223004.out BK221.out (by decide)))
       have n2_ := Aside0.mk (blk_grown (g := gb222) (o := .cells #[.int .i64 a0_0, .int .i64 a0_1, .int .i64 a0_2, .int .i64 a0_3, u223004, .int .u32 a0_5] 40 (0, 0)) (by (with_reducible repeat (first | refine blk_drewN ?_ _ | refine blk_drew ?_ | refine blk_alloc ?_ _)); exact BK222.out) hg (Kd.S_ne HO_223004.out BK222.out (by decide)))
       have n3_ := Aside0.mk (hb)
       have n4_ := Aside0.mk (ho)
       clear BK220
       clear BK221
       clear BK222
       clear HB
       clear HO_223004
       clear HO227
       have BK220 := n0_
       have BK221 := n1_
       have BK222 := n2_
       have HB := n3_
       have HO230 := n4_
       clear n0_ n1_ n2_ n3_ n4_
       clear ho hb hg hat
       obtain ⟨Ao21, co21, eo21⟩ := Kd.S_slice HO230.out
       (first | subst eo21 | (injection eo21 with f1_ f2_ f3_; have f4_ := f1_.symm; have f5_ := f3_.symm; clear f1_ f2_ f3_; subst f4_; subst f5_))
       refine hK.out _ _ ⟨(blk_cell BK222.out 0).trans rfl, (blk_cell BK222.out 1).trans rfl, (blk_cell BK222.out 2).trans rfl, (blk_cell BK222.out 3).trans rfl, (blk_cell BK222.out 4).trans rfl, (blk_cell BK222.out 5).trans rfl, (blk_cell BK220.out 0).trans rfl, (blk_cell BK220.out 1).trans rfl, (blk_cell BK220.out 2).trans rfl, (blk_cell BK220.out 3).trans rfl, (blk_cell BK220.out 4).trans rfl, (blk_cell BK220.out 5).trans rfl, ((HB.out.cell (World.block_lt_of_cell? w _ hw223_0)).trans hw223_0), ((HB.out.cell (World.block_lt_of_cell? w _ hw223_1)).trans hw223_1), ((HB.out.cell (World.block_lt_of_cell? w _ hw224_0)).trans hw224_0), ((HB.out.cell (World.block_lt_of_cell? w _ hw224_1)).trans hw224_1)⟩ (fun hHeld => ?_)
       clear hK K
       refine norm_ (a' := ?_) ?_ ?_
       rotate_left
       ·show Act.put _ (some 34) _ = _
        simp only [Act.put, List.setIfInBounds_toArray, List.set_cons_zero, List.set_cons_succ, i64_w, i32_w]
        rfl
       refine pv_ 18 (some 35) HT_ (h := ?_)
       refine last_ (i := 19) (N := none) #[true, true, true, true, true, true, true, true, true, true, true, true, true, true, true, true, true, true, true, true] rfl rfl (one_of HT_.out (by kernel_rfl)) (by decide) (fun K hK => ?_)
       have hs22 : w20.cell? ⟨gb222, 4, none⟩ = some (u223004) := (blk_cell BK222.out 4).trans rfl
       have hfs22 := blk_frozen BK222.out 4
       have hns22_0 := NB220_222.out
       have hns22_1 := NB221_222.out
       have hms22_0 := NB222_220.out
       have hms22_1 := NB222_221.out
       refine skip_ (w1 := ?_) (by rfl) rfl ?_ ?_
       rotate_left
       ·go_simp
        rfl
       refine hK.out _ _ ?_
       clear hK K
       refine done_ (done_of HT_.out (by kernel_rfl)) ?_
       try go_wp2
       go_roundg k1
       case measure => have := HK1.out; omega
       case rel => exact ⟨(wrap64 (x4_1 + 1)), (y228), (.slice Ao21 y228.length co21), eq_, H', ⟨by have := HK1.out; omega⟩, ⟨by (with_reducible repeat (first | apply Kd.S_alloc | apply Kd.S_drewN | apply Kd.S_drew)); exact Kd.S_mono (Kd.S_far (p := ⟨gb222, 4, none⟩) (Kd.S_types HO230.out BK222.out (by decide)) (fun _ hk => hk.2) (.slice Ao21 y228.length co21)) (fun _ hk => trivial)⟩, ⟨bf_ BK220⟩, ⟨bf_ BK221⟩, ⟨bp_ BK222⟩, ⟨bs_⟩⟩
      ·rw [if_neg c13] at H
       exact absurd H (by simp)
     ·rw [if_neg c12] at H
      exact absurd H (by simp)
    ·rw [if_neg c11] at H
     exact absurd H (by simp)
   ·rw [if_neg c10] at H
    have c10b0 : decide (x4_1 < (l0_4.length : Int)) = false := decide_eq_false c10
    clear c10
    simp only [Option.some.injEq, Prod.mk.injEq] at H
    obtain ⟨rfl, rfl, rfl, rfl, rfl, rfl⟩ := H
    have hnb23 := NB220_221.out
    have hnc23 := NB221_220.out
    have hnb24 := NB220_222.out
    have hnc24 := NB222_220.out
    obtain ⟨hcz25_0, hcz25_1, hcz25_2, hcz25_3, hcz25_4, hcz25_5, hfz25_0, hfz25_1, hfz25_2, hfz25_3, hfz25_4, hfz25_5⟩ := blk6 BK220
    have hnb26 := NB222_221.out
    have hnc26 := NB221_222.out
    obtain ⟨hcz27_0, hcz27_1, hcz27_2, hcz27_3, hcz27_4, hcz27_5, hfz27_0, hfz27_1, hfz27_2, hfz27_3, hfz27_4, hfz27_5⟩ := blk6 BK222
    obtain ⟨hcz28_0, hcz28_1, hcz28_2, hcz28_3, hcz28_4, hcz28_5, hfz28_0, hfz28_1, hfz28_2, hfz28_3, hfz28_4, hfz28_5⟩ := blk6 BK221
    obtain ⟨Ao29, co29, eo29⟩ := Kd.S_slice HO_223004.out
    subst eo29
    go_wp2
    refine bodyPost_ret (results_cell_row rfl _ _ gb221 40 #[.int .i64 a0_0, .int .i64 a0_1, .int .i64 a0_2, .int .i64 a0_3, .slice Ao29 x223004_1.length co29, .int .u32 a0_5] (0, 0) _ rfl (bp_ BK221) Try.underlying40 rfl (by kernel_rfl)) rfl ?_
    exact ⟨_, by first | rfl | (simp [errW_none, errW_some] <;> rfl) | (simp [*, errW_none, errW_some] <;> rfl), by (with_reducible repeat (first | apply Kd.S_alloc | apply Kd.S_drewN | apply Kd.S_drew)); exact Kd.S_mono (Kd.S_far (p := ⟨gb221, 5, none⟩) (Kd.S_far (p := ⟨gb221, 4, none⟩) (Kd.S_far (p := ⟨gb221, 3, none⟩) (Kd.S_far (p := ⟨gb221, 2, none⟩) (Kd.S_far (p := ⟨gb221, 1, none⟩) (Kd.S_far (p := ⟨gb221, 0, none⟩) (Kd.S_types HO_223004.out BK221.out (by decide)) (fun _ hk => hk.2) (.int .i64 a0_0)) (fun _ hk => hk.2) (.int .i64 a0_1)) (fun _ hk => hk.2) (.int .i64 a0_2)) (fun _ hk => hk.2) (.int .i64 a0_3)) (fun _ hk => hk.2) (.slice Ao29 x223004_1.length co29)) (fun _ hk => hk.2) (.int .u32 a0_5)) (fun _ hk => trivial), by repeat (first | (with_reducible first | exact HB.out | apply below_alloc | apply pw_below_drewN | apply below_drew1 | refine below_set ?_ GE220.out | refine below_set ?_ GE221.out | refine below_set ?_ GE222.out) | exact HB.out)⟩

end Go.Proofs.Ytlboachgeepadaa.P
