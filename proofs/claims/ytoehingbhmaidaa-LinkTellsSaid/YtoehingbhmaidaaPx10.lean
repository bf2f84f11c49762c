-- Written by a program of this session over the kit's print of the translation. Lean checks it.
import Derived.Test.YtoehingbhmaidaaPx0
import Derived.Test.YtoehingbhmaidaaPx9
-- shorter
namespace Go.Proofs.Ytoehingbhmaidaa.P
open Go.RowKit Go.Proofs.YtoehingbhmaidaaW.PrintWords Go.Proofs.YtoehingbhmaidaaW.PrintLast Go.Proofs.YtoehingbhmaidaaW.PrintMore
attribute [local go_sem] max2_int min2_int max_two min_two max_three min_three max_four min_four   -- for this text's walks alone
set_option linter.unusedVariables false
set_option linter.unusedSimpArgs false

/-! ### drydockref16_May: function 22 -/
def drydockref16_May.l0 : Nat → Int → Int → List (S26) → Option (Bool)
  | 0, _, _, _ => none
  | k + 1, x3, x158000, x158001 => if x3 < (x158001.length : Int) then (if 0 ≤ x3 then ((drydockref16_One.f ((rd_T26 x158001 x3).f0) ((rd_T26 x158001 x3).f1)).bind fun t159 => (if t159 = true then ((drydockref16_find.f k x158000 x158001 ((rd_T26 x158001 x3).f0)).bind fun t161 => (if t161 < x3 then (some false) else (drydockref16_May.l0 k (wrap64 (x3 + 1)) x158000 x158001))) else (some false))) else (none)) else (if x158000 ≥ 0 then (if x158000 ≤ 1073741824 then (some (decide ((x158001.length : Int) ≤ 4))) else (some false)) else (some false))
def drydockref16_May.f (k : Nat) (a0_0 : Int) (l0_1 : List (S26)) : Option (Bool) := drydockref16_May.l0 k 0 a0_0 l0_1
theorem drydockref16_May.mono_l : ∀ k, (∀ y0 y1 y2, LeO (drydockref16_May.l0 k y0 y1 y2) (drydockref16_May.l0 (k + 1) y0 y1 y2))
  | 0 => fun _ _ _ r h => by simp [drydockref16_May.l0] at h
  | k + 1 => by
    have ih0 := drydockref16_May.mono_l k
    · intro y0 y1 y2
      unfold drydockref16_May.l0
      repeat' first
      | (with_reducible exact ih0 _ _ _)
      | (with_reducible exact drydockref16_find.mono _ _ _ _)
      | (with_reducible exact LeO.refl _)
      | (with_reducible exact LeO.none _)
      | (with_reducible refine LeO.ite ?_ ?_)
      | (with_reducible refine LeO.bind ?_ (fun _ => ?_))
      | exact ih0 _ _ _
      | exact drydockref16_find.mono _ _ _ _
      | exact LeO.none _
      | refine LeO.ite ?_ ?_
      | refine LeO.bind ?_ (fun _ => ?_)
theorem drydockref16_May.mono : ∀ a0 a1 k, LeO (drydockref16_May.f k a0 a1) (drydockref16_May.f (k + 1) a0 a1) := by
 intro a0 a1 k
 have ih0 := drydockref16_May.mono_l k
 unfold drydockref16_May.f
 repeat' first
  | (with_reducible exact ih0 _ _ _)
  | (with_reducible exact drydockref16_find.mono _ _ _ _)
  | (with_reducible exact LeO.refl _)
  | (with_reducible exact LeO.none _)
  | (with_reducible refine LeO.ite ?_ ?_)
  | (with_reducible refine LeO.bind ?_ (fun _ => ?_))
  | exact ih0 _ _ _
  | exact drydockref16_find.mono _ _ _ _
  | exact LeO.none _
  | refine LeO.ite ?_ ?_
  | refine LeO.bind ?_ (fun _ => ?_)
def drydockref16_May.T4 : Bool × List (List Nat × List Nat) := (true, [([], []), ([0], [0]), ([], []), ([1, 2], [1, 2]), ([3], [3]), ([4], [4]), ([5], [5]), ([6, 5], [6]), ([7], [7]), ([7], [7]), ([9, 7], [7, 9]), ([7], [7]), ([10, 11, 7], [7, 10, 11]), ([12, 7], [7, 12]), ([13, 7], [7, 13]), ([8, 14, 7, 7], [7, 8, 14]), ([7], [7]), ([15, 16, 7], [7, 15, 16]), ([7, 17], [7, 17])])
def drydockref16_May.B4 : List Nat := [0, 1, 0, 7, 15, 31, 63, 127, 255, 255, 767, 255, 3839, 7935, 16127, 32767, 255, 131071, 262143]
theorem drydockref16_May.tab4 : rtab .any (opsOf Try.f22 4) = drydockref16_May.T4 := by kernel_rfl
theorem drydockref16_May.bits4 : waitsOk drydockref16_May.T4.2 drydockref16_May.B4 = true := by kernel_rfl
set_option maxHeartbeats 8000000 in
set_option maxRecDepth 100000 in
theorem drydockref16_May.calls (k : Nat) (a0_0 : Int) (A0_1 : Option Addr) (c0_1 : Nat) (l0_1 : List (S26)) (r : Bool) (w : World) (hr0_1 : Kd.C k26 w A0_1 l0_1.length l0_1) (hc0_1 : l0_1.length ≤ c0_1) (h : drydockref16_May.f k a0_0 l0_1 = some r) :
    Calls Try.prog 22 #[.agg #[.int .i64 a0_0, .slice A0_1 l0_1.length c0_1]] w fun e w' => e = .returned (.bool r) ∧ Below w.heap.size w w' := by
 have hu24 := Try.underlying24
 have hu26 := Try.underlying26
 have HR0_1 := Aside0.mk hr0_1
 have HC0_1 := Aside0.mk hc0_1
 clear hr0_1 hc0_1
 have HB := Aside0.mk (Below.refl w.heap.size w)
 have H : (drydockref16_May.l0 k 0 a0_0 l0_1) = some r := h
 clear h
 have H' := Aside0.mk H
 clear H
 go_enter Try.func22, Try.ntmps22
 go_wp2_with (first | ((with_reducible refine gate_dst (N := 1) rfl ?_); (try (refine gate_guard (by rfl) ?_; dsimp only)); refine box_event ?hg (N := 1) ?hd (cs := #[.int .i64 a0_0, .slice A0_1 l0_1.length c0_1]) (t := 24) ?hr ?_; (case hd => rfl); (case hg => rfl); (case hr => first | (go_simp; done) | (go_simp; rfl)); intro gb157 hg w2 hbox hb; have n0_ := Aside0.mk (below_step bs_ hb); have n1_ := Aside0.mk (hbox); have n2_ := Aside0.mk ((by rw [hg]; exact (below_size bs_) : w.heap.size ≤ gb157)); have n3_ := Aside0.mk ((by rw [hg]; exact (below_size bs_) : w.heap.size ≤ gb157)); clear HB; have HB := n0_; have BK157 := n1_; have GW157 := n2_; have GE157 := n3_; clear n0_ n1_ n2_ n3_; clear hb hbox hg))
 go_loopg [3] k (fun kq v3 w' => ∃ (x3_1 : Int), v3 = .int .i64 x3_1 ∧ Aside0 (drydockref16_May.l0 kq x3_1 a0_0 l0_1 = some r) ∧ Aside0 (kq ≤ k) ∧ Aside0 (w'.heap[gb157]? = some (.cells #[.int .i64 a0_0, (.slice A0_1 l0_1.length c0_1)] 24 (0, 0))) ∧ Aside0 (Below w.heap.size w w'))
 case atStart => exact ⟨(0), (by first | rfl | (simp; done) | (simp [*]; done)), H', ⟨Nat.le_refl _⟩, ⟨bk_ BK157⟩, ⟨bs_⟩⟩
 case round =>
  clear H'
  obtain ⟨x3_1, rfl, HA, HK1, BK157, HB⟩ := hrel
  cases gk with
  | zero => exact absurd HA.out (by simp [drydockref16_May.l0])
  | succ k1 =>
   have H := HA.out
   clear HA
   simp only [drydockref16_May.l0] at H
   by_cases c3 : x3_1 < (l0_1.length : Int)
   ·rw [if_pos c3] at H
    have c3b0 : decide (x3_1 < (l0_1.length : Int)) = true := decide_eq_true c3
    clear c3
    by_cases c4 : 0 ≤ x3_1
    ·rw [if_pos c4] at H
     have c4b0 : decide (0 ≤ x3_1) = true := decide_eq_true c4
     clear c4
     replace H := Option.bind_eq_some_iff.mp H
     obtain ⟨t159, A50, H⟩ := H
     replace H : (if t159 = true then ((drydockref16_find.f k1 a0_0 l0_1 ((rd_T26 l0_1 x3_1).f0)).bind fun t161 => (if t161 < x3_1 then (some false) else (drydockref16_May.l0 k1 (wrap64 (x3_1 + 1)) a0_0 l0_1))) else (some false)) = some r := H
     have A5 := Aside0.mk A50
     clear A50
     by_cases c6 : t159 = true
     ·subst c6
      have H1 : ((drydockref16_find.f k1 a0_0 l0_1 ((rd_T26 l0_1 x3_1).f0)).bind fun t161 => (if t161 < x3_1 then (some false) else (drydockref16_May.l0 k1 (wrap64 (x3_1 + 1)) a0_0 l0_1))) = some r := by rw [if_pos rfl] at H; exact H
      clear H
      have H := H1
      clear H1
      replace H := Option.bind_eq_some_iff.mp H
      obtain ⟨t161, A70, H⟩ := H
      replace H : (if t161 < x3_1 then (some false) else (drydockref16_May.l0 k1 (wrap64 (x3_1 + 1)) a0_0 l0_1)) = some r := H
      have A7 := Aside0.mk A70
      clear A70
      by_cases c8 : t161 < x3_1
      ·rw [if_pos c8] at H
       have c8b0 : decide (t161 < x3_1) = true := decide_eq_true c8
       clear c8
       obtain rfl := Option.some.inj H
       obtain ⟨hcz9_0, hcz9_1, hfz9_0, hfz9_1⟩ := blk2 BK157
       try go_wp2
       have n0_ := Aside0.mk (blk_drew BK157.out)
       have n1_ := Aside0.mk (below_drew1 HB.out)
       clear BK157
       clear HB
       have BK157 := n0_
       have HB := n1_
       clear n0_ n1_
       have p158 : 0 ≤ (x3_1 : Int) := of_decide_eq_true (by first | (with_reducible assumption) | assumption)
       have q158 : x3_1 < (l0_1.length : Int) := of_decide_eq_true (by first | (with_reducible assumption) | assumption)
       obtain ⟨ad158, e158, hx158_0, hx158_1⟩ := at_T26 HR0_1.out x3_1 p158 q158
       have hw158_1 := hx158_1
       have hw158_0 := hx158_0
       cases e158
       replace hx158_0 := (HB.out.cell (World.block_lt_of_cell? w _ hx158_0)).trans hx158_0
       replace hx158_1 := (HB.out.cell (World.block_lt_of_cell? w _ hx158_1)).trans hx158_1
       replace p158 := eq_true p158
       replace q158 := eq_true q158
       have p160 : 0 ≤ (x3_1 : Int) := of_decide_eq_true (by first | (with_reducible assumption) | assumption)
       have q160 : x3_1 < (l0_1.length : Int) := of_decide_eq_true (by first | (with_reducible assumption) | assumption)
       obtain ⟨ad160, e160, hx160_0, hx160_1⟩ := at_T26 HR0_1.out x3_1 p160 q160
       have hw160_1 := hx160_1
       have hw160_0 := hx160_0
       obtain rfl : ad158 = ad160 := (by injection e160)
       replace hx160_0 := (HB.out.cell (World.block_lt_of_cell? w _ hx160_0)).trans hx160_0
       replace hx160_1 := (HB.out.cell (World.block_lt_of_cell? w _ hx160_1)).trans hx160_1
       replace p160 := eq_true p160
       replace q160 := eq_true q160
       refine start_ (n := 19) (S := fun w' => w'.cell? ⟨gb157, 0, none⟩ = some (.int .i64 a0_0) ∧ w'.cell? ⟨gb157, 1, none⟩ = some (.slice (some ad158) l0_1.length c0_1) ∧ w'.cell? (ad158.add ((x3_1).toNat * 2)) = some (.int .i64 ((rd_T26 l0_1 x3_1).f0)) ∧ w'.cell? ⟨(ad158.add ((x3_1).toNat * 2)).block, (ad158.add ((x3_1).toNat * 2)).off + 1, none⟩ = some (.int .i64 ((rd_T26 l0_1 x3_1).f1)) ∧ w'.cell? (ad158.add ((x3_1).toNat * 2)) = some (.int .i64 ((rd_T26 l0_1 x3_1).f0)) ∧ w'.cell? ⟨(ad158.add ((x3_1).toNat * 2)).block, (ad158.add ((x3_1).toNat * 2)).off + 1, none⟩ = some (.int .i64 ((rd_T26 l0_1 x3_1).f1))) (ds := []) #[false, false, false, false, false, false, false, false, false, false, false, false, false, false, false, false, false, false, false] (by kernel_rfl) rfl rfl ⟨(blk_cell BK157.out 0).trans rfl, (blk_cell BK157.out 1).trans rfl, ((HB.out.cell (World.block_lt_of_cell? w _ hw158_0)).trans hw158_0), ((HB.out.cell (World.block_lt_of_cell? w _ hw158_1)).trans hw158_1), ((HB.out.cell (World.block_lt_of_cell? w _ hw160_0)).trans hw160_0), ((HB.out.cell (World.block_lt_of_cell? w _ hw160_1)).trans hw160_1)⟩ (fun hHeld => ?_); refine with_tabW drydockref16_May.tab4 drydockref16_May.bits4 (fun HT_ HW_ => ?_)
       generalize wr.drew = w10 at BK157 HB hx158_0 hx158_1 hx160_0 hx160_1 hHeld ⊢
       refine pv_ 0 (some 11) HT_ (h := ?_)
       refine pv_ 2 (some 13) HT_ (h := ?_)
       refine tk_ 1 (some 12) HT_ HW_ hHeld (h := ?_)
       refine pv_ 3 (some 14) HT_ (h := ?_)
       refine tk_ 4 (some 15) HT_ HW_ hHeld (h := ?_)
       refine one_ (i := 5) (N := some 16) #[true, true, true, true, true, true, false, false, false, false, false, false, false, false, false, false, false, false, false] rfl rfl (one_of HT_.out (by kernel_rfl)) (by decide) (fun K hK => ?_)
       refine goes_ Try.func31 (by kernel_rfl) rfl #[.agg #[.int .i64 ((rd_T26 l0_1 x3_1).f0), .int .i64 ((rd_T26 l0_1 x3_1).f1)]] (by rfl) rfl rfl (by (try simp only [List.map_toArray, List.map_cons, List.map_nil]); first | done | rfl | (simp only [List.length_drop, List.length_take]; rfl)) ?_
       with_reducible refine (drydockref16_One.calls ((rd_T26 l0_1 x3_1).f0) ((rd_T26 l0_1 x3_1).f1) true _ A5.out).mono ?_
       rintro e w11 ⟨rfl, hb⟩
       refine ⟨_, rfl, ?_⟩
       have n0_ := Aside0.mk (blk_below (bk_ BK157) hb)
       have n1_ := Aside0.mk (below_step bs_ hb)
       clear BK157
       clear HB
       have BK157 := n0_
       have HB := n1_
       clear n0_ n1_
       (try clear hb)
       (try clear hb2)
       (try clear hk)
       (try clear hi)
       refine hK.out _ _ ⟨(blk_cell BK157.out 0).trans rfl, (blk_cell BK157.out 1).trans rfl, ((HB.out.cell (World.block_lt_of_cell? w _ hw158_0)).trans hw158_0), ((HB.out.cell (World.block_lt_of_cell? w _ hw158_1)).trans hw158_1), ((HB.out.cell (World.block_lt_of_cell? w _ hw160_0)).trans hw160_0), ((HB.out.cell (World.block_lt_of_cell? w _ hw160_1)).trans hw160_1)⟩ (fun hHeld => ?_)
       clear hK K
       refine norm_ (a' := ?_) ?_ ?_
       rotate_left
       ·show Act.put _ (some 16) _ = _
        simp only [Act.put, List.setIfInBounds_toArray, List.set_cons_zero, List.set_cons_succ, i64_w, i32_w]
        rfl
       refine pv_ 6 (some 17) HT_ (h := ?_)
       refine pv_ 7 (some 18) HT_ (h := ?_)
       refine pv_ 9 (some 20) HT_ (h := ?_)
       refine pv_ 11 (some 22) HT_ (h := ?_)
       refine pv_ 16 (some 27) HT_ (h := ?_)
       refine tk_ 8 (some 19) HT_ HW_ hHeld (h := ?_)
       refine tk_ 10 (some 21) HT_ HW_ hHeld (h := ?_)
       refine pv_ 12 (some 23) HT_ (h := ?_)
       refine pv_ 13 (some 24) HT_ (h := ?_)
       refine tk_ 14 (some 25) HT_ HW_ hHeld (h := ?_)
       refine one_ (i := 15) (N := some 26) #[true, true, true, true, true, true, true, true, true, true, true, true, true, true, true, true, true, false, false] rfl rfl (one_of HT_.out (by kernel_rfl)) (by decide) (fun K hK => ?_)
       refine goes_ Try.func27 (by kernel_rfl) rfl #[.agg #[.int .i64 a0_0, .slice (some ad158) l0_1.length c0_1], .int .i64 ((rd_T26 l0_1 x3_1).f0)] (by rfl) rfl rfl (by (try simp only [List.map_toArray, List.map_cons, List.map_nil]); first | done | rfl | (simp only [List.length_drop, List.length_take]; rfl)) ?_
       with_reducible refine (drydockref16_find.calls k1 a0_0 _ _ l0_1 ((rd_T26 l0_1 x3_1).f0) t161 _ ?side1 ?side2 A7.out).mono ?_
       (case side1 => repeat (first | exact (Kd.C_below HR0_1.out HB.out) | (with_reducible refine Kd.C_alloc ?_ _) | (with_reducible refine Kd.C_drewN ?_ _) | (with_reducible refine Kd.C_drew ?_)))
       (case side2 => exact HC0_1.out)
       rintro e w12 ⟨rfl, hb⟩
       refine ⟨_, rfl, ?_⟩
       have n0_ := Aside0.mk (blk_below (bk_ BK157) hb)
       have n1_ := Aside0.mk (below_step bs_ hb)
       clear BK157
       clear HB
       have BK157 := n0_
       have HB := n1_
       clear n0_ n1_
       (try clear hb)
       (try clear hb2)
       (try clear hk)
       (try clear hi)
       refine hK.out _ _ ⟨(blk_cell BK157.out 0).trans rfl, (blk_cell BK157.out 1).trans rfl, ((HB.out.cell (World.block_lt_of_cell? w _ hw158_0)).trans hw158_0), ((HB.out.cell (World.block_lt_of_cell? w _ hw158_1)).trans hw158_1), ((HB.out.cell (World.block_lt_of_cell? w _ hw160_0)).trans hw160_0), ((HB.out.cell (World.block_lt_of_cell? w _ hw160_1)).trans hw160_1)⟩ (fun hHeld => ?_)
       clear hK K
       refine norm_ (a' := ?_) ?_ ?_
       rotate_left
       ·show Act.put _ (some 26) _ = _
        simp only [Act.put, List.setIfInBounds_toArray, List.set_cons_zero, List.set_cons_succ, i64_w, i32_w]
        rfl
       refine pv_ 17 (some 28) HT_ (h := ?_)
       refine pv_ 18 (some 29) HT_ (h := ?_)
       refine done_ (done_of HT_.out (by kernel_rfl)) ?_
       try go_wp2
       go_ret
       exact ⟨by first | rfl | (simp [errW_none, errW_some] <;> rfl) | (simp [*, errW_none, errW_some] <;> rfl), by repeat (first | (with_reducible first | exact HB.out | apply below_alloc | apply pw_below_drewN | apply below_drew1 | refine below_set ?_ GE157.out) | exact HB.out)⟩
      ·rw [if_neg c8] at H
       have c8b0 : decide (t161 < x3_1) = false := decide_eq_false c8
       clear c8
       have H' := Aside0.mk H
       clear H
       obtain ⟨hcz13_0, hcz13_1, hfz13_0, hfz13_1⟩ := blk2 BK157
       try go_wp2
       have n0_ := Aside0.mk (blk_drew BK157.out)
       have n1_ := Aside0.mk (below_drew1 HB.out)
       clear BK157
       clear HB
       have BK157 := n0_
       have HB := n1_
       clear n0_ n1_
       have p158 : 0 ≤ (x3_1 : Int) := of_decide_eq_true (by first | (with_reducible assumption) | assumption)
       have q158 : x3_1 < (l0_1.length : Int) := of_decide_eq_true (by first | (with_reducible assumption) | assumption)
       obtain ⟨ad158, e158, hx158_0, hx158_1⟩ := at_T26 HR0_1.out x3_1 p158 q158
       have hw158_1 := hx158_1
       have hw158_0 := hx158_0
       cases e158
       replace hx158_0 := (HB.out.cell (World.block_lt_of_cell? w _ hx158_0)).trans hx158_0
       replace hx158_1 := (HB.out.cell (World.block_lt_of_cell? w _ hx158_1)).trans hx158_1
       replace p158 := eq_true p158
       replace q158 := eq_true q158
       have p160 : 0 ≤ (x3_1 : Int) := of_decide_eq_true (by first | (with_reducible assumption) | assumption)
       have q160 : x3_1 < (l0_1.length : Int) := of_decide_eq_true (by first | (with_reducible assumption) | assumption)
       obtain ⟨ad160, e160, hx160_0, hx160_1⟩ := at_T26 HR0_1.out x3_1 p160 q160
       have hw160_1 := hx160_1
       have hw160_0 := hx160_0
       obtain rfl : ad158 = ad160 := (by injection e160)
       replace hx160_0 := (HB.out.cell (World.block_lt_of_cell? w _ hx160_0)).trans hx160_0
       replace hx160_1 := (HB.out.cell (World.block_lt_of_cell? w _ hx160_1)).trans hx160_1
       replace p160 := eq_true p160
       replace q160 := eq_true q160
       refine start_ (n := 19) (S := fun w' => w'.cell? ⟨gb157, 0, none⟩ = some (.int .i64 a0_0) ∧ w'.cell? ⟨gb157, 1, none⟩ = some (.slice (some ad158) l0_1.length c0_1) ∧ w'.cell? (ad158.add ((x3_1).toNat * 2)) = some (.int .i64 ((rd_T26 l0_1 x3_1).f0)) ∧ w'.cell? ⟨(ad158.add ((x3_1).toNat * 2)).block, (ad158.add ((x3_1).toNat * 2)).off + 1, none⟩ = some (.int .i64 ((rd_T26 l0_1 x3_1).f1)) ∧ w'.cell? (ad158.add ((x3_1).toNat * 2)) = some (.int .i64 ((rd_T26 l0_1 x3_1).f0)) ∧ w'.cell? ⟨(ad158.add ((x3_1).toNat * 2)).block, (ad158.add ((x3_1).toNat * 2)).off + 1, none⟩ = some (.int .i64 ((rd_T26 l0_1 x3_1).f1))) (ds := []) #[false, false, false, false, false, false, false, false, false, false, false, false, false, false, false, false, false, false, false] (by kernel_rfl) rfl rfl ⟨(blk_cell BK157.out 0).trans rfl, (blk_cell BK157.out 1).trans rfl, ((HB.out.cell (World.block_lt_of_cell? w _ hw158_0)).trans hw158_0), ((HB.out.cell (World.block_lt_of_cell? w _ hw158_1)).trans hw158_1), ((HB.out.cell (World.block_lt_of_cell? w _ hw160_0)).trans hw160_0), ((HB.out.cell (World.block_lt_of_cell? w _ hw160_1)).trans hw160_1)⟩ (fun hHeld => ?_); refine with_tabW drydockref16_May.tab4 drydockref16_May.bits4 (fun HT_ HW_ => ?_)
       generalize wr.drew = w14 at BK157 HB hx158_0 hx158_1 hx160_0 hx160_1 hHeld ⊢
       refine pv_ 0 (some 11) HT_ (h := ?_)
       refine pv_ 2 (some 13) HT_ (h := ?_)
       refine tk_ 1 (some 12) HT_ HW_ hHeld (h := ?_)
       refine pv_ 3 (some 14) HT_ (h := ?_)
       refine tk_ 4 (some 15) HT_ HW_ hHeld (h := ?_)
       refine one_ (i := 5) (N := some 16) #[true, true, true, true, true, true, false, false, false, false, false, false, false, false, false, false, false, false, false] rfl rfl (one_of HT_.out (by kernel_rfl)) (by decide) (fun K hK => ?_)
       refine goes_ Try.func31 (by kernel_rfl) rfl #[.agg #[.int .i64 ((rd_T26 l0_1 x3_1).f0), .int .i64 ((rd_T26 l0_1 x3_1).f1)]] (by rfl) rfl rfl (by (try simp only [List.map_toArray, List.map_cons, List.map_nil]); first | done | rfl | (simp only [List.length_drop, List.length_take]; rfl)) ?_
       with_reducible refine (drydockref16_One.calls ((rd_T26 l0_1 x3_1).f0) ((rd_T26 l0_1 x3_1).f1) true _ A5.out).mono ?_
       rintro e w15 ⟨rfl, hb⟩
       refine ⟨_, rfl, ?_⟩
       have n0_ := Aside0.mk (blk_below (bk_ BK157) hb)
       have n1_ := Aside0.mk (below_step bs_ hb)
       clear BK157
       clear HB
       have BK157 := n0_
       have HB := n1_
       clear n0_ n1_
       (try clear hb)
       (try clear hb2)
       (try clear hk)
       (try clear hi)
       refine hK.out _ _ ⟨(blk_cell BK157.out 0).trans rfl, (blk_cell BK157.out 1).trans rfl, ((HB.out.cell (World.block_lt_of_cell? w _ hw158_0)).trans hw158_0), ((HB.out.cell (World.block_lt_of_cell? w _ hw158_1)).trans hw158_1), ((HB.out.cell (World.block_lt_of_cell? w _ hw160_0)).trans hw160_0), ((HB.out.cell (World.block_lt_of_cell? w _ hw160_1)).trans hw160_1)⟩ (fun hHeld => ?_)
       clear hK K
       refine norm_ (a' := ?_) ?_ ?_
       rotate_left
       ·show Act.put _ (some 16) _ = _
        simp only [Act.put, List.setIfInBounds_toArray, List.set_cons_zero, List.set_cons_succ, i64_w, i32_w]
        rfl
       refine pv_ 6 (some 17) HT_ (h := ?_)
       refine pv_ 7 (some 18) HT_ (h := ?_)
       refine pv_ 9 (some 20) HT_ (h := ?_)
       refine pv_ 11 (some 22) HT_ (h := ?_)
       refine pv_ 16 (some 27) HT_ (h := ?_)
       refine tk_ 8 (some 19) HT_ HW_ hHeld (h := ?_)
       refine tk_ 10 (some 21) HT_ HW_ hHeld (h := ?_)
       refine pv_ 12 (some 23) HT_ (h := ?_)
       refine pv_ 13 (some 24) HT_ (h := ?_)
       refine tk_ 14 (some 25) HT_ HW_ hHeld (h := ?_)
       refine one_ (i := 15) (N := some 26) #[true, true, true, true, true, true, true, true, true, true, true, true, true, true, true, true, true, false, false] rfl rfl (one_of HT_.out (by kernel_rfl)) (by decide) (fun K hK => ?_)
       refine goes_ Try.func27 (by kernel_rfl) rfl #[.agg #[.int .i64 a0_0, .slice (some ad158) l0_1.length c0_1], .int .i64 ((rd_T26 l0_1 x3_1).f0)] (by rfl) rfl rfl (by (try simp only [List.map_toArray, List.map_cons, List.map_nil]); first | done | rfl | (simp only [List.length_drop, List.length_take]; rfl)) ?_
       with_reducible refine (drydockref16_find.calls k1 a0_0 _ _ l0_1 ((rd_T26 l0_1 x3_1).f0) t161 _ ?side1 ?side2 A7.out).mono ?_
       (case side1 => repeat (first | exact (Kd.C_below HR0_1.out HB.out) | (with_reducible refine Kd.C_alloc ?_ _) | (with_reducible refine Kd.C_drewN ?_ _) | (with_reducible refine Kd.C_drew ?_)))
       (case side2 => exact HC0_1.out)
       rintro e w16 ⟨rfl, hb⟩
       refine ⟨_, rfl, ?_⟩
       have n0_ := Aside0.mk (blk_below (bk_ BK157) hb)
       have n1_ := Aside0.mk (below_step bs_ hb)
       clear BK157
       clear HB
       have BK157 := n0_
       have HB := n1_
       clear n0_ n1_
       (try clear hb)
       (try clear hb2)
       (try clear hk)
       (try clear hi)
       refine hK.out _ _ ⟨(blk_cell BK157.out 0).trans rfl, (blk_cell BK157.out 1).trans rfl, ((HB.out.cell (World.block_lt_of_cell? w _ hw158_0)).trans hw158_0), ((HB.out.cell (World.block_lt_of_cell? w _ hw158_1)).trans hw158_1), ((HB.out.cell (World.block_lt_of_cell? w _ hw160_0)).trans hw160_0), ((HB.out.cell (World.block_lt_of_cell? w _ hw160_1)).trans hw160_1)⟩ (fun hHeld => ?_)
       clear hK K
       refine norm_ (a' := ?_) ?_ ?_
       rotate_left
       ·show Act.put _ (some 26) _ = _
        simp only [Act.put, List.setIfInBounds_toArray, List.set_cons_zero, List.set_cons_succ, i64_w, i32_w]
        rfl
       refine pv_ 17 (some 28) HT_ (h := ?_)
       refine pv_ 18 (some 29) HT_ (h := ?_)
       refine done_ (done_of HT_.out (by kernel_rfl)) ?_
       try go_wp2
       go_roundg k1
       case measure => have := HK1.out; omega
       case rel => exact ⟨(wrap64 (x3_1 + 1)), (by first | rfl | (simp; done) | (simp [*]; done)), H', ⟨by have := HK1.out; omega⟩, ⟨bk_ BK157⟩, ⟨bs_⟩⟩
     ·replace c6 := Bool.eq_false_iff.mpr c6
      subst c6
      have H1 : (some false) = some r := by rw [if_neg (show ¬ (false = true) by decide)] at H; exact H
      clear H
      have H := H1
      clear H1
      obtain rfl := Option.some.inj H
      obtain ⟨hcz17_0, hcz17_1, hfz17_0, hfz17_1⟩ := blk2 BK157
      try go_wp2
      have n0_ := Aside0.mk (blk_drew BK157.out)
      have n1_ := Aside0.mk (below_drew1 HB.out)
      clear BK157
      clear HB
      have BK157 := n0_
      have HB := n1_
      clear n0_ n1_
      have p158 : 0 ≤ (x3_1 : Int) := of_decide_eq_true (by first | (with_reducible assumption) | assumption)
      have q158 : x3_1 < (l0_1.length : Int) := of_decide_eq_true (by first | (with_reducible assumption) | assumption)
      obtain ⟨ad158, e158, hx158_0, hx158_1⟩ := at_T26 HR0_1.out x3_1 p158 q158
      have hw158_1 := hx158_1
      have hw158_0 := hx158_0
      cases e158
      replace hx158_0 := (HB.out.cell (World.block_lt_of_cell? w _ hx158_0)).trans hx158_0
      replace hx158_1 := (HB.out.cell (World.block_lt_of_cell? w _ hx158_1)).trans hx158_1
      replace p158 := eq_true p158
      replace q158 := eq_true q158
      refine start_ (n := 19) (S := fun w' => w'.cell? ⟨gb157, 0, none⟩ = some (.int .i64 a0_0) ∧ w'.cell? ⟨gb157, 1, none⟩ = some (.slice (some ad158) l0_1.length c0_1) ∧ w'.cell? (ad158.add ((x3_1).toNat * 2)) = some (.int .i64 ((rd_T26 l0_1 x3_1).f0)) ∧ w'.cell? ⟨(ad158.add ((x3_1).toNat * 2)).block, (ad158.add ((x3_1).toNat * 2)).off + 1, none⟩ = some (.int .i64 ((rd_T26 l0_1 x3_1).f1))) (ds := []) #[false, false, false, false, false, false, false, false, false, false, false, false, false, false, false, false, false, false, false] (by kernel_rfl) rfl rfl ⟨(blk_cell BK157.out 0).trans rfl, (blk_cell BK157.out 1).trans rfl, ((HB.out.cell (World.block_lt_of_cell? w _ hw158_0)).trans hw158_0), ((HB.out.cell (World.block_lt_of_cell? w _ hw158_1)).trans hw158_1)⟩ (fun hHeld => ?_); refine with_tabW drydockref16_May.tab4 drydockref16_May.bits4 (fun HT_ HW_ => ?_)
      generalize wr.drew = w18 at BK157 HB hx158_0 hx158_1 hHeld ⊢
      refine pv_ 0 (some 11) HT_ (h := ?_)
      refine pv_ 2 (some 13) HT_ (h := ?_)
      refine tk_ 1 (some 12) HT_ HW_ hHeld (h := ?_)
      refine pv_ 3 (some 14) HT_ (h := ?_)
      refine tk_ 4 (some 15) HT_ HW_ hHeld (h := ?_)
      refine one_ (i := 5) (N := some 16) #[true, true, true, true, true, true, false, false, false, false, false, false, false, false, false, false, false, false, false] rfl rfl (one_of HT_.out (by kernel_rfl)) (by decide) (fun K hK => ?_)
      refine goes_ Try.func31 (by kernel_rfl) rfl #[.agg #[.int .i64 ((rd_T26 l0_1 x3_1).f0), .int .i64 ((rd_T26 l0_1 x3_1).f1)]] (by rfl) rfl rfl (by (try simp only [List.map_toArray, List.map_cons, List.map_nil]); first | done | rfl | (simp only [List.length_drop, List.length_take]; rfl)) ?_
      with_reducible refine (drydockref16_One.calls ((rd_T26 l0_1 x3_1).f0) ((rd_T26 l0_1 x3_1).f1) false _ A5.out).mono ?_
      rintro e w19 ⟨rfl, hb⟩
      refine ⟨_, rfl, ?_⟩
      have n0_ := Aside0.mk (blk_below (bk_ BK157) hb)
      have n1_ := Aside0.mk (below_step bs_ hb)
      clear BK157
      clear HB
      have BK157 := n0_
      have HB := n1_
      clear n0_ n1_
      (try clear hb)
      (try clear hb2)
      (try clear hk)
      (try clear hi)
      refine hK.out _ _ ⟨(blk_cell BK157.out 0).trans rfl, (blk_cell BK157.out 1).trans rfl, ((HB.out.cell (World.block_lt_of_cell? w _ hw158_0)).trans hw158_0), ((HB.out.cell (World.block_lt_of_cell? w _ hw158_1)).trans hw158_1)⟩ (fun hHeld => ?_)
      clear hK K
      refine norm_ (a' := ?_) ?_ ?_
      rotate_left
      ·show Act.put _ (some 16) _ = _
       simp only [Act.put, List.setIfInBounds_toArray, List.set_cons_zero, List.set_cons_succ, i64_w, i32_w]
       rfl
      refine pv_ 6 (some 17) HT_ (h := ?_)
      refine pv_ 7 (some 18) HT_ (h := ?_)
      refine pu_ 8 (some 19) HT_ (h := ?_)
      refine pu_ 9 (some 20) HT_ (h := ?_)
      refine pu_ 10 (some 21) HT_ (h := ?_)
      refine pu_ 11 (some 22) HT_ (h := ?_)
      refine pu_ 12 (some 23) HT_ (h := ?_)
      refine pu_ 13 (some 24) HT_ (h := ?_)
      refine pu_ 14 (some 25) HT_ (h := ?_)
      refine pu_ 15 (some 26) HT_ (h := ?_)
      refine pu_ 16 (some 27) HT_ (h := ?_)
      refine pu_ 17 (some 28) HT_ (h := ?_)
      refine pv_ 18 (some 29) HT_ (h := ?_)
      refine done_ (done_of HT_.out (by kernel_rfl)) ?_
      try go_wp2
      go_ret
      exact ⟨by first | rfl | (simp [errW_none, errW_some] <;> rfl) | (simp [*, errW_none, errW_some] <;> rfl), by repeat (first | (with_reducible first | exact HB.out | apply below_alloc | apply pw_below_drewN | apply below_drew1 | refine below_set ?_ GE157.out) | exact HB.out)⟩
    ·rw [if_neg c4] at H
     exact absurd H (by simp)
   ·rw [if_neg c3] at H
    have c3b0 : decide (x3_1 < (l0_1.length : Int)) = false := decide_eq_false c3
    clear c3
    by_cases c20 : a0_0 ≥ 0
    ·rw [if_pos c20] at H
     have c20b0 : decide (0 ≤ a0_0) = true := decide_eq_true c20
     clear c20
     by_cases c21 : a0_0 ≤ 1073741824
     ·rw [if_pos c21] at H
      have c21b0 : decide (a0_0 ≤ 1073741824) = true := decide_eq_true c21
      clear c21
      obtain rfl := Option.some.inj H
      obtain ⟨hcz22_0, hcz22_1, hfz22_0, hfz22_1⟩ := blk2 BK157
      go_wp2
      go_ret
      exact ⟨by first | rfl | (simp [errW_none, errW_some] <;> rfl) | (simp [*, errW_none, errW_some] <;> rfl), by repeat (first | (with_reducible first | exact HB.out | apply below_alloc | apply pw_below_drewN | apply below_drew1 | refine below_set ?_ GE157.out) | exact HB.out)⟩
     ·rw [if_neg c21] at H
      have c21b0 : decide (a0_0 ≤ 1073741824) = false := decide_eq_false c21
      clear c21
      obtain rfl := Option.some.inj H
      obtain ⟨hcz23_0, hcz23_1, hfz23_0, hfz23_1⟩ := blk2 BK157
      go_wp2
      go_ret
      exact ⟨by first | rfl | (simp [errW_none, errW_some] <;> rfl) | (simp [*, errW_none, errW_some] <;> rfl), by repeat (first | (with_reducible first | exact HB.out | apply below_alloc | apply pw_below_drewN | apply below_drew1 | refine below_set ?_ GE157.out) | exact HB.out)⟩
    ·rw [if_neg c20] at H
     have c20b0 : decide (0 ≤ a0_0) = false := decide_eq_false c20
     clear c20
     obtain rfl := Option.some.inj H
     obtain ⟨hcz24_0, hcz24_1, hfz24_0, hfz24_1⟩ := blk2 BK157
     go_wp2
     go_ret
     exact ⟨by first | rfl | (simp [errW_none, errW_some] <;> rfl) | (simp [*, errW_none, errW_some] <;> rfl), by repeat (first | (with_reducible first | exact HB.out | apply below_alloc | apply pw_below_drewN | apply below_drew1 | refine below_set ?_ GE157.out) | exact HB.out)⟩

end Go.Proofs.Ytoehingbhmaidaa.P
