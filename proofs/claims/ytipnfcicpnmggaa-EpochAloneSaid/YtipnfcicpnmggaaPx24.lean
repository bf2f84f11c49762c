-- Written by a program of this session over the kit's print of the translation. Lean checks it.
import Derived.Test.YtipnfcicpnmggaaPx0
import Derived.Test.YtipnfcicpnmggaaPx5
import Derived.Test.YtipnfcicpnmggaaPx6
import Derived.Test.YtipnfcicpnmggaaPx8
import Derived.Test.YtipnfcicpnmggaaPx10
import Derived.Test.YtipnfcicpnmggaaPx11
import Derived.Test.YtipnfcicpnmggaaPx15
-- shorter
namespace Go.Proofs.Ytipnfcicpnmggaa.P
open Go.RowKit Go.Proofs.YtipnfcicpnmggaaW.PrintWords Go.Proofs.YtipnfcicpnmggaaW.PrintLast Go.Proofs.YtipnfcicpnmggaaW.PrintMore
attribute [local go_sem] max2_int min2_int max_two min_two max_three min_three max_four min_four   -- for this text's walks alone
set_option linter.unusedVariables false
set_option linter.unusedSimpArgs false

/-! ### drydocklaw17_EpochAlone: function 7 -/
def drydocklaw17_EpochAlone.j0 : Nat → Int → Bool → Bool → Int → Int → Int → Int → Int → List (S43) → Option (Bool)
  | 0, _, _, _, _, _, _, _, _, _ => none
  | k + 1, x1, x5, x17, x591000, x591001, x591002, x591003, x591004, x591005 => if x17 = true then (some x5) else ((epoch_Enter.f k x591000 x591001 x591002 x591003 x591004 x591005 x1).bind fun bt593 => (if bt593.2.2.2.2.2.2 = 0 then ((epoch_Leave.f k bt593.1 bt593.2.1 bt593.2.2.1 bt593.2.2.2.1 bt593.2.2.2.2.1 bt593.2.2.2.2.2.1 x1).bind fun bt603 => (if bt603.2.2.2.2.2.2 = 0 then ((drydockref17_Same.f k bt603.1 bt603.2.1 bt603.2.2.1 bt603.2.2.2.1 bt603.2.2.2.2.1 bt603.2.2.2.2.2.1 x591000 x591001 x591002 x591003 x591004 x591005).bind fun t613 => (if t613 = true then ((epoch_Ready.f k bt593.1 bt593.2.1 bt593.2.2.1 bt593.2.2.2.1 bt593.2.2.2.2.1 bt593.2.2.2.2.2.1).bind fun t614 => ((epoch_Ready.f k x591000 x591001 x591002 x591003 x591004 x591005).bind fun t617 => ((drydockref01_Ints.f k t614 t617).bind fun t620 => (if t620 = true then ((epoch_Ready.f k x591000 0 0 0 0 x591005).bind fun t621 => (some ((t621.length : Int) == (x591005.length : Int)))) else (none))))) else (none))) else (none))) else ((epoch_Ready.f k x591000 0 0 0 0 x591005).bind fun t624 => (some ((t624.length : Int) == (x591005.length : Int))))))
def drydocklaw17_EpochAlone.f (k : Nat) (a0_0 : Int) (a0_1 : Int) (a0_2 : Int) (a0_3 : Int) (a0_4 : Int) (l0_5 : List (S43)) (a1 : Int) : Option (Bool) := (drydocklaw17_awake.f k).bind fun t591 => (if t591 = true then ((epoch_May.f k a0_0 a0_1 a0_2 a0_3 a0_4 l0_5).bind fun t592 => (drydocklaw17_EpochAlone.j0 k a1 t591 (!t592) a0_0 a0_1 a0_2 a0_3 a0_4 l0_5)) else (drydocklaw17_EpochAlone.j0 k a1 t591 true a0_0 a0_1 a0_2 a0_3 a0_4 l0_5))
theorem drydocklaw17_EpochAlone.mono_l : ∀ k, (∀ y0 y1 y2 y3 y4 y5 y6 y7 y8, LeO (drydocklaw17_EpochAlone.j0 k y0 y1 y2 y3 y4 y5 y6 y7 y8) (drydocklaw17_EpochAlone.j0 (k + 1) y0 y1 y2 y3 y4 y5 y6 y7 y8))
  | 0 => fun _ _ _ _ _ _ _ _ _ r h => by simp [drydocklaw17_EpochAlone.j0] at h
  | k + 1 => by
    have ih0 := drydocklaw17_EpochAlone.mono_l k
    · intro y0 y1 y2 y3 y4 y5 y6 y7 y8
      unfold drydocklaw17_EpochAlone.j0
      repeat' first
      | (with_reducible exact ih0 _ _ _ _ _ _ _ _ _)
      | (with_reducible exact drydocklaw17_awake.mono _)
      | (with_reducible exact drydockref01_Ints.mono _ _ _)
      | (with_reducible exact drydockref17_Same.mono _ _ _ _ _ _ _ _ _ _ _ _ _)
      | (with_reducible exact epoch_Enter.mono _ _ _ _ _ _ _ _)
      | (with_reducible exact epoch_Leave.mono _ _ _ _ _ _ _ _)
      | (with_reducible exact epoch_May.mono _ _ _ _ _ _ _)
      | (with_reducible exact epoch_Ready.mono _ _ _ _ _ _ _)
      | (with_reducible exact LeO.refl _)
      | (with_reducible exact LeO.none _)
      | (with_reducible refine LeO.ite ?_ ?_)
      | (with_reducible refine LeO.bind ?_ (fun _ => ?_))
      | exact ih0 _ _ _ _ _ _ _ _ _
      | exact drydocklaw17_awake.mono _
      | exact drydockref01_Ints.mono _ _ _
      | exact drydockref17_Same.mono _ _ _ _ _ _ _ _ _ _ _ _ _
      | exact epoch_Enter.mono _ _ _ _ _ _ _ _
      | exact epoch_Leave.mono _ _ _ _ _ _ _ _
      | exact epoch_May.mono _ _ _ _ _ _ _
      | exact epoch_Ready.mono _ _ _ _ _ _ _
      | exact LeO.none _
      | refine LeO.ite ?_ ?_
      | refine LeO.bind ?_ (fun _ => ?_)
theorem drydocklaw17_EpochAlone.mono : ∀ a0 a1 a2 a3 a4 a5 a6 k, LeO (drydocklaw17_EpochAlone.f k a0 a1 a2 a3 a4 a5 a6) (drydocklaw17_EpochAlone.f (k + 1) a0 a1 a2 a3 a4 a5 a6) := by
 intro a0 a1 a2 a3 a4 a5 a6 k
 have ih0 := drydocklaw17_EpochAlone.mono_l k
 unfold drydocklaw17_EpochAlone.f
 repeat' first
  | (with_reducible exact ih0 _ _ _ _ _ _ _ _ _)
  | (with_reducible exact drydocklaw17_awake.mono _)
  | (with_reducible exact drydockref01_Ints.mono _ _ _)
  | (with_reducible exact drydockref17_Same.mono _ _ _ _ _ _ _ _ _ _ _ _ _)
  | (with_reducible exact epoch_Enter.mono _ _ _ _ _ _ _ _)
  | (with_reducible exact epoch_Leave.mono _ _ _ _ _ _ _ _)
  | (with_reducible exact epoch_May.mono _ _ _ _ _ _ _)
  | (with_reducible exact epoch_Ready.mono _ _ _ _ _ _ _)
  | (with_reducible exact LeO.refl _)
  | (with_reducible exact LeO.none _)
  | (with_reducible refine LeO.ite ?_ ?_)
  | (with_reducible refine LeO.bind ?_ (fun _ => ?_))
  | exact ih0 _ _ _ _ _ _ _ _ _
  | exact drydocklaw17_awake.mono _
  | exact drydockref01_Ints.mono _ _ _
  | exact drydockref17_Same.mono _ _ _ _ _ _ _ _ _ _ _ _ _
  | exact epoch_Enter.mono _ _ _ _ _ _ _ _
  | exact epoch_Leave.mono _ _ _ _ _ _ _ _
  | exact epoch_May.mono _ _ _ _ _ _ _
  | exact epoch_Ready.mono _ _ _ _ _ _ _
  | exact LeO.none _
  | refine LeO.ite ?_ ?_
  | refine LeO.bind ?_ (fun _ => ?_)
def drydocklaw17_EpochAlone.T7 : Bool × List (List Nat × List Nat) := (true, [([], []), ([0], [0]), ([1], [1]), ([2], [2]), ([2], [2]), ([3, 4, 2, 2], [2, 3, 4]), ([5, 2], [2, 5]), ([2, 6], [2, 6]), ([7, 5], [7]), ([8], [8]), ([9, 8, 8], [8, 9]), ([8], [8]), ([11, 10, 8], [8, 11]), ([10, 12, 12, 8], [8, 10, 12]), ([13, 8], [8, 13]), ([8, 14], [8, 14])])
def drydocklaw17_EpochAlone.B7 : List Nat := [0, 1, 3, 7, 7, 31, 63, 127, 255, 511, 1023, 511, 4095, 8191, 16383, 32767]
theorem drydocklaw17_EpochAlone.tab7 : rtab .any (opsOf Try.f7 7) = drydocklaw17_EpochAlone.T7 := by kernel_rfl
theorem drydocklaw17_EpochAlone.bits7 : waitsOk drydocklaw17_EpochAlone.T7.2 drydocklaw17_EpochAlone.B7 = true := by kernel_rfl
def drydocklaw17_EpochAlone.T10 : Bool × List (List Nat × List Nat) := (true, [([], []), ([0], [0]), ([1], [1]), ([], []), ([3], [3]), ([4], [4]), ([2, 5], [2, 5]), ([6, 1, 0, 1, 2, 3, 4, 5, 6], [6])])
def drydocklaw17_EpochAlone.B10 : List Nat := [0, 1, 3, 0, 8, 24, 63, 127]
theorem drydocklaw17_EpochAlone.tab10 : rtab .any (opsOf Try.f7 10) = drydocklaw17_EpochAlone.T10 := by kernel_rfl
theorem drydocklaw17_EpochAlone.bits10 : waitsOk drydocklaw17_EpochAlone.T10.2 drydocklaw17_EpochAlone.B10 = true := by kernel_rfl
set_option maxHeartbeats 8000000 in
set_option maxRecDepth 100000 in
theorem drydocklaw17_EpochAlone.calls (k : Nat) (a0_0 : Int) (a0_1 : Int) (a0_2 : Int) (a0_3 : Int) (a0_4 : Int) (A0_5 : Option Addr) (c0_5 : Nat) (l0_5 : List (S43)) (a1 : Int) (r : Bool) (w : World) (hr0_5 : Kd.C k43 w A0_5 l0_5.length l0_5) (hc0_5 : l0_5.length ≤ c0_5) (h : drydocklaw17_EpochAlone.f k a0_0 a0_1 a0_2 a0_3 a0_4 l0_5 a1 = some r) :
    Calls Try.prog 7 #[.agg #[.int .i64 a0_0, .int .i64 a0_1, .int .i64 a0_2, .int .i64 a0_3, .int .i64 a0_4, .slice A0_5 l0_5.length c0_5], .int .i64 a1] w fun e w' => e = .returned (.bool r) ∧ Below w.heap.size w w' := by
 have hu25 := Try.underlying25
 have hu22 := Try.underlying22
 have HR0_5 := Aside0.mk hr0_5
 have HC0_5 := Aside0.mk hc0_5
 clear hr0_5 hc0_5
 have HB := Aside0.mk (Below.refl w.heap.size w)
 have H : ((drydocklaw17_awake.f k).bind fun t591 => (if t591 = true then ((epoch_May.f k a0_0 a0_1 a0_2 a0_3 a0_4 l0_5).bind fun t592 => (drydocklaw17_EpochAlone.j0 k a1 t591 (!t592) a0_0 a0_1 a0_2 a0_3 a0_4 l0_5)) else (drydocklaw17_EpochAlone.j0 k a1 t591 true a0_0 a0_1 a0_2 a0_3 a0_4 l0_5))) = some r := h
 clear h
 replace H := Option.bind_eq_some_iff.mp H
 obtain ⟨t591, A30, H⟩ := H
 replace H : (if t591 = true then ((epoch_May.f k a0_0 a0_1 a0_2 a0_3 a0_4 l0_5).bind fun t592 => (drydocklaw17_EpochAlone.j0 k a1 t591 (!t592) a0_0 a0_1 a0_2 a0_3 a0_4 l0_5)) else (drydocklaw17_EpochAlone.j0 k a1 t591 true a0_0 a0_1 a0_2 a0_3 a0_4 l0_5)) = some r := H
 have A3 := Aside0.mk A30
 clear A30
 have HC4 := Aside0.mk H
 clear H
 go_enter Try.func7, Try.ntmps7
 go_upto_region 2 with (first | ((with_reducible refine gate_dst (N := 2) rfl ?_); refine box_event ?hg (N := 2) ?hd (cs := #[.int .i64 a0_0, .int .i64 a0_1, .int .i64 a0_2, .int .i64 a0_3, .int .i64 a0_4, .slice A0_5 l0_5.length c0_5]) (t := 25) ?hr ?_; (case hd => rfl); (case hg => rfl); (case hr => first | (go_simp; done) | (go_simp; rfl)); intro gb590 hg w5 hbox hb; have n0_ := Aside0.mk (below_step bs_ hb); have n1_ := Aside0.mk (hbox); have n2_ := Aside0.mk ((by rw [hg]; exact (below_size bs_) : w.heap.size ≤ gb590)); have n3_ := Aside0.mk ((by rw [hg]; exact (below_size bs_) : w.heap.size ≤ gb590)); clear HB; have HB := n0_; have BK590 := n1_; have GW590 := n2_; have GE590 := n3_; clear n0_ n1_ n2_ n3_; clear hb hbox hg) | ((with_reducible refine gate_callee (f := 9) rfl ?_); refine goesL_ (some 10) rfl rfl Try.func9 (by kernel_rfl) rfl #[] rfl (by (try simp only [List.map_toArray, List.map_cons, List.map_nil]); first | done | rfl | (simp only [List.length_drop, List.length_take]; rfl)) ?_; (with_reducible refine (drydocklaw17_awake.calls k  t591 _ A3.out).mono ?_); rintro e w6 ⟨rfl, hb⟩; refine ⟨_, rfl, ?_⟩; have n0_ := Aside0.mk (blk_below (bk_ BK590) hb); have n1_ := Aside0.mk (below_step bs_ hb); clear BK590 HB; have BK590 := n0_; have HB := n1_; clear n0_ n1_; (try clear hb); (try clear hb2); (try clear hk); (try clear hi)))
 (try simp only [Act.put, List.setIfInBounds_toArray, List.set_cons_zero, List.set_cons_succ])
 go_cut [17] (fun v17 wc => ∃ (kq : Nat) (x17_3 : Bool), v17 = .bool x17_3 ∧ Aside0 (drydocklaw17_EpochAlone.j0 kq a1 t591 x17_3 a0_0 a0_1 a0_2 a0_3 a0_4 l0_5 = some r) ∧ Aside0 (kq ≤ k) ∧ Aside0 (wc.heap[gb590]? = some (.cells #[.int .i64 a0_0, .int .i64 a0_1, .int .i64 a0_2, .int .i64 a0_3, .int .i64 a0_4, (.slice A0_5 l0_5.length c0_5)] 25 (0, 0))) ∧ Aside0 (Below w.heap.size w wc))
 case first =>
  have H := HC4.out
  clear HC4
  by_cases c7 : t591 = true
  ·subst c7
   have H1 : ((epoch_May.f k a0_0 a0_1 a0_2 a0_3 a0_4 l0_5).bind fun t592 => (drydocklaw17_EpochAlone.j0 k a1 true (!t592) a0_0 a0_1 a0_2 a0_3 a0_4 l0_5)) = some r := by rw [if_pos rfl] at H; exact H
   clear H
   have H := H1
   clear H1
   replace H := Option.bind_eq_some_iff.mp H
   obtain ⟨t592, A80, H⟩ := H
   replace H : (drydocklaw17_EpochAlone.j0 k a1 true (!t592) a0_0 a0_1 a0_2 a0_3 a0_4 l0_5) = some r := H
   have A8 := Aside0.mk A80
   clear A80
   have H' := Aside0.mk H
   clear H
   obtain ⟨hcz9_0, hcz9_1, hcz9_2, hcz9_3, hcz9_4, hcz9_5, hfz9_0, hfz9_1, hfz9_2, hfz9_3, hfz9_4, hfz9_5⟩ := blk6 BK590
   go_wp2_with (first | (go_at_call 23; (with_reducible refine (epoch_May.calls k a0_0 a0_1 a0_2 a0_3 a0_4 _ _ l0_5 t592 _ ?side1 ?side2 A8.out).mono ?_); (case side1 => repeat (first | exact (Kd.C_below HR0_5.out HB.out) | (with_reducible refine Kd.C_alloc ?_ _) | (with_reducible refine Kd.C_drewN ?_ _) | (with_reducible refine Kd.C_drew ?_))); (case side2 => exact HC0_5.out); rintro e w10 ⟨rfl, hb⟩; have n0_ := Aside0.mk (blk_below (bk_ BK590) hb); have n1_ := Aside0.mk (below_step bs_ hb); clear BK590 HB; have BK590 := n0_; have HB := n1_; clear n0_ n1_; (try clear hb); (try clear hb2); (try clear hk); (try clear hi)))
   go_meet
   case rel => exact ⟨_, (!t592), eq_, H', ⟨by first | omega | exact Nat.le_refl _⟩, ⟨bk_ BK590⟩, ⟨bs_⟩⟩
  ·replace c7 := Bool.eq_false_iff.mpr c7
   subst c7
   have H1 : (drydocklaw17_EpochAlone.j0 k a1 false true a0_0 a0_1 a0_2 a0_3 a0_4 l0_5) = some r := by rw [if_neg (show ¬ (false = true) by decide)] at H; exact H
   clear H
   have H := H1
   clear H1
   have H' := Aside0.mk H
   clear H
   go_wp2
   go_meet
   case rel => exact ⟨_, (true), eq_, H', ⟨by first | omega | exact Nat.le_refl _⟩, ⟨bk_ BK590⟩, ⟨bs_⟩⟩
 case rest =>
  clear HC4
  obtain ⟨kq, x17_3, rfl, HA, HJ3, BK590, HB⟩ := hcut
  cases kq with
  | zero => exact absurd HA.out (by simp [drydocklaw17_EpochAlone.j0])
  | succ kj3 =>
   have H := HA.out
   clear HA
   simp only [drydocklaw17_EpochAlone.j0] at H
   by_cases c11 : x17_3 = true
   ·subst c11
    have H1 : (some t591) = some r := by rw [if_pos rfl] at H; exact H
    clear H
    have H := H1
    clear H1
    obtain rfl := Option.some.inj H
    go_wp2
    go_ret
    exact ⟨by first | rfl | (simp [errW_none, errW_some] <;> rfl) | (simp [*, errW_none, errW_some] <;> rfl), by repeat (first | (with_reducible first | exact HB.out | apply below_alloc | apply pw_below_drewN | apply below_drew1 | refine below_set ?_ GE590.out) | exact HB.out)⟩
   ·replace c11 := Bool.eq_false_iff.mpr c11
    subst c11
    have H1 : ((epoch_Enter.f kj3 a0_0 a0_1 a0_2 a0_3 a0_4 l0_5 a1).bind fun bt593 => (if bt593.2.2.2.2.2.2 = 0 then ((epoch_Leave.f kj3 bt593.1 bt593.2.1 bt593.2.2.1 bt593.2.2.2.1 bt593.2.2.2.2.1 bt593.2.2.2.2.2.1 a1).bind fun bt603 => (if bt603.2.2.2.2.2.2 = 0 then ((drydockref17_Same.f kj3 bt603.1 bt603.2.1 bt603.2.2.1 bt603.2.2.2.1 bt603.2.2.2.2.1 bt603.2.2.2.2.2.1 a0_0 a0_1 a0_2 a0_3 a0_4 l0_5).bind fun t613 => (if t613 = true then ((epoch_Ready.f kj3 bt593.1 bt593.2.1 bt593.2.2.1 bt593.2.2.2.1 bt593.2.2.2.2.1 bt593.2.2.2.2.2.1).bind fun t614 => ((epoch_Ready.f kj3 a0_0 a0_1 a0_2 a0_3 a0_4 l0_5).bind fun t617 => ((drydockref01_Ints.f kj3 t614 t617).bind fun t620 => (if t620 = true then ((epoch_Ready.f kj3 a0_0 0 0 0 0 l0_5).bind fun t621 => (some ((t621.length : Int) == (l0_5.length : Int)))) else (none))))) else (none))) else (none))) else ((epoch_Ready.f kj3 a0_0 0 0 0 0 l0_5).bind fun t624 => (some ((t624.length : Int) == (l0_5.length : Int)))))) = some r := by rw [if_neg (show ¬ (false = true) by decide)] at H; exact H
    clear H
    have H := H1
    clear H1
    replace H := Option.bind_eq_some_iff.mp H
    obtain ⟨⟨t593, t594, t595, t596, t597, t598, t601⟩, A120, H⟩ := H
    replace H : (if t601 = 0 then ((epoch_Leave.f kj3 t593 t594 t595 t596 t597 t598 a1).bind fun bt603 => (if bt603.2.2.2.2.2.2 = 0 then ((drydockref17_Same.f kj3 bt603.1 bt603.2.1 bt603.2.2.1 bt603.2.2.2.1 bt603.2.2.2.2.1 bt603.2.2.2.2.2.1 a0_0 a0_1 a0_2 a0_3 a0_4 l0_5).bind fun t613 => (if t613 = true then ((epoch_Ready.f kj3 t593 t594 t595 t596 t597 t598).bind fun t614 => ((epoch_Ready.f kj3 a0_0 a0_1 a0_2 a0_3 a0_4 l0_5).bind fun t617 => ((drydockref01_Ints.f kj3 t614 t617).bind fun t620 => (if t620 = true then ((epoch_Ready.f kj3 a0_0 0 0 0 0 l0_5).bind fun t621 => (some ((t621.length : Int) == (l0_5.length : Int)))) else (none))))) else (none))) else (none))) else ((epoch_Ready.f kj3 a0_0 0 0 0 0 l0_5).bind fun t624 => (some ((t624.length : Int) == (l0_5.length : Int))))) = some r := H
    have A12 := Aside0.mk A120
    clear A120
    by_cases c13 : t601 = 0
    ·rw [if_pos c13] at H
     have c13b0 : (t601 == 0) = true := beq_iff_eq.mpr c13
     have c13b1 : (t601 != 0) = false := bne_eq_false_iff_eq.mpr c13
     clear c13
     replace H := Option.bind_eq_some_iff.mp H
     obtain ⟨⟨t603, t604, t605, t606, t607, t608, t611⟩, A140, H⟩ := H
     replace H : (if t611 = 0 then ((drydockref17_Same.f kj3 t603 t604 t605 t606 t607 t608 a0_0 a0_1 a0_2 a0_3 a0_4 l0_5).bind fun t613 => (if t613 = true then ((epoch_Ready.f kj3 t593 t594 t595 t596 t597 t598).bind fun t614 => ((epoch_Ready.f kj3 a0_0 a0_1 a0_2 a0_3 a0_4 l0_5).bind fun t617 => ((drydockref01_Ints.f kj3 t614 t617).bind fun t620 => (if t620 = true then ((epoch_Ready.f kj3 a0_0 0 0 0 0 l0_5).bind fun t621 => (some ((t621.length : Int) == (l0_5.length : Int)))) else (none))))) else (none))) else (none)) = some r := H
     have A14 := Aside0.mk A140
     clear A140
     by_cases c15 : t611 = 0
     ·rw [if_pos c15] at H
      have c15b0 : (t611 == 0) = true := beq_iff_eq.mpr c15
      have c15b1 : (t611 != 0) = false := bne_eq_false_iff_eq.mpr c15
      clear c15
      replace H := Option.bind_eq_some_iff.mp H
      obtain ⟨t613, A160, H⟩ := H
      replace H : (if t613 = true then ((epoch_Ready.f kj3 t593 t594 t595 t596 t597 t598).bind fun t614 => ((epoch_Ready.f kj3 a0_0 a0_1 a0_2 a0_3 a0_4 l0_5).bind fun t617 => ((drydockref01_Ints.f kj3 t614 t617).bind fun t620 => (if t620 = true then ((epoch_Ready.f kj3 a0_0 0 0 0 0 l0_5).bind fun t621 => (some ((t621.length : Int) == (l0_5.length : Int)))) else (none))))) else (none)) = some r := H
      have A16 := Aside0.mk A160
      clear A160
      by_cases c17 : t613 = true
      ·subst c17
       have H1 : ((epoch_Ready.f kj3 t593 t594 t595 t596 t597 t598).bind fun t614 => ((epoch_Ready.f kj3 a0_0 a0_1 a0_2 a0_3 a0_4 l0_5).bind fun t617 => ((drydockref01_Ints.f kj3 t614 t617).bind fun t620 => (if t620 = true then ((epoch_Ready.f kj3 a0_0 0 0 0 0 l0_5).bind fun t621 => (some ((t621.length : Int) == (l0_5.length : Int)))) else (none))))) = some r := by rw [if_pos rfl] at H; exact H
       clear H
       have H := H1
       clear H1
       replace H := Option.bind_eq_some_iff.mp H
       obtain ⟨t614, A180, H⟩ := H
       replace H : ((epoch_Ready.f kj3 a0_0 a0_1 a0_2 a0_3 a0_4 l0_5).bind fun t617 => ((drydockref01_Ints.f kj3 t614 t617).bind fun t620 => (if t620 = true then ((epoch_Ready.f kj3 a0_0 0 0 0 0 l0_5).bind fun t621 => (some ((t621.length : Int) == (l0_5.length : Int)))) else (none)))) = some r := H
       have A18 := Aside0.mk A180
       clear A180
       replace H := Option.bind_eq_some_iff.mp H
       obtain ⟨t617, A190, H⟩ := H
       replace H : ((drydockref01_Ints.f kj3 t614 t617).bind fun t620 => (if t620 = true then ((epoch_Ready.f kj3 a0_0 0 0 0 0 l0_5).bind fun t621 => (some ((t621.length : Int) == (l0_5.length : Int)))) else (none))) = some r := H
       have A19 := Aside0.mk A190
       clear A190
       replace H := Option.bind_eq_some_iff.mp H
       obtain ⟨t620, A200, H⟩ := H
       replace H : (if t620 = true then ((epoch_Ready.f kj3 a0_0 0 0 0 0 l0_5).bind fun t621 => (some ((t621.length : Int) == (l0_5.length : Int)))) else (none)) = some r := H
       have A20 := Aside0.mk A200
       clear A200
       by_cases c21 : t620 = true
       ·subst c21
        have H1 : ((epoch_Ready.f kj3 a0_0 0 0 0 0 l0_5).bind fun t621 => (some ((t621.length : Int) == (l0_5.length : Int)))) = some r := by rw [if_pos rfl] at H; exact H
        clear H
        have H := H1
        clear H1
        replace H := Option.bind_eq_some_iff.mp H
        obtain ⟨t621, A220, H⟩ := H
        replace H : (some ((t621.length : Int) == (l0_5.length : Int))) = some r := H
        have A22 := Aside0.mk A220
        clear A220
        obtain rfl := Option.some.inj H
        obtain ⟨hcz23_0, hcz23_1, hcz23_2, hcz23_3, hcz23_4, hcz23_5, hfz23_0, hfz23_1, hfz23_2, hfz23_3, hfz23_4, hfz23_5⟩ := blk6 BK590
        try go_wp2_with (first | ((with_reducible refine gate_callee (f := 11) rfl ?_); refine goesL_ (some 22) rfl rfl Try.func11 (by kernel_rfl) rfl #[.agg #[.int .i64 a0_0, .int .i64 a0_1, .int .i64 a0_2, .int .i64 a0_3, .int .i64 a0_4, .slice A0_5 l0_5.length c0_5], .int .i64 a1] rfl (by (try simp only [List.map_toArray, List.map_cons, List.map_nil]); first | done | rfl | (simp only [List.length_drop, List.length_take]; rfl)) ?_; (with_reducible refine (epoch_Enter.calls kj3 a0_0 a0_1 a0_2 a0_3 a0_4 _ _ l0_5 a1 t593 t594 t595 t596 t597 t598 t601 _ ?side1 ?side2 A12.out).mono ?_); (case side1 => repeat (first | exact (Kd.C_below HR0_5.out HB.out) | (with_reducible refine Kd.C_alloc ?_ _) | (with_reducible refine Kd.C_drewN ?_ _) | (with_reducible refine Kd.C_drew ?_))); (case side2 => exact HC0_5.out); rintro e w24 ⟨v599, rfl, ho0, hb⟩; refine ⟨_, rfl, ?_⟩; have n0_ := Aside0.mk (Kd.R_lower ho0 (below_size bs_)); have n1_ := Aside0.mk (blk_below (bk_ BK590) hb); have n2_ := Aside0.mk (below_step bs_ hb); clear BK590 HB; have HO600 := n0_; have BK590 := n1_; have HB := n2_; clear n0_ n1_ n2_; (try clear hb); (try clear hb2); (try clear hk); (try clear hi); (try clear ho0); obtain ⟨Ao25, co25, eo25⟩ := Kd.R_slice HO600.out; subst eo25) | ((with_reducible refine gate_dst (N := 6) rfl ?_); refine box_event ?hg (N := 6) ?hd (cs := #[.int .i64 0, .int .i64 0, .int .i64 0, .int .i64 0, .int .i64 0, .slice none 0 0]) (t := 25) ?hr ?_; (case hd => rfl); (case hg => rfl); (case hr => first | (go_simp; done) | (go_simp; rfl)); intro gb602 hg w26 hbox hb; have n0_ := Aside0.mk (Kd.R_below (rk_ HO600) hb); have n1_ := Aside0.mk (blk_below (bk_ BK590) hb); have n2_ := Aside0.mk (below_step bs_ hb); have n3_ := Aside0.mk (hbox); have n4_ := Aside0.mk ((by rw [hg]; exact (below_size bs_) : w.heap.size ≤ gb602)); have n5_ := Aside0.mk ((by rw [hg]; exact (below_size bs_) : w.heap.size ≤ gb602)); have n6_ := Aside0.mk ((by rw [hg]; exact Nat.ne_of_lt (blk_lt (bk_ BK590)) : gb590 ≠ gb602)); have n7_ := Aside0.mk ((by rw [hg]; exact Nat.ne_of_gt (blk_lt (bk_ BK590)) : gb602 ≠ gb590)); clear HO600 BK590 HB; have HO600 := n0_; have BK590 := n1_; have HB := n2_; have BK602 := n3_; have GW602 := n4_; have GE602 := n5_; have NB590_602 := n6_; have NB602_590 := n7_; clear n0_ n1_ n2_ n3_ n4_ n5_ n6_ n7_; clear hb hbox hg; have hnb27 := NB602_590.out; have hnc27 := NB590_602.out; obtain ⟨hcz28_0, hcz28_1, hcz28_2, hcz28_3, hcz28_4, hcz28_5, hfz28_0, hfz28_1, hfz28_2, hfz28_3, hfz28_4, hfz28_5⟩ := blk6 BK602) | ((with_reducible refine gate_callee (f := 14) rfl ?_); refine goesL_ (some 30) rfl rfl Try.func14 (by kernel_rfl) rfl #[.agg #[.int .i64 t593, .int .i64 t594, .int .i64 t595, .int .i64 t596, .int .i64 t597, .slice Ao25 t598.length co25], .int .i64 a1] rfl (by (try simp only [List.map_toArray, List.map_cons, List.map_nil]); first | done | rfl | (simp only [List.length_drop, List.length_take]; rfl)) ?_; (with_reducible refine (epoch_Leave.calls kj3 t593 t594 t595 t596 t597 _ _ t598 a1 t603 t604 t605 t606 t607 t608 t611 _ ?side1 ?side2 A14.out).mono ?_); (case side1 => refine (Kd.R_reads' (e := 43) (base := w.heap.size) (ok := fun k_ => True) (n := t598.length) (c := co25) ?_).2.2; exact (by (with_reducible repeat (first | apply Kd.R_alloc | apply Kd.R_drewN | apply Kd.R_drew)); exact (Kd.R_mono (far6 gb602 (Kd.R_types HO600.out BK602.out (by decide)) (fun _ hk => hk.2)) (fun _ h_ => h_.1)))); (case side2 => exact (Kd.R_reads' HO600.out).2.1); rintro e w29 ⟨v609, rfl, ho0, hb⟩; refine ⟨_, rfl, ?_⟩; have n0_ := Aside0.mk (Kd.R_elder' (by (with_reducible repeat (first | apply Kd.R_alloc | apply Kd.R_drewN | apply Kd.R_drew)); exact (Kd.R_mono (far6 gb602 (Kd.R_types HO600.out BK602.out (by decide)) (fun _ hk => hk.2)) (fun _ h_ => h_.1))) (Kd.R_base ho0) hb); have n1_ := Aside0.mk (Kd.R_lower (Kd.R_new' ho0 (Kd.R_lt (by (with_reducible repeat (first | apply Kd.R_alloc | apply Kd.R_drewN | apply Kd.R_drew)); exact (Kd.R_mono (far6 gb602 (Kd.R_types HO600.out BK602.out (by decide)) (fun _ hk => hk.2)) (fun _ h_ => h_.1))))) (below_size bs_)); have n2_ := Aside0.mk (blk_below (bf_ BK590) hb); have n3_ := Aside0.mk (blk_below (bp_ (o := .cells #[.int .i64 t593, .int .i64 t594, .int .i64 t595, .int .i64 t596, .int .i64 t597, .slice Ao25 t598.length co25] 25 (0, 0)) BK602) hb); have n4_ := Aside0.mk (below_step bs_ hb); clear HO600 BK590 BK602 HB; have HO600 := n0_; have HO610 := n1_; have BK590 := n2_; have BK602 := n3_; have HB := n4_; clear n0_ n1_ n2_ n3_ n4_; (try clear hb); (try clear hb2); (try clear hk); (try clear hi); (try clear ho0); obtain ⟨Ao30, co30, eo30⟩ := Kd.R_slice HO610.out; subst eo30) | ((with_reducible refine gate_dst (N := 8) rfl ?_); refine box_event ?hg (N := 8) ?hd (cs := #[.int .i64 0, .int .i64 0, .int .i64 0, .int .i64 0, .int .i64 0, .slice none 0 0]) (t := 25) ?hr ?_; (case hd => rfl); (case hg => rfl); (case hr => first | (go_simp; done) | (go_simp; rfl)); intro gb612 hg w31 hbox hb; have n0_ := Aside0.mk (Kd.R_below (rk_ HO600) hb); have n1_ := Aside0.mk (Kd.R_below (rk_ HO610) hb); have n2_ := Aside0.mk (blk_below (bk_ BK590) hb); have n3_ := Aside0.mk (blk_below (bk_ BK602) hb); have n4_ := Aside0.mk (below_step bs_ hb); have n5_ := Aside0.mk (hbox); have n6_ := Aside0.mk ((by rw [hg]; exact (below_size bs_) : w.heap.size ≤ gb612)); have n7_ := Aside0.mk ((by rw [hg]; exact (below_size bs_) : w.heap.size ≤ gb612)); have n8_ := Aside0.mk ((by rw [hg]; exact Nat.ne_of_lt (blk_lt (bk_ BK590)) : gb590 ≠ gb612)); have n9_ := Aside0.mk ((by rw [hg]; exact Nat.ne_of_gt (blk_lt (bk_ BK590)) : gb612 ≠ gb590)); have n10_ := Aside0.mk ((by rw [hg]; exact Nat.ne_of_lt (blk_lt (bk_ BK602)) : gb602 ≠ gb612)); have n11_ := Aside0.mk ((by rw [hg]; exact Nat.ne_of_gt (blk_lt (bk_ BK602)) : gb612 ≠ gb602)); clear HO600 HO610 BK590 BK602 HB; have HO600 := n0_; have HO610 := n1_; have BK590 := n2_; have BK602 := n3_; have HB := n4_; have BK612 := n5_; have GW612 := n6_; have GE612 := n7_; have NB590_612 := n8_; have NB612_590 := n9_; have NB602_612 := n10_; have NB612_602 := n11_; clear n0_ n1_ n2_ n3_ n4_ n5_ n6_ n7_ n8_ n9_ n10_ n11_; clear hb hbox hg; have hnb32 := NB612_590.out; have hnc32 := NB590_612.out; have hnb33 := NB612_602.out; have hnc33 := NB602_612.out; obtain ⟨hcz34_0, hcz34_1, hcz34_2, hcz34_3, hcz34_4, hcz34_5, hfz34_0, hfz34_1, hfz34_2, hfz34_3, hfz34_4, hfz34_5⟩ := blk6 BK612))
        have n0_ : Aside0 (Kd.R k43 43 ((((((w31.setCell ⟨gb612, 0, none⟩ (.int .i64 t603)).setCell ⟨gb612, 1, none⟩ (.int .i64 t604)).setCell ⟨gb612, 2, none⟩ (.int .i64 t605)).setCell ⟨gb612, 3, none⟩ (.int .i64 t606)).setCell ⟨gb612, 4, none⟩ (.int .i64 t607)).setCell ⟨gb612, 5, none⟩ (.slice Ao30 t608.length co30)) w.heap.size (fun k_ => some k_ ≠ (.slice Ao30 t608.length co30 : Value).ownBlock) (.slice Ao25 t598.length co25) t598) := ⟨by (with_reducible repeat (first | apply Kd.R_alloc | apply Kd.R_drewN | apply Kd.R_drew)); exact Kd.R_mono (far6 gb612 (Kd.R_types HO600.out BK612.out (by decide)) (fun _ hk => hk.2)) (fun _ hk => hk.1.2)⟩
        have n1_ : Aside0 (Kd.R k43 43 ((((((w31.setCell ⟨gb612, 0, none⟩ (.int .i64 t603)).setCell ⟨gb612, 1, none⟩ (.int .i64 t604)).setCell ⟨gb612, 2, none⟩ (.int .i64 t605)).setCell ⟨gb612, 3, none⟩ (.int .i64 t606)).setCell ⟨gb612, 4, none⟩ (.int .i64 t607)).setCell ⟨gb612, 5, none⟩ (.slice Ao30 t608.length co30)) w.heap.size (fun k_ => some k_ ≠ (.slice Ao25 t598.length co25 : Value).ownBlock) (.slice Ao30 t608.length co30) t608) := ⟨by (with_reducible repeat (first | apply Kd.R_alloc | apply Kd.R_drewN | apply Kd.R_drew)); exact Kd.R_mono (far6 gb612 (Kd.R_types HO610.out BK612.out (by decide)) (fun _ hk => hk.2)) (fun _ hk => hk.1.2)⟩
        have n2_ : Aside0 (((((((w31.setCell ⟨gb612, 0, none⟩ (.int .i64 t603)).setCell ⟨gb612, 1, none⟩ (.int .i64 t604)).setCell ⟨gb612, 2, none⟩ (.int .i64 t605)).setCell ⟨gb612, 3, none⟩ (.int .i64 t606)).setCell ⟨gb612, 4, none⟩ (.int .i64 t607)).setCell ⟨gb612, 5, none⟩ (.slice Ao30 t608.length co30)).heap[gb590]? = some (.cells #[.int .i64 a0_0, .int .i64 a0_1, .int .i64 a0_2, .int .i64 a0_3, .int .i64 a0_4, .slice A0_5 l0_5.length c0_5] 25 (0, 0))) := ⟨bf_ BK590⟩
        have n3_ : Aside0 (((((((w31.setCell ⟨gb612, 0, none⟩ (.int .i64 t603)).setCell ⟨gb612, 1, none⟩ (.int .i64 t604)).setCell ⟨gb612, 2, none⟩ (.int .i64 t605)).setCell ⟨gb612, 3, none⟩ (.int .i64 t606)).setCell ⟨gb612, 4, none⟩ (.int .i64 t607)).setCell ⟨gb612, 5, none⟩ (.slice Ao30 t608.length co30)).heap[gb602]? = some (.cells #[.int .i64 t593, .int .i64 t594, .int .i64 t595, .int .i64 t596, .int .i64 t597, .slice Ao25 t598.length co25] 25 (0, 0))) := ⟨bf_ BK602⟩
        have n4_ : Aside0 (((((((w31.setCell ⟨gb612, 0, none⟩ (.int .i64 t603)).setCell ⟨gb612, 1, none⟩ (.int .i64 t604)).setCell ⟨gb612, 2, none⟩ (.int .i64 t605)).setCell ⟨gb612, 3, none⟩ (.int .i64 t606)).setCell ⟨gb612, 4, none⟩ (.int .i64 t607)).setCell ⟨gb612, 5, none⟩ (.slice Ao30 t608.length co30)).heap[gb612]? = some (.cells #[.int .i64 t603, .int .i64 t604, .int .i64 t605, .int .i64 t606, .int .i64 t607, .slice Ao30 t608.length co30] 25 (0, 0))) := ⟨bp_ BK612⟩
        have n5_ : Aside0 (Below w.heap.size w ((((((w31.setCell ⟨gb612, 0, none⟩ (.int .i64 t603)).setCell ⟨gb612, 1, none⟩ (.int .i64 t604)).setCell ⟨gb612, 2, none⟩ (.int .i64 t605)).setCell ⟨gb612, 3, none⟩ (.int .i64 t606)).setCell ⟨gb612, 4, none⟩ (.int .i64 t607)).setCell ⟨gb612, 5, none⟩ (.slice Ao30 t608.length co30))) := ⟨bs_⟩
        (try clear HO600)
        (try clear HO610)
        (try clear BK590)
        (try clear BK602)
        (try clear BK612)
        (try clear HB)
        generalize ((((((w31.setCell ⟨gb612, 0, none⟩ (.int .i64 t603)).setCell ⟨gb612, 1, none⟩ (.int .i64 t604)).setCell ⟨gb612, 2, none⟩ (.int .i64 t605)).setCell ⟨gb612, 3, none⟩ (.int .i64 t606)).setCell ⟨gb612, 4, none⟩ (.int .i64 t607)).setCell ⟨gb612, 5, none⟩ (.slice Ao30 t608.length co30)) = w35 at n0_ n1_ n2_ n3_ n4_ n5_ ⊢
        have HO600 := n0_
        have HO610 := n1_
        have BK590 := n2_
        have BK602 := n3_
        have BK612 := n4_
        have HB := n5_
        clear n0_ n1_ n2_ n3_ n4_ n5_
        have n0_ := Aside0.mk (Kd.R_drew HO600.out)
        have n1_ := Aside0.mk (Kd.R_drew HO610.out)
        have n2_ := Aside0.mk (blk_drew BK590.out)
        have n3_ := Aside0.mk (blk_drew BK602.out)
        have n4_ := Aside0.mk (blk_drew BK612.out)
        have n5_ := Aside0.mk (below_drew1 HB.out)
        clear HO600
        clear HO610
        clear BK590
        clear BK602
        clear BK612
        clear HB
        have HO600 := n0_
        have HO610 := n1_
        have BK590 := n2_
        have BK602 := n3_
        have BK612 := n4_
        have HB := n5_
        clear n0_ n1_ n2_ n3_ n4_ n5_
        refine start_ (n := 16) (S := fun w' => w'.cell? ⟨gb612, 0, none⟩ = some (.int .i64 t603) ∧ w'.cell? ⟨gb612, 1, none⟩ = some (.int .i64 t604) ∧ w'.cell? ⟨gb612, 2, none⟩ = some (.int .i64 t605) ∧ w'.cell? ⟨gb612, 3, none⟩ = some (.int .i64 t606) ∧ w'.cell? ⟨gb612, 4, none⟩ = some (.int .i64 t607) ∧ w'.cell? ⟨gb612, 5, none⟩ = some (.slice Ao30 t608.length co30) ∧ w'.cell? ⟨gb590, 0, none⟩ = some (.int .i64 a0_0) ∧ w'.cell? ⟨gb590, 1, none⟩ = some (.int .i64 a0_1) ∧ w'.cell? ⟨gb590, 2, none⟩ = some (.int .i64 a0_2) ∧ w'.cell? ⟨gb590, 3, none⟩ = some (.int .i64 a0_3) ∧ w'.cell? ⟨gb590, 4, none⟩ = some (.int .i64 a0_4) ∧ w'.cell? ⟨gb590, 5, none⟩ = some (.slice A0_5 l0_5.length c0_5) ∧ w'.cell? ⟨gb602, 0, none⟩ = some (.int .i64 t593) ∧ w'.cell? ⟨gb602, 1, none⟩ = some (.int .i64 t594) ∧ w'.cell? ⟨gb602, 2, none⟩ = some (.int .i64 t595) ∧ w'.cell? ⟨gb602, 3, none⟩ = some (.int .i64 t596) ∧ w'.cell? ⟨gb602, 4, none⟩ = some (.int .i64 t597) ∧ w'.cell? ⟨gb602, 5, none⟩ = some (.slice Ao25 t598.length co25)) (ds := []) #[false, false, false, false, false, false, false, false, false, false, false, false, false, false, false, false] (by kernel_rfl) rfl rfl ⟨(blk_cell BK612.out 0).trans rfl, (blk_cell BK612.out 1).trans rfl, (blk_cell BK612.out 2).trans rfl, (blk_cell BK612.out 3).trans rfl, (blk_cell BK612.out 4).trans rfl, (blk_cell BK612.out 5).trans rfl, (blk_cell BK590.out 0).trans rfl, (blk_cell BK590.out 1).trans rfl, (blk_cell BK590.out 2).trans rfl, (blk_cell BK590.out 3).trans rfl, (blk_cell BK590.out 4).trans rfl, (blk_cell BK590.out 5).trans rfl, (blk_cell BK602.out 0).trans rfl, (blk_cell BK602.out 1).trans rfl, (blk_cell BK602.out 2).trans rfl, (blk_cell BK602.out 3).trans rfl, (blk_cell BK602.out 4).trans rfl, (blk_cell BK602.out 5).trans rfl⟩ (fun hHeld => ?_); refine with_tabW drydocklaw17_EpochAlone.tab7 drydocklaw17_EpochAlone.bits7 (fun HT_ HW_ => ?_)
        generalize w35.drew = w36 at HO600 HO610 BK590 BK602 BK612 HB hHeld ⊢
        refine pv_ 0 (some 33) HT_ (h := ?_)
        refine pv_ 1 (some 34) HT_ (h := ?_)
        refine pv_ 2 (some 35) HT_ (h := ?_)
        refine tk_ 3 (some 36) HT_ HW_ hHeld (h := ?_)
        refine tk_ 4 (some 37) HT_ HW_ hHeld (h := ?_)
        refine one_ (i := 5) (N := some 38) #[true, true, true, true, true, true, false, false, false, false, false, false, false, false, false, false] rfl rfl (one_of HT_.out (by kernel_rfl)) (by decide) (fun K hK => ?_)
        refine goes_ Try.func13 (by kernel_rfl) rfl #[.agg #[.int .i64 t603, .int .i64 t604, .int .i64 t605, .int .i64 t606, .int .i64 t607, .slice Ao30 t608.length co30], .agg #[.int .i64 a0_0, .int .i64 a0_1, .int .i64 a0_2, .int .i64 a0_3, .int .i64 a0_4, .slice A0_5 l0_5.length c0_5]] (by rfl) rfl rfl (by (try simp only [List.map_toArray, List.map_cons, List.map_nil]); first | done | rfl | (simp only [List.length_drop, List.length_take]; rfl)) ?_
        with_reducible refine (drydockref17_Same.calls kj3 t603 t604 t605 t606 t607 _ _ t608 a0_0 a0_1 a0_2 a0_3 a0_4 _ _ l0_5 true _ ?side1 ?side2 ?side3 ?side4 A16.out).mono ?_
        (case side1 => repeat (first | exact (Kd.R_reads' HO610.out).2.2 | (with_reducible refine Kd.C_alloc ?_ _) | (with_reducible refine Kd.C_drewN ?_ _) | (with_reducible refine Kd.C_drew ?_)))
        (case side2 => exact (Kd.R_reads' HO610.out).2.1)
        (case side3 => repeat (first | exact (Kd.C_below HR0_5.out HB.out) | (with_reducible refine Kd.C_alloc ?_ _) | (with_reducible refine Kd.C_drewN ?_ _) | (with_reducible refine Kd.C_drew ?_)))
        (case side4 => exact HC0_5.out)
        rintro e w37 ⟨rfl, hb⟩
        refine ⟨_, rfl, ?_⟩
        have n0_ := Aside0.mk (Kd.R_below (rk_ HO600) hb)
        have n1_ := Aside0.mk (Kd.R_below (rk_ HO610) hb)
        have n2_ := Aside0.mk (blk_below (bk_ BK590) hb)
        have n3_ := Aside0.mk (blk_below (bk_ BK602) hb)
        have n4_ := Aside0.mk (blk_below (bk_ BK612) hb)
        have n5_ := Aside0.mk (below_step bs_ hb)
        clear HO600
        clear HO610
        clear BK590
        clear BK602
        clear BK612
        clear HB
        have HO600 := n0_
        have HO610 := n1_
        have BK590 := n2_
        have BK602 := n3_
        have BK612 := n4_
        have HB := n5_
        clear n0_ n1_ n2_ n3_ n4_ n5_
        (try clear hb)
        (try clear hb2)
        (try clear hk)
        (try clear hi)
        refine hK.out _ _ ⟨(blk_cell BK612.out 0).trans rfl, (blk_cell BK612.out 1).trans rfl, (blk_cell BK612.out 2).trans rfl, (blk_cell BK612.out 3).trans rfl, (blk_cell BK612.out 4).trans rfl, (blk_cell BK612.out 5).trans rfl, (blk_cell BK590.out 0).trans rfl, (blk_cell BK590.out 1).trans rfl, (blk_cell BK590.out 2).trans rfl, (blk_cell BK590.out 3).trans rfl, (blk_cell BK590.out 4).trans rfl, (blk_cell BK590.out 5).trans rfl, (blk_cell BK602.out 0).trans rfl, (blk_cell BK602.out 1).trans rfl, (blk_cell BK602.out 2).trans rfl, (blk_cell BK602.out 3).trans rfl, (blk_cell BK602.out 4).trans rfl, (blk_cell BK602.out 5).trans rfl⟩ (fun hHeld => ?_)
        clear hK K
        refine norm_ (a' := ?_) ?_ ?_
        rotate_left
        ·show Act.put _ (some 38) _ = _
         simp only [Act.put, List.setIfInBounds_toArray, List.set_cons_zero, List.set_cons_succ, i64_w, i32_w]
         rfl
        refine pv_ 6 (some 39) HT_ (h := ?_)
        refine pv_ 7 (some 40) HT_ (h := ?_)
        refine pv_ 8 (some 41) HT_ (h := ?_)
        refine tk_ 9 (some 42) HT_ HW_ hHeld (h := ?_)
        refine tk_ 11 (some 44) HT_ HW_ hHeld (h := ?_)
        refine one_ (i := 10) (N := some 43) #[true, true, true, true, true, true, true, true, true, true, true, true, false, false, false, false] rfl rfl (one_of HT_.out (by kernel_rfl)) (by decide) (fun K hK => ?_)
        refine goes_ Try.func21 (by kernel_rfl) rfl #[.agg #[.int .i64 t593, .int .i64 t594, .int .i64 t595, .int .i64 t596, .int .i64 t597, .slice Ao25 t598.length co25]] (by rfl) rfl rfl (by (try simp only [List.map_toArray, List.map_cons, List.map_nil]); first | done | rfl | (simp only [List.length_drop, List.length_take]; rfl)) ?_
        with_reducible refine (epoch_Ready.calls kj3 t593 t594 t595 t596 t597 _ _ t598 t614 _ ?side1 ?side2 A18.out).mono ?_
        (case side1 => repeat (first | exact (Kd.R_reads' HO600.out).2.2 | (with_reducible refine Kd.C_alloc ?_ _) | (with_reducible refine Kd.C_drewN ?_ _) | (with_reducible refine Kd.C_drew ?_)))
        (case side2 => exact (Kd.R_reads' HO600.out).2.1)
        rintro e w38 ⟨v615, rfl, ho0, hb⟩
        refine ⟨_, rfl, ?_⟩
        have n0_ := Aside0.mk (Kd.R_below (rk_ HO600) hb)
        have n1_ := Aside0.mk (Kd.R_below (rk_ HO610) hb)
        have n2_ := Aside0.mk (Kd.R_lower ho0 (below_size bs_))
        have n3_ := Aside0.mk (blk_below (bk_ BK590) hb)
        have n4_ := Aside0.mk (blk_below (bk_ BK602) hb)
        have n5_ := Aside0.mk (blk_below (bk_ BK612) hb)
        have n6_ := Aside0.mk (below_step bs_ hb)
        clear HO600
        clear HO610
        clear BK590
        clear BK602
        clear BK612
        clear HB
        have HO600 := n0_
        have HO610 := n1_
        have HO616 := n2_
        have BK590 := n3_
        have BK602 := n4_
        have BK612 := n5_
        have HB := n6_
        clear n0_ n1_ n2_ n3_ n4_ n5_ n6_
        (try clear hb)
        (try clear hb2)
        (try clear hk)
        (try clear hi)
        (try clear ho0)
        refine hK.out _ _ ⟨(blk_cell BK612.out 0).trans rfl, (blk_cell BK612.out 1).trans rfl, (blk_cell BK612.out 2).trans rfl, (blk_cell BK612.out 3).trans rfl, (blk_cell BK612.out 4).trans rfl, (blk_cell BK612.out 5).trans rfl, (blk_cell BK590.out 0).trans rfl, (blk_cell BK590.out 1).trans rfl, (blk_cell BK590.out 2).trans rfl, (blk_cell BK590.out 3).trans rfl, (blk_cell BK590.out 4).trans rfl, (blk_cell BK590.out 5).trans rfl, (blk_cell BK602.out 0).trans rfl, (blk_cell BK602.out 1).trans rfl, (blk_cell BK602.out 2).trans rfl, (blk_cell BK602.out 3).trans rfl, (blk_cell BK602.out 4).trans rfl, (blk_cell BK602.out 5).trans rfl⟩ (fun hHeld => ?_)
        clear hK K
        refine norm_ (a' := ?_) ?_ ?_
        rotate_left
        ·show Act.put _ (some 43) _ = _
         simp only [Act.put, List.setIfInBounds_toArray, List.set_cons_zero, List.set_cons_succ, i64_w, i32_w]
         rfl
        refine one_ (i := 12) (N := some 45) #[true, true, true, true, true, true, true, true, true, true, true, true, true, false, false, false] rfl rfl (one_of HT_.out (by kernel_rfl)) (by decide) (fun K hK => ?_)
        refine goes_ Try.func21 (by kernel_rfl) rfl #[.agg #[.int .i64 a0_0, .int .i64 a0_1, .int .i64 a0_2, .int .i64 a0_3, .int .i64 a0_4, .slice A0_5 l0_5.length c0_5]] (by rfl) rfl rfl (by (try simp only [List.map_toArray, List.map_cons, List.map_nil]); first | done | rfl | (simp only [List.length_drop, List.length_take]; rfl)) ?_
        with_reducible refine (epoch_Ready.calls kj3 a0_0 a0_1 a0_2 a0_3 a0_4 _ _ l0_5 t617 _ ?side1 ?side2 A19.out).mono ?_
        (case side1 => repeat (first | exact (Kd.C_below HR0_5.out HB.out) | (with_reducible refine Kd.C_alloc ?_ _) | (with_reducible refine Kd.C_drewN ?_ _) | (with_reducible refine Kd.C_drew ?_)))
        (case side2 => exact HC0_5.out)
        rintro e w39 ⟨v618, rfl, ho0, hb⟩
        refine ⟨_, rfl, ?_⟩
        have n0_ := Aside0.mk (Kd.R_below (rk_ HO600) hb)
        have n1_ := Aside0.mk (Kd.R_below (rk_ HO610) hb)
        have n2_ := Aside0.mk (Kd.R_elder' (rk_ HO616) (Kd.R_base ho0) hb)
        have n3_ := Aside0.mk (Kd.R_lower (Kd.R_new' ho0 (Kd.R_lt (rk_ HO616))) (below_size bs_))
        have n4_ := Aside0.mk (blk_below (bk_ BK590) hb)
        have n5_ := Aside0.mk (blk_below (bk_ BK602) hb)
        have n6_ := Aside0.mk (blk_below (bk_ BK612) hb)
        have n7_ := Aside0.mk (below_step bs_ hb)
        clear HO600
        clear HO610
        clear HO616
        clear BK590
        clear BK602
        clear BK612
        clear HB
        have HO600 := n0_
        have HO610 := n1_
        have HO616 := n2_
        have HO619 := n3_
        have BK590 := n4_
        have BK602 := n5_
        have BK612 := n6_
        have HB := n7_
        clear n0_ n1_ n2_ n3_ n4_ n5_ n6_ n7_
        (try clear hb)
        (try clear hb2)
        (try clear hk)
        (try clear hi)
        (try clear ho0)
        obtain ⟨Ao40, co40, eo40⟩ := Kd.R_slice HO616.out
        (first | subst eo40 | (injection eo40 with f1_ f2_ f3_; have f4_ := f1_.symm; have f5_ := f3_.symm; clear f1_ f2_ f3_; subst f4_; subst f5_))
        obtain ⟨Ao41, co41, eo41⟩ := Kd.R_slice HO619.out
        (first | subst eo41 | (injection eo41 with f1_ f2_ f3_; have f4_ := f1_.symm; have f5_ := f3_.symm; clear f1_ f2_ f3_; subst f4_; subst f5_))
        refine hK.out _ _ ⟨(blk_cell BK612.out 0).trans rfl, (blk_cell BK612.out 1).trans rfl, (blk_cell BK612.out 2).trans rfl, (blk_cell BK612.out 3).trans rfl, (blk_cell BK612.out 4).trans rfl, (blk_cell BK612.out 5).trans rfl, (blk_cell BK590.out 0).trans rfl, (blk_cell BK590.out 1).trans rfl, (blk_cell BK590.out 2).trans rfl, (blk_cell BK590.out 3).trans rfl, (blk_cell BK590.out 4).trans rfl, (blk_cell BK590.out 5).trans rfl, (blk_cell BK602.out 0).trans rfl, (blk_cell BK602.out 1).trans rfl, (blk_cell BK602.out 2).trans rfl, (blk_cell BK602.out 3).trans rfl, (blk_cell BK602.out 4).trans rfl, (blk_cell BK602.out 5).trans rfl⟩ (fun hHeld => ?_)
        clear hK K
        refine norm_ (a' := ?_) ?_ ?_
        rotate_left
        ·show Act.put _ (some 45) _ = _
         simp only [Act.put, List.setIfInBounds_toArray, List.set_cons_zero, List.set_cons_succ, i64_w, i32_w]
         rfl
        refine one_ (i := 13) (N := some 46) #[true, true, true, true, true, true, true, true, true, true, true, true, true, true, false, false] rfl rfl (one_of HT_.out (by kernel_rfl)) (by decide) (fun K hK => ?_)
        refine goes_ Try.func20 (by kernel_rfl) rfl #[.slice Ao40 t614.length co40, .slice Ao41 t617.length co41] (by rfl) rfl rfl (by (try simp only [List.map_toArray, List.map_cons, List.map_nil]); first | done | rfl | (simp only [List.length_drop, List.length_take]; rfl)) ?_
        with_reducible refine (drydockref01_Ints.calls kj3 _ _ t614 _ _ t617 true _ ?side1 ?side2 ?side3 ?side4 A20.out).mono ?_
        (case side1 => repeat (first | exact (Kd.R_reads' HO616.out).2.2 | (with_reducible refine Kd.C_alloc ?_ _) | (with_reducible refine Kd.C_drewN ?_ _) | (with_reducible refine Kd.C_drew ?_)))
        (case side2 => exact (Kd.R_reads' HO616.out).2.1)
        (case side3 => repeat (first | exact (Kd.R_reads' HO619.out).2.2 | (with_reducible refine Kd.C_alloc ?_ _) | (with_reducible refine Kd.C_drewN ?_ _) | (with_reducible refine Kd.C_drew ?_)))
        (case side4 => exact (Kd.R_reads' HO619.out).2.1)
        rintro e w' ⟨rfl, ⟨nd, rfl⟩⟩
        refine ⟨_, rfl, ?_⟩
        refine hK.out _ _ ⟨(blk_cell BK612.out 0).trans rfl, (blk_cell BK612.out 1).trans rfl, (blk_cell BK612.out 2).trans rfl, (blk_cell BK612.out 3).trans rfl, (blk_cell BK612.out 4).trans rfl, (blk_cell BK612.out 5).trans rfl, (blk_cell BK590.out 0).trans rfl, (blk_cell BK590.out 1).trans rfl, (blk_cell BK590.out 2).trans rfl, (blk_cell BK590.out 3).trans rfl, (blk_cell BK590.out 4).trans rfl, (blk_cell BK590.out 5).trans rfl, (blk_cell BK602.out 0).trans rfl, (blk_cell BK602.out 1).trans rfl, (blk_cell BK602.out 2).trans rfl, (blk_cell BK602.out 3).trans rfl, (blk_cell BK602.out 4).trans rfl, (blk_cell BK602.out 5).trans rfl⟩ (fun hHeld => ?_)
        clear hK K
        refine norm_ (a' := ?_) ?_ ?_
        rotate_left
        ·show Act.put _ (some 46) _ = _
         simp only [Act.put, List.setIfInBounds_toArray, List.set_cons_zero, List.set_cons_succ, i64_w, i32_w]
         rfl
        refine pv_ 14 (some 47) HT_ (h := ?_)
        refine pv_ 15 (some 48) HT_ (h := ?_)
        refine done_ (done_of HT_.out (by kernel_rfl)) ?_
        obtain ⟨hcz42_0, hcz42_1, hcz42_2, hcz42_3, hcz42_4, hcz42_5, hfz42_0, hfz42_1, hfz42_2, hfz42_3, hfz42_4, hfz42_5⟩ := blk6 BK590
        -- moved on
        have n0_ := Aside0.mk (Kd.R_drewN HO600.out nd)
        have n1_ := Aside0.mk (Kd.R_drewN HO610.out nd)
        have n2_ := Aside0.mk (Kd.R_drewN HO616.out nd)
        have n3_ := Aside0.mk (Kd.R_drewN HO619.out nd)
        have n4_ := Aside0.mk (blk_drewN BK590.out nd)
        have n5_ := Aside0.mk (blk_drewN BK602.out nd)
        have n6_ := Aside0.mk (blk_drewN BK612.out nd)
        have n7_ := Aside0.mk (pw_below_drewN HB.out nd)
        clear HO600 HO610 HO616 HO619 BK590 BK602 BK612 HB
        generalize World.drewN w39 nd = w39 at n0_ n1_ n2_ n3_ n4_ n5_ n6_ n7_ ⊢
        have HO600 := n0_
        have HO610 := n1_
        have HO616 := n2_
        have HO619 := n3_
        have BK590 := n4_
        have BK602 := n5_
        have BK612 := n6_
        have HB := n7_
        clear n0_ n1_ n2_ n3_ n4_ n5_ n6_ n7_
        obtain ⟨hcy_0, hcy_1, hcy_2, hcy_3, hcy_4, hcy_5, hfy_0, hfy_1, hfy_2, hfy_3, hfy_4, hfy_5⟩ := blk6 BK590
        try go_wp2
        have n0_ : Aside0 (Kd.R k43 43 ((((w39.setCell ⟨gb590, 1, none⟩ (.int .i64 0)).setCell ⟨gb590, 2, none⟩ (.int .i64 0)).setCell ⟨gb590, 3, none⟩ (.int .i64 0)).setCell ⟨gb590, 4, none⟩ (.int .i64 0)) w.heap.size (fun k_ => some k_ ≠ (.slice Ao30 t608.length co30 : Value).ownBlock) (.slice Ao25 t598.length co25) t598) := ⟨by (with_reducible repeat (first | apply Kd.R_alloc | apply Kd.R_drewN | apply Kd.R_drew)); exact Kd.R_mono (Kd.R_far (p := ⟨gb590, 4, none⟩) (Kd.R_far (p := ⟨gb590, 3, none⟩) (Kd.R_far (p := ⟨gb590, 2, none⟩) (Kd.R_far (p := ⟨gb590, 1, none⟩) (Kd.R_types HO600.out BK590.out (by decide)) (fun _ hk => hk.2) (.int .i64 0)) (fun _ hk => hk.2) (.int .i64 0)) (fun _ hk => hk.2) (.int .i64 0)) (fun _ hk => hk.2) (.int .i64 0)) (fun _ hk => hk.1)⟩
        have n1_ : Aside0 (Kd.R k43 43 ((((w39.setCell ⟨gb590, 1, none⟩ (.int .i64 0)).setCell ⟨gb590, 2, none⟩ (.int .i64 0)).setCell ⟨gb590, 3, none⟩ (.int .i64 0)).setCell ⟨gb590, 4, none⟩ (.int .i64 0)) w.heap.size (fun k_ => some k_ ≠ (.slice Ao25 t598.length co25 : Value).ownBlock) (.slice Ao30 t608.length co30) t608) := ⟨by (with_reducible repeat (first | apply Kd.R_alloc | apply Kd.R_drewN | apply Kd.R_drew)); exact Kd.R_mono (Kd.R_far (p := ⟨gb590, 4, none⟩) (Kd.R_far (p := ⟨gb590, 3, none⟩) (Kd.R_far (p := ⟨gb590, 2, none⟩) (Kd.R_far (p := ⟨gb590, 1, none⟩) (Kd.R_types HO610.out BK590.out (by decide)) (fun _ hk => hk.2) (.int .i64 0)) (fun _ hk => hk.2) (.int .i64 0)) (fun _ hk => hk.2) (.int .i64 0)) (fun _ hk => hk.2) (.int .i64 0)) (fun _ hk => hk.1)⟩
        have n2_ : Aside0 (Kd.R (Kd.int .i64) 3 ((((w39.setCell ⟨gb590, 1, none⟩ (.int .i64 0)).setCell ⟨gb590, 2, none⟩ (.int .i64 0)).setCell ⟨gb590, 3, none⟩ (.int .i64 0)).setCell ⟨gb590, 4, none⟩ (.int .i64 0)) w.heap.size (fun k_ => some k_ ≠ (.slice Ao41 t617.length co41 : Value).ownBlock) (.slice Ao40 t614.length co40) t614) := ⟨by (with_reducible repeat (first | apply Kd.R_alloc | apply Kd.R_drewN | apply Kd.R_drew)); exact Kd.R_mono (Kd.R_far (p := ⟨gb590, 4, none⟩) (Kd.R_far (p := ⟨gb590, 3, none⟩) (Kd.R_far (p := ⟨gb590, 2, none⟩) (Kd.R_far (p := ⟨gb590, 1, none⟩) (Kd.R_types HO616.out BK590.out (by decide)) (fun _ hk => hk.2) (.int .i64 0)) (fun _ hk => hk.2) (.int .i64 0)) (fun _ hk => hk.2) (.int .i64 0)) (fun _ hk => hk.2) (.int .i64 0)) (fun _ hk => hk.1.2)⟩
        have n3_ : Aside0 (Kd.R (Kd.int .i64) 3 ((((w39.setCell ⟨gb590, 1, none⟩ (.int .i64 0)).setCell ⟨gb590, 2, none⟩ (.int .i64 0)).setCell ⟨gb590, 3, none⟩ (.int .i64 0)).setCell ⟨gb590, 4, none⟩ (.int .i64 0)) w.heap.size (fun k_ => some k_ ≠ (.slice Ao40 t614.length co40 : Value).ownBlock) (.slice Ao41 t617.length co41) t617) := ⟨by (with_reducible repeat (first | apply Kd.R_alloc | apply Kd.R_drewN | apply Kd.R_drew)); exact Kd.R_mono (Kd.R_far (p := ⟨gb590, 4, none⟩) (Kd.R_far (p := ⟨gb590, 3, none⟩) (Kd.R_far (p := ⟨gb590, 2, none⟩) (Kd.R_far (p := ⟨gb590, 1, none⟩) (Kd.R_types HO619.out BK590.out (by decide)) (fun _ hk => hk.2) (.int .i64 0)) (fun _ hk => hk.2) (.int .i64 0)) (fun _ hk => hk.2) (.int .i64 0)) (fun _ hk => hk.2) (.int .i64 0)) (fun _ hk => hk.1.2)⟩
        have n4_ : Aside0 (((((w39.setCell ⟨gb590, 1, none⟩ (.int .i64 0)).setCell ⟨gb590, 2, none⟩ (.int .i64 0)).setCell ⟨gb590, 3, none⟩ (.int .i64 0)).setCell ⟨gb590, 4, none⟩ (.int .i64 0)).heap[gb590]? = some (.cells #[.int .i64 a0_0, .int .i64 0, .int .i64 0, .int .i64 0, .int .i64 0, .slice A0_5 l0_5.length c0_5] 25 (0, 0))) := ⟨bp_ BK590⟩
        have n5_ : Aside0 (((((w39.setCell ⟨gb590, 1, none⟩ (.int .i64 0)).setCell ⟨gb590, 2, none⟩ (.int .i64 0)).setCell ⟨gb590, 3, none⟩ (.int .i64 0)).setCell ⟨gb590, 4, none⟩ (.int .i64 0)).heap[gb602]? = some (.cells #[.int .i64 t593, .int .i64 t594, .int .i64 t595, .int .i64 t596, .int .i64 t597, .slice Ao25 t598.length co25] 25 (0, 0))) := ⟨bf_ BK602⟩
        have n6_ : Aside0 (((((w39.setCell ⟨gb590, 1, none⟩ (.int .i64 0)).setCell ⟨gb590, 2, none⟩ (.int .i64 0)).setCell ⟨gb590, 3, none⟩ (.int .i64 0)).setCell ⟨gb590, 4, none⟩ (.int .i64 0)).heap[gb612]? = some (.cells #[.int .i64 t603, .int .i64 t604, .int .i64 t605, .int .i64 t606, .int .i64 t607, .slice Ao30 t608.length co30] 25 (0, 0))) := ⟨bf_ BK612⟩
        have n7_ : Aside0 (Below w.heap.size w ((((w39.setCell ⟨gb590, 1, none⟩ (.int .i64 0)).setCell ⟨gb590, 2, none⟩ (.int .i64 0)).setCell ⟨gb590, 3, none⟩ (.int .i64 0)).setCell ⟨gb590, 4, none⟩ (.int .i64 0))) := ⟨bs_⟩
        (try clear HO600)
        (try clear HO610)
        (try clear HO616)
        (try clear HO619)
        (try clear BK590)
        (try clear BK602)
        (try clear BK612)
        (try clear HB)
        generalize ((((w39.setCell ⟨gb590, 1, none⟩ (.int .i64 0)).setCell ⟨gb590, 2, none⟩ (.int .i64 0)).setCell ⟨gb590, 3, none⟩ (.int .i64 0)).setCell ⟨gb590, 4, none⟩ (.int .i64 0)) = w43 at n0_ n1_ n2_ n3_ n4_ n5_ n6_ n7_ ⊢
        have HO600 := n0_
        have HO610 := n1_
        have HO616 := n2_
        have HO619 := n3_
        have BK590 := n4_
        have BK602 := n5_
        have BK612 := n6_
        have HB := n7_
        clear n0_ n1_ n2_ n3_ n4_ n5_ n6_ n7_
        (try (rw [drewN_self w43]; generalize hq_ : World.drewN w43 _ = w43; have n0_ : Aside0 (Kd.R k43 43 w43 w.heap.size (fun k_ => some k_ ≠ (.slice Ao30 t608.length co30 : Value).ownBlock) (.slice Ao25 t598.length co25) t598) := ⟨by rw [← hq_]; exact (rk_ HO600)⟩; have n1_ : Aside0 (Kd.R k43 43 w43 w.heap.size (fun k_ => some k_ ≠ (.slice Ao25 t598.length co25 : Value).ownBlock) (.slice Ao30 t608.length co30) t608) := ⟨by rw [← hq_]; exact (rk_ HO610)⟩; have n2_ : Aside0 (Kd.R (Kd.int .i64) 3 w43 w.heap.size (fun k_ => some k_ ≠ (.slice Ao41 t617.length co41 : Value).ownBlock) (.slice Ao40 t614.length co40) t614) := ⟨by rw [← hq_]; exact (rk_ HO616)⟩; have n3_ : Aside0 (Kd.R (Kd.int .i64) 3 w43 w.heap.size (fun k_ => some k_ ≠ (.slice Ao40 t614.length co40 : Value).ownBlock) (.slice Ao41 t617.length co41) t617) := ⟨by rw [← hq_]; exact (rk_ HO619)⟩; have n4_ : Aside0 (w43.heap[gb590]? = some (.cells #[.int .i64 a0_0, .int .i64 0, .int .i64 0, .int .i64 0, .int .i64 0, .slice A0_5 l0_5.length c0_5] 25 (0, 0))) := ⟨by rw [← hq_]; exact (by (with_reducible repeat (first | refine blk_drewN ?_ _ | refine blk_drew ?_ | refine blk_alloc ?_ _)); exact BK590.out)⟩; have n5_ : Aside0 (w43.heap[gb602]? = some (.cells #[.int .i64 t593, .int .i64 t594, .int .i64 t595, .int .i64 t596, .int .i64 t597, .slice Ao25 t598.length co25] 25 (0, 0))) := ⟨by rw [← hq_]; exact (by (with_reducible repeat (first | refine blk_drewN ?_ _ | refine blk_drew ?_ | refine blk_alloc ?_ _)); exact BK602.out)⟩; have n6_ : Aside0 (w43.heap[gb612]? = some (.cells #[.int .i64 t603, .int .i64 t604, .int .i64 t605, .int .i64 t606, .int .i64 t607, .slice Ao30 t608.length co30] 25 (0, 0))) := ⟨by rw [← hq_]; exact (by (with_reducible repeat (first | refine blk_drewN ?_ _ | refine blk_drew ?_ | refine blk_alloc ?_ _)); exact BK612.out)⟩; have n7_ : Aside0 (Below w.heap.size w w43) := ⟨by rw [← hq_]; exact bs_⟩; clear HO600 HO610 HO616 HO619 BK590 BK602 BK612 HB hq_; have HO600 := n0_; have HO610 := n1_; have HO616 := n2_; have HO619 := n3_; have BK590 := n4_; have BK602 := n5_; have BK612 := n6_; have HB := n7_; clear n0_ n1_ n2_ n3_ n4_ n5_ n6_ n7_))
        have n0_ := Aside0.mk (Kd.R_drew HO600.out)
        have n1_ := Aside0.mk (Kd.R_drew HO610.out)
        have n2_ := Aside0.mk (Kd.R_drew HO616.out)
        have n3_ := Aside0.mk (Kd.R_drew HO619.out)
        have n4_ := Aside0.mk (blk_drew BK590.out)
        have n5_ := Aside0.mk (blk_drew BK602.out)
        have n6_ := Aside0.mk (blk_drew BK612.out)
        have n7_ := Aside0.mk (below_drew1 HB.out)
        clear HO600
        clear HO610
        clear HO616
        clear HO619
        clear BK590
        clear BK602
        clear BK612
        clear HB
        have HO600 := n0_
        have HO610 := n1_
        have HO616 := n2_
        have HO619 := n3_
        have BK590 := n4_
        have BK602 := n5_
        have BK612 := n6_
        have HB := n7_
        clear n0_ n1_ n2_ n3_ n4_ n5_ n6_ n7_
        refine start_ (n := 8) (S := fun w' => w'.cell? ⟨gb590, 0, none⟩ = some (.int .i64 a0_0) ∧ w'.cell? ⟨gb590, 1, none⟩ = some (.int .i64 0) ∧ w'.cell? ⟨gb590, 2, none⟩ = some (.int .i64 0) ∧ w'.cell? ⟨gb590, 3, none⟩ = some (.int .i64 0) ∧ w'.cell? ⟨gb590, 4, none⟩ = some (.int .i64 0) ∧ w'.cell? ⟨gb590, 5, none⟩ = some (.slice A0_5 l0_5.length c0_5)) (ds := []) #[false, false, false, false, false, false, false, false] (by kernel_rfl) rfl rfl ⟨(blk_cell BK590.out 0).trans rfl, (blk_cell BK590.out 1).trans rfl, (blk_cell BK590.out 2).trans rfl, (blk_cell BK590.out 3).trans rfl, (blk_cell BK590.out 4).trans rfl, (blk_cell BK590.out 5).trans rfl⟩ (fun hHeld => ?_); refine with_tabW drydocklaw17_EpochAlone.tab10 drydocklaw17_EpochAlone.bits10 (fun HT_ HW_ => ?_)
        generalize w43.drew = w44 at HO600 HO610 HO616 HO619 BK590 BK602 BK612 HB hHeld ⊢
        refine pv_ 3 (some 54) HT_ (h := ?_)
        refine tk_ 0 (some 51) HT_ HW_ hHeld (h := ?_)
        refine tk_ 4 (some 55) HT_ HW_ hHeld (h := ?_)
        refine pv_ 5 (some 56) HT_ (h := ?_)
        refine one_ (i := 1) (N := some 52) #[true, true, false, true, true, true, false, false] rfl rfl (one_of HT_.out (by kernel_rfl)) (by decide) (fun K hK => ?_)
        refine goes_ Try.func21 (by kernel_rfl) rfl #[.agg #[.int .i64 a0_0, .int .i64 0, .int .i64 0, .int .i64 0, .int .i64 0, .slice A0_5 l0_5.length c0_5]] (by rfl) rfl rfl (by (try simp only [List.map_toArray, List.map_cons, List.map_nil]); first | done | rfl | (simp only [List.length_drop, List.length_take]; rfl)) ?_
        with_reducible refine (epoch_Ready.calls kj3 a0_0 0 0 0 0 _ _ l0_5 t621 _ ?side1 ?side2 A22.out).mono ?_
        (case side1 => repeat (first | exact (Kd.C_below HR0_5.out HB.out) | (with_reducible refine Kd.C_alloc ?_ _) | (with_reducible refine Kd.C_drewN ?_ _) | (with_reducible refine Kd.C_drew ?_)))
        (case side2 => exact HC0_5.out)
        rintro e w45 ⟨v622, rfl, ho0, hb⟩
        refine ⟨_, rfl, ?_⟩
        have n0_ := Aside0.mk (Kd.R_below (rk_ HO600) hb)
        have n1_ := Aside0.mk (Kd.R_below (rk_ HO610) hb)
        have n2_ := Aside0.mk (Kd.R_elder' (rk_ HO616) (Kd.R_base ho0) hb)
        have n3_ := Aside0.mk (Kd.R_elder' (rk_ HO619) (Kd.R_base ho0) hb)
        have n4_ := Aside0.mk (Kd.R_lower (Kd.R_new' (Kd.R_new' ho0 (Kd.R_lt (rk_ HO616))) (Kd.R_lt (rk_ HO619))) (below_size bs_))
        have n5_ := Aside0.mk (blk_below (bk_ BK590) hb)
        have n6_ := Aside0.mk (blk_below (bk_ BK602) hb)
        have n7_ := Aside0.mk (blk_below (bk_ BK612) hb)
        have n8_ := Aside0.mk (below_step bs_ hb)
        clear HO600
        clear HO610
        clear HO616
        clear HO619
        clear BK590
        clear BK602
        clear BK612
        clear HB
        have HO600 := n0_
        have HO610 := n1_
        have HO616 := n2_
        have HO619 := n3_
        have HO623 := n4_
        have BK590 := n5_
        have BK602 := n6_
        have BK612 := n7_
        have HB := n8_
        clear n0_ n1_ n2_ n3_ n4_ n5_ n6_ n7_ n8_
        (try clear hb)
        (try clear hb2)
        (try clear hk)
        (try clear hi)
        (try clear ho0)
        obtain ⟨Ao46, co46, eo46⟩ := Kd.R_slice HO623.out
        (first | subst eo46 | (injection eo46 with f1_ f2_ f3_; have f4_ := f1_.symm; have f5_ := f3_.symm; clear f1_ f2_ f3_; subst f4_; subst f5_))
        refine hK.out _ _ ⟨(blk_cell BK590.out 0).trans rfl, (blk_cell BK590.out 1).trans rfl, (blk_cell BK590.out 2).trans rfl, (blk_cell BK590.out 3).trans rfl, (blk_cell BK590.out 4).trans rfl, (blk_cell BK590.out 5).trans rfl⟩ (fun hHeld => ?_)
        clear hK K
        refine norm_ (a' := ?_) ?_ ?_
        rotate_left
        ·show Act.put _ (some 52) _ = _
         simp only [Act.put, List.setIfInBounds_toArray, List.set_cons_zero, List.set_cons_succ, i64_w, i32_w]
         rfl
        refine pv_ 2 (some 53) HT_ (h := ?_)
        refine pv_ 6 (some 57) HT_ (h := ?_)
        refine pv_ 7 (some 4) HT_ (h := ?_)
        refine done_ (done_of HT_.out (by kernel_rfl)) ?_
        try go_wp2
        go_ret
        exact ⟨by first | rfl | (simp [errW_none, errW_some] <;> rfl) | (simp [*, errW_none, errW_some] <;> rfl), by repeat (first | (with_reducible first | exact HB.out | apply below_alloc | apply pw_below_drewN | apply below_drew1 | refine below_set ?_ GE590.out | refine below_set ?_ GE602.out | refine below_set ?_ GE612.out) | exact HB.out)⟩
       ·replace c21 := Bool.eq_false_iff.mpr c21
        subst c21
        have H1 : (none) = some r := by rw [if_neg (show ¬ (false = true) by decide)] at H; exact H
        clear H
        have H := H1
        clear H1
        exact absurd H (by simp)
      ·replace c17 := Bool.eq_false_iff.mpr c17
       subst c17
       have H1 : (none) = some r := by rw [if_neg (show ¬ (false = true) by decide)] at H; exact H
       clear H
       have H := H1
       clear H1
       exact absurd H (by simp)
     ·rw [if_neg c15] at H
      have c15b0 : (t611 == 0) = false := beq_eq_false_iff_ne.mpr c15
      have c15b1 : (t611 != 0) = true := bne_iff_ne.mpr c15
      exact absurd H (by simp)
    ·rw [if_neg c13] at H
     have c13b0 : (t601 == 0) = false := beq_eq_false_iff_ne.mpr c13
     have c13b1 : (t601 != 0) = true := bne_iff_ne.mpr c13
     replace H := Option.bind_eq_some_iff.mp H
     obtain ⟨t624, A470, H⟩ := H
     replace H : (some ((t624.length : Int) == (l0_5.length : Int))) = some r := H
     have A47 := Aside0.mk A470
     clear A470
     obtain rfl := Option.some.inj H
     obtain ⟨hcz48_0, hcz48_1, hcz48_2, hcz48_3, hcz48_4, hcz48_5, hfz48_0, hfz48_1, hfz48_2, hfz48_3, hfz48_4, hfz48_5⟩ := blk6 BK590
     try go_wp2_with (first | ((with_reducible refine gate_callee (f := 11) rfl ?_); refine goesL_ (some 22) rfl rfl Try.func11 (by kernel_rfl) rfl #[.agg #[.int .i64 a0_0, .int .i64 a0_1, .int .i64 a0_2, .int .i64 a0_3, .int .i64 a0_4, .slice A0_5 l0_5.length c0_5], .int .i64 a1] rfl (by (try simp only [List.map_toArray, List.map_cons, List.map_nil]); first | done | rfl | (simp only [List.length_drop, List.length_take]; rfl)) ?_; (with_reducible refine (epoch_Enter.calls kj3 a0_0 a0_1 a0_2 a0_3 a0_4 _ _ l0_5 a1 t593 t594 t595 t596 t597 t598 t601 _ ?side1 ?side2 A12.out).mono ?_); (case side1 => repeat (first | exact (Kd.C_below HR0_5.out HB.out) | (with_reducible refine Kd.C_alloc ?_ _) | (with_reducible refine Kd.C_drewN ?_ _) | (with_reducible refine Kd.C_drew ?_))); (case side2 => exact HC0_5.out); rintro e w49 ⟨v599, rfl, ho0, hb⟩; refine ⟨_, rfl, ?_⟩; have n0_ := Aside0.mk (Kd.R_lower ho0 (below_size bs_)); have n1_ := Aside0.mk (blk_below (bk_ BK590) hb); have n2_ := Aside0.mk (below_step bs_ hb); clear BK590 HB; have HO600 := n0_; have BK590 := n1_; have HB := n2_; clear n0_ n1_ n2_; (try clear hb); (try clear hb2); (try clear hk); (try clear hi); (try clear ho0); obtain ⟨Ao50, co50, eo50⟩ := Kd.R_slice HO600.out; subst eo50) | ((with_reducible refine gate_dst (N := 6) rfl ?_); refine box_event ?hg (N := 6) ?hd (cs := #[.int .i64 0, .int .i64 0, .int .i64 0, .int .i64 0, .int .i64 0, .slice none 0 0]) (t := 25) ?hr ?_; (case hd => rfl); (case hg => rfl); (case hr => first | (go_simp; done) | (go_simp; rfl)); intro gb602 hg w51 hbox hb; have n0_ := Aside0.mk (Kd.R_below (rk_ HO600) hb); have n1_ := Aside0.mk (blk_below (bk_ BK590) hb); have n2_ := Aside0.mk (below_step bs_ hb); have n3_ := Aside0.mk (hbox); have n4_ := Aside0.mk ((by rw [hg]; exact (below_size bs_) : w.heap.size ≤ gb602)); have n5_ := Aside0.mk ((by rw [hg]; exact (below_size bs_) : w.heap.size ≤ gb602)); have n6_ := Aside0.mk ((by rw [hg]; exact Nat.ne_of_lt (blk_lt (bk_ BK590)) : gb590 ≠ gb602)); have n7_ := Aside0.mk ((by rw [hg]; exact Nat.ne_of_gt (blk_lt (bk_ BK590)) : gb602 ≠ gb590)); clear HO600 BK590 HB; have HO600 := n0_; have BK590 := n1_; have HB := n2_; have BK602 := n3_; have GW602 := n4_; have GE602 := n5_; have NB590_602 := n6_; have NB602_590 := n7_; clear n0_ n1_ n2_ n3_ n4_ n5_ n6_ n7_; clear hb hbox hg; have hnb52 := NB602_590.out; have hnc52 := NB590_602.out; obtain ⟨hcz53_0, hcz53_1, hcz53_2, hcz53_3, hcz53_4, hcz53_5, hfz53_0, hfz53_1, hfz53_2, hfz53_3, hfz53_4, hfz53_5⟩ := blk6 BK602; obtain ⟨hcz54_0, hcz54_1, hcz54_2, hcz54_3, hcz54_4, hcz54_5, hfz54_0, hfz54_1, hfz54_2, hfz54_3, hfz54_4, hfz54_5⟩ := blk6 BK590))
     have n0_ : Aside0 (Kd.R k43 43 ((((((((((w51.setCell ⟨gb602, 0, none⟩ (.int .i64 t593)).setCell ⟨gb602, 1, none⟩ (.int .i64 t594)).setCell ⟨gb602, 2, none⟩ (.int .i64 t595)).setCell ⟨gb602, 3, none⟩ (.int .i64 t596)).setCell ⟨gb602, 4, none⟩ (.int .i64 t597)).setCell ⟨gb602, 5, none⟩ (.slice Ao50 t598.length co50)).setCell ⟨gb590, 1, none⟩ (.int .i64 0)).setCell ⟨gb590, 2, none⟩ (.int .i64 0)).setCell ⟨gb590, 3, none⟩ (.int .i64 0)).setCell ⟨gb590, 4, none⟩ (.int .i64 0)) w.heap.size (fun _ => True) (.slice Ao50 t598.length co50) t598) := ⟨by (with_reducible repeat (first | apply Kd.R_alloc | apply Kd.R_drewN | apply Kd.R_drew)); exact Kd.R_mono (Kd.R_far (p := ⟨gb590, 4, none⟩) (Kd.R_far (p := ⟨gb590, 3, none⟩) (Kd.R_far (p := ⟨gb590, 2, none⟩) (Kd.R_far (p := ⟨gb590, 1, none⟩) (far6 gb602 (Kd.R_types (Kd.R_types HO600.out BK602.out (by decide)) BK590.out (by decide)) (fun _ hk => hk.1.2)) (fun _ hk => hk.2) (.int .i64 0)) (fun _ hk => hk.2) (.int .i64 0)) (fun _ hk => hk.2) (.int .i64 0)) (fun _ hk => hk.2) (.int .i64 0)) (fun _ hk => trivial)⟩
     have n1_ : Aside0 (((((((((((w51.setCell ⟨gb602, 0, none⟩ (.int .i64 t593)).setCell ⟨gb602, 1, none⟩ (.int .i64 t594)).setCell ⟨gb602, 2, none⟩ (.int .i64 t595)).setCell ⟨gb602, 3, none⟩ (.int .i64 t596)).setCell ⟨gb602, 4, none⟩ (.int .i64 t597)).setCell ⟨gb602, 5, none⟩ (.slice Ao50 t598.length co50)).setCell ⟨gb590, 1, none⟩ (.int .i64 0)).setCell ⟨gb590, 2, none⟩ (.int .i64 0)).setCell ⟨gb590, 3, none⟩ (.int .i64 0)).setCell ⟨gb590, 4, none⟩ (.int .i64 0)).heap[gb590]? = some (.cells #[.int .i64 a0_0, .int .i64 0, .int .i64 0, .int .i64 0, .int .i64 0, .slice A0_5 l0_5.length c0_5] 25 (0, 0))) := ⟨bp_ BK590⟩
     have n2_ : Aside0 (((((((((((w51.setCell ⟨gb602, 0, none⟩ (.int .i64 t593)).setCell ⟨gb602, 1, none⟩ (.int .i64 t594)).setCell ⟨gb602, 2, none⟩ (.int .i64 t595)).setCell ⟨gb602, 3, none⟩ (.int .i64 t596)).setCell ⟨gb602, 4, none⟩ (.int .i64 t597)).setCell ⟨gb602, 5, none⟩ (.slice Ao50 t598.length co50)).setCell ⟨gb590, 1, none⟩ (.int .i64 0)).setCell ⟨gb590, 2, none⟩ (.int .i64 0)).setCell ⟨gb590, 3, none⟩ (.int .i64 0)).setCell ⟨gb590, 4, none⟩ (.int .i64 0)).heap[gb602]? = some (.cells #[.int .i64 t593, .int .i64 t594, .int .i64 t595, .int .i64 t596, .int .i64 t597, .slice Ao50 t598.length co50] 25 (0, 0))) := ⟨bp_ BK602⟩
     have n3_ : Aside0 (Below w.heap.size w ((((((((((w51.setCell ⟨gb602, 0, none⟩ (.int .i64 t593)).setCell ⟨gb602, 1, none⟩ (.int .i64 t594)).setCell ⟨gb602, 2, none⟩ (.int .i64 t595)).setCell ⟨gb602, 3, none⟩ (.int .i64 t596)).setCell ⟨gb602, 4, none⟩ (.int .i64 t597)).setCell ⟨gb602, 5, none⟩ (.slice Ao50 t598.length co50)).setCell ⟨gb590, 1, none⟩ (.int .i64 0)).setCell ⟨gb590, 2, none⟩ (.int .i64 0)).setCell ⟨gb590, 3, none⟩ (.int .i64 0)).setCell ⟨gb590, 4, none⟩ (.int .i64 0))) := ⟨bs_⟩
     (try clear HO600)
     (try clear BK590)
     (try clear BK602)
     (try clear HB)
     generalize ((((((((((w51.setCell ⟨gb602, 0, none⟩ (.int .i64 t593)).setCell ⟨gb602, 1, none⟩ (.int .i64 t594)).setCell ⟨gb602, 2, none⟩ (.int .i64 t595)).setCell ⟨gb602, 3, none⟩ (.int .i64 t596)).setCell ⟨gb602, 4, none⟩ (.int .i64 t597)).setCell ⟨gb602, 5, none⟩ (.slice Ao50 t598.length co50)).setCell ⟨gb590, 1, none⟩ (.int .i64 0)).setCell ⟨gb590, 2, none⟩ (.int .i64 0)).setCell ⟨gb590, 3, none⟩ (.int .i64 0)).setCell ⟨gb590, 4, none⟩ (.int .i64 0)) = w55 at n0_ n1_ n2_ n3_ ⊢
     have HO600 := n0_
     have BK590 := n1_
     have BK602 := n2_
     have HB := n3_
     clear n0_ n1_ n2_ n3_
     have n0_ := Aside0.mk (Kd.R_drew HO600.out)
     have n1_ := Aside0.mk (blk_drew BK590.out)
     have n2_ := Aside0.mk (blk_drew BK602.out)
     have n3_ := Aside0.mk (below_drew1 HB.out)
     clear HO600
     clear BK590
     clear BK602
     clear HB
     have HO600 := n0_
     have BK590 := n1_
     have BK602 := n2_
     have HB := n3_
     clear n0_ n1_ n2_ n3_
     refine start_ (n := 8) (S := fun w' => w'.cell? ⟨gb590, 0, none⟩ = some (.int .i64 a0_0) ∧ w'.cell? ⟨gb590, 1, none⟩ = some (.int .i64 0) ∧ w'.cell? ⟨gb590, 2, none⟩ = some (.int .i64 0) ∧ w'.cell? ⟨gb590, 3, none⟩ = some (.int .i64 0) ∧ w'.cell? ⟨gb590, 4, none⟩ = some (.int .i64 0) ∧ w'.cell? ⟨gb590, 5, none⟩ = some (.slice A0_5 l0_5.length c0_5)) (ds := []) #[false, false, false, false, false, false, false, false] (by kernel_rfl) rfl rfl ⟨(blk_cell BK590.out 0).trans rfl, (blk_cell BK590.out 1).trans rfl, (blk_cell BK590.out 2).trans rfl, (blk_cell BK590.out 3).trans rfl, (blk_cell BK590.out 4).trans rfl, (blk_cell BK590.out 5).trans rfl⟩ (fun hHeld => ?_); refine with_tabW drydocklaw17_EpochAlone.tab10 drydocklaw17_EpochAlone.bits10 (fun HT_ HW_ => ?_)
     generalize w55.drew = w56 at HO600 BK590 BK602 HB hHeld ⊢
     refine pv_ 3 (some 54) HT_ (h := ?_)
     refine tk_ 0 (some 51) HT_ HW_ hHeld (h := ?_)
     refine tk_ 4 (some 55) HT_ HW_ hHeld (h := ?_)
     refine pv_ 5 (some 56) HT_ (h := ?_)
     refine one_ (i := 1) (N := some 52) #[true, true, false, true, true, true, false, false] rfl rfl (one_of HT_.out (by kernel_rfl)) (by decide) (fun K hK => ?_)
     refine goes_ Try.func21 (by kernel_rfl) rfl #[.agg #[.int .i64 a0_0, .int .i64 0, .int .i64 0, .int .i64 0, .int .i64 0, .slice A0_5 l0_5.length c0_5]] (by rfl) rfl rfl (by (try simp only [List.map_toArray, List.map_cons, List.map_nil]); first | done | rfl | (simp only [List.length_drop, List.length_take]; rfl)) ?_
     with_reducible refine (epoch_Ready.calls kj3 a0_0 0 0 0 0 _ _ l0_5 t624 _ ?side1 ?side2 A47.out).mono ?_
     (case side1 => repeat (first | exact (Kd.C_below HR0_5.out HB.out) | (with_reducible refine Kd.C_alloc ?_ _) | (with_reducible refine Kd.C_drewN ?_ _) | (with_reducible refine Kd.C_drew ?_)))
     (case side2 => exact HC0_5.out)
     rintro e w57 ⟨v625, rfl, ho0, hb⟩
     refine ⟨_, rfl, ?_⟩
     have n0_ := Aside0.mk (Kd.R_below (rk_ HO600) hb)
     have n1_ := Aside0.mk (Kd.R_lower ho0 (below_size bs_))
     have n2_ := Aside0.mk (blk_below (bk_ BK590) hb)
     have n3_ := Aside0.mk (blk_below (bk_ BK602) hb)
     have n4_ := Aside0.mk (below_step bs_ hb)
     clear HO600
     clear BK590
     clear BK602
     clear HB
     have HO600 := n0_
     have HO626 := n1_
     have BK590 := n2_
     have BK602 := n3_
     have HB := n4_
     clear n0_ n1_ n2_ n3_ n4_
     (try clear hb)
     (try clear hb2)
     (try clear hk)
     (try clear hi)
     (try clear ho0)
     obtain ⟨Ao58, co58, eo58⟩ := Kd.R_slice HO626.out
     (first | subst eo58 | (injection eo58 with f1_ f2_ f3_; have f4_ := f1_.symm; have f5_ := f3_.symm; clear f1_ f2_ f3_; subst f4_; subst f5_))
     refine hK.out _ _ ⟨(blk_cell BK590.out 0).trans rfl, (blk_cell BK590.out 1).trans rfl, (blk_cell BK590.out 2).trans rfl, (blk_cell BK590.out 3).trans rfl, (blk_cell BK590.out 4).trans rfl, (blk_cell BK590.out 5).trans rfl⟩ (fun hHeld => ?_)
     clear hK K
     refine norm_ (a' := ?_) ?_ ?_
     rotate_left
     ·show Act.put _ (some 52) _ = _
      simp only [Act.put, List.setIfInBounds_toArray, List.set_cons_zero, List.set_cons_succ, i64_w, i32_w]
      rfl
     refine pv_ 2 (some 53) HT_ (h := ?_)
     refine pv_ 6 (some 57) HT_ (h := ?_)
     refine pv_ 7 (some 4) HT_ (h := ?_)
     refine done_ (done_of HT_.out (by kernel_rfl)) ?_
     try go_wp2
     go_ret
     exact ⟨by first | rfl | (simp [errW_none, errW_some] <;> rfl) | (simp [*, errW_none, errW_some] <;> rfl), by repeat (first | (with_reducible first | exact HB.out | apply below_alloc | apply pw_below_drewN | apply below_drew1 | refine below_set ?_ GE590.out | refine below_set ?_ GE602.out) | exact HB.out)⟩

end Go.Proofs.Ytipnfcicpnmggaa.P
