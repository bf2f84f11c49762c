-- Written by a program of this session over the kit's print of the translation. Lean checks it.
import Derived.Test.YtipnfcicpnmggaaPx0
import Derived.Test.YtipnfcicpnmggaaPx5
import Derived.Test.YtipnfcicpnmggaaPx6
import Derived.Test.YtipnfcicpnmggaaPx7
import Derived.Test.YtipnfcicpnmggaaPx10
import Derived.Test.YtipnfcicpnmggaaPx11
-- shorter
namespace Go.Proofs.Ytipnfcicpnmggaa.P
open Go.RowKit Go.Proofs.YtipnfcicpnmggaaW.PrintWords Go.Proofs.YtipnfcicpnmggaaW.PrintLast Go.Proofs.YtipnfcicpnmggaaW.PrintMore
attribute [local go_sem] max2_int min2_int max_two min_two max_three min_three max_four min_four   -- for this text's walks alone
set_option linter.unusedVariables false
set_option linter.unusedSimpArgs false

/-! ### drydocklaw17_EpochOnce: function 8 -/
mutual
def drydocklaw17_EpochOnce.j0 : Nat → Int → Int → Bool → Bool → Int → Int → Int → Int → Int → List (S43) → Option (Bool)
  | 0, _, _, _, _, _, _, _, _, _, _ => none
  | k + 1, x1, x2, x7, x52, x628000, x628001, x628002, x628003, x628004, x628005 => if x52 = true then (some x7) else ((epoch_Enter.f k x628000 x628001 x628002 x628003 x628004 x628005 x1).bind fun bt630 => ((epoch_Leave.f k x628000 x628001 x628002 x628003 x628004 x628005 x1).bind fun bt640 => (if ((bt630.2.2.2.2.2.2 == 0) == (bt640.2.2.2.2.2.2 == 0)) = true then (drydocklaw17_EpochOnce.j1 k x1 x2 bt630.2.2.2.2.2.2 true x628000 x628001 x628002 x628003 x628004 x628005 bt630.1 bt630.2.1 bt630.2.2.1 bt630.2.2.2.1 bt630.2.2.2.2.1 bt630.2.2.2.2.2.1) else (if bt630.2.2.2.2.2.2 = 0 then (drydocklaw17_EpochOnce.j1 k x1 x2 bt630.2.2.2.2.2.2 false x628000 x628001 x628002 x628003 x628004 x628005 bt630.1 bt630.2.1 bt630.2.2.1 bt630.2.2.2.1 bt630.2.2.2.2.1 bt630.2.2.2.2.2.1) else (drydocklaw17_EpochOnce.j1 k x1 x2 bt630.2.2.2.2.2.2 (bt630.2.2.2.2.2.2 != 11) x628000 x628001 x628002 x628003 x628004 x628005 bt630.1 bt630.2.1 bt630.2.2.1 bt630.2.2.2.1 bt630.2.2.2.2.1 bt630.2.2.2.2.2.1)))))
def drydocklaw17_EpochOnce.j1 : Nat → Int → Int → Int → Bool → Int → Int → Int → Int → Int → List (S43) → Int → Int → Int → Int → Int → List (S43) → Option (Bool)
  | 0, _, _, _, _, _, _, _, _, _, _, _, _, _, _, _, _ => none
  | k + 1, x1, x2, x9, x78, x628000, x628001, x628002, x628003, x628004, x628005, x640000, x640001, x640002, x640003, x640004, x640005 => if x78 = true then (none) else (if x9 = 0 then ((epoch_Enter.f k x640000 x640001 x640002 x640003 x640004 x640005 x1).bind fun bt650 => (if bt650.2.2.2.2.2.2 = 11 then (drydocklaw17_EpochOnce.j2 k x2 x628000 x628001 x628002 x628003 x628004 x628005) else (none))) else (drydocklaw17_EpochOnce.j2 k x2 x628000 x628001 x628002 x628003 x628004 x628005))
def drydocklaw17_EpochOnce.j2 : Nat → Int → Int → Int → Int → Int → Int → List (S43) → Option (Bool)
  | 0, _, _, _, _, _, _, _ => none
  | k + 1, x2, x628000, x628001, x628002, x628003, x628004, x628005 => (epoch_Retire.f k x628000 0 0 0 0 x628005 x2).bind fun bt660 => (if bt660.2.2.2.2.2.2 = 0 then ((epoch_Retire.f k bt660.1 bt660.2.1 bt660.2.2.1 bt660.2.2.2.1 bt660.2.2.2.2.1 bt660.2.2.2.2.2.1 x2).bind fun bt670 => ((epoch_Clear.f k bt660.1 bt660.2.1 bt660.2.2.1 bt660.2.2.2.1 bt660.2.2.2.2.1 bt660.2.2.2.2.2.1).bind fun bt680 => ((epoch_Retire.f k bt680.1 bt680.2.1 bt680.2.2.1 bt680.2.2.2.1 bt680.2.2.2.2.1 bt680.2.2.2.2.2.1 x2).bind fun bt692 => (if bt670.2.2.2.2.2.2 = 1 then (some (bt692.2.2.2.2.2.2 == 0)) else (none))))) else (some (bt660.2.2.2.2.2.2 == 1)))
end
def drydocklaw17_EpochOnce.f (k : Nat) (a0_0 : Int) (a0_1 : Int) (a0_2 : Int) (a0_3 : Int) (a0_4 : Int) (l0_5 : List (S43)) (a1 : Int) (a2 : Int) : Option (Bool) := (drydocklaw17_awake.f k).bind fun t628 => (if t628 = true then ((epoch_May.f k a0_0 a0_1 a0_2 a0_3 a0_4 l0_5).bind fun t629 => (if t629 = true then (if (l0_5.length : Int) > 15 then (drydocklaw17_EpochOnce.j0 k a1 a2 t628 true a0_0 a0_1 a0_2 a0_3 a0_4 l0_5) else (if a0_0 > 1000000 then (drydocklaw17_EpochOnce.j0 k a1 a2 t628 true a0_0 a0_1 a0_2 a0_3 a0_4 l0_5) else (if a1 < 0 then (drydocklaw17_EpochOnce.j0 k a1 a2 t628 true a0_0 a0_1 a0_2 a0_3 a0_4 l0_5) else (if a1 > 3 then (drydocklaw17_EpochOnce.j0 k a1 a2 t628 true a0_0 a0_1 a0_2 a0_3 a0_4 l0_5) else (drydocklaw17_EpochOnce.j0 k a1 a2 t628 (decide (a2 < 1)) a0_0 a0_1 a0_2 a0_3 a0_4 l0_5))))) else (drydocklaw17_EpochOnce.j0 k a1 a2 t628 true a0_0 a0_1 a0_2 a0_3 a0_4 l0_5))) else (drydocklaw17_EpochOnce.j0 k a1 a2 t628 true a0_0 a0_1 a0_2 a0_3 a0_4 l0_5))
theorem drydocklaw17_EpochOnce.mono_l : ∀ k, (∀ y0 y1 y2 y3 y4 y5 y6 y7 y8 y9, LeO (drydocklaw17_EpochOnce.j0 k y0 y1 y2 y3 y4 y5 y6 y7 y8 y9) (drydocklaw17_EpochOnce.j0 (k + 1) y0 y1 y2 y3 y4 y5 y6 y7 y8 y9)) ∧ (∀ y0 y1 y2 y3 y4 y5 y6 y7 y8 y9 y10 y11 y12 y13 y14 y15, LeO (drydocklaw17_EpochOnce.j1 k y0 y1 y2 y3 y4 y5 y6 y7 y8 y9 y10 y11 y12 y13 y14 y15) (drydocklaw17_EpochOnce.j1 (k + 1) y0 y1 y2 y3 y4 y5 y6 y7 y8 y9 y10 y11 y12 y13 y14 y15)) ∧ (∀ y0 y1 y2 y3 y4 y5 y6, LeO (drydocklaw17_EpochOnce.j2 k y0 y1 y2 y3 y4 y5 y6) (drydocklaw17_EpochOnce.j2 (k + 1) y0 y1 y2 y3 y4 y5 y6))
  | 0 => ⟨fun _ _ _ _ _ _ _ _ _ _ r h => by simp [drydocklaw17_EpochOnce.j0] at h, fun _ _ _ _ _ _ _ _ _ _ _ _ _ _ _ _ r h => by simp [drydocklaw17_EpochOnce.j1] at h, fun _ _ _ _ _ _ _ r h => by simp [drydocklaw17_EpochOnce.j2] at h⟩
  | k + 1 => by
    obtain ⟨ih0, ih1, ih2⟩ := drydocklaw17_EpochOnce.mono_l k
    refine ⟨?_, ?_, ?_⟩
    · intro y0 y1 y2 y3 y4 y5 y6 y7 y8 y9
      unfold drydocklaw17_EpochOnce.j0
      repeat' first
      | (with_reducible exact ih0 _ _ _ _ _ _ _ _ _ _)
      | (with_reducible exact ih1 _ _ _ _ _ _ _ _ _ _ _ _ _ _ _ _)
      | (with_reducible exact ih2 _ _ _ _ _ _ _)
      | (with_reducible exact drydocklaw17_awake.mono _)
      | (with_reducible exact epoch_Clear.mono _ _ _ _ _ _ _)
      | (with_reducible exact epoch_Enter.mono _ _ _ _ _ _ _ _)
      | (with_reducible exact epoch_Leave.mono _ _ _ _ _ _ _ _)
      | (with_reducible exact epoch_May.mono _ _ _ _ _ _ _)
      | (with_reducible exact epoch_Retire.mono _ _ _ _ _ _ _ _)
      | (with_reducible exact LeO.refl _)
      | (with_reducible exact LeO.none _)
      | (with_reducible refine LeO.ite ?_ ?_)
      | (with_reducible refine LeO.bind ?_ (fun _ => ?_))
      | exact ih0 _ _ _ _ _ _ _ _ _ _
      | exact ih1 _ _ _ _ _ _ _ _ _ _ _ _ _ _ _ _
      | exact ih2 _ _ _ _ _ _ _
      | exact drydocklaw17_awake.mono _
      | exact epoch_Clear.mono _ _ _ _ _ _ _
      | exact epoch_Enter.mono _ _ _ _ _ _ _ _
      | exact epoch_Leave.mono _ _ _ _ _ _ _ _
      | exact epoch_May.mono _ _ _ _ _ _ _
      | exact epoch_Retire.mono _ _ _ _ _ _ _ _
      | exact LeO.none _
      | refine LeO.ite ?_ ?_
      | refine LeO.bind ?_ (fun _ => ?_)
    · intro y0 y1 y2 y3 y4 y5 y6 y7 y8 y9 y10 y11 y12 y13 y14 y15
      unfold drydocklaw17_EpochOnce.j1
      repeat' first
      | (with_reducible exact ih0 _ _ _ _ _ _ _ _ _ _)
      | (with_reducible exact ih1 _ _ _ _ _ _ _ _ _ _ _ _ _ _ _ _)
      | (with_reducible exact ih2 _ _ _ _ _ _ _)
      | (with_reducible exact drydocklaw17_awake.mono _)
      | (with_reducible exact epoch_Clear.mono _ _ _ _ _ _ _)
      | (with_reducible exact epoch_Enter.mono _ _ _ _ _ _ _ _)
      | (with_reducible exact epoch_Leave.mono _ _ _ _ _ _ _ _)
      | (with_reducible exact epoch_May.mono _ _ _ _ _ _ _)
      | (with_reducible exact epoch_Retire.mono _ _ _ _ _ _ _ _)
      | (with_reducible exact LeO.refl _)
      | (with_reducible exact LeO.none _)
      | (with_reducible refine LeO.ite ?_ ?_)
      | (with_reducible refine LeO.bind ?_ (fun _ => ?_))
      | exact ih0 _ _ _ _ _ _ _ _ _ _
      | exact ih1 _ _ _ _ _ _ _ _ _ _ _ _ _ _ _ _
      | exact ih2 _ _ _ _ _ _ _
      | exact drydocklaw17_awake.mono _
      | exact epoch_Clear.mono _ _ _ _ _ _ _
      | exact epoch_Enter.mono _ _ _ _ _ _ _ _
      | exact epoch_Leave.mono _ _ _ _ _ _ _ _
      | exact epoch_May.mono _ _ _ _ _ _ _
      | exact epoch_Retire.mono _ _ _ _ _ _ _ _
      | exact LeO.none _
      | refine LeO.ite ?_ ?_
      | refine LeO.bind ?_ (fun _ => ?_)
    · intro y0 y1 y2 y3 y4 y5 y6
      unfold drydocklaw17_EpochOnce.j2
      repeat' first
      | (with_reducible exact ih0 _ _ _ _ _ _ _ _ _ _)
      | (with_reducible exact ih1 _ _ _ _ _ _ _ _ _ _ _ _ _ _ _ _)
      | (with_reducible exact ih2 _ _ _ _ _ _ _)
      | (with_reducible exact drydocklaw17_awake.mono _)
      | (with_reducible exact epoch_Clear.mono _ _ _ _ _ _ _)
      | (with_reducible exact epoch_Enter.mono _ _ _ _ _ _ _ _)
      | (with_reducible exact epoch_Leave.mono _ _ _ _ _ _ _ _)
      | (with_reducible exact epoch_May.mono _ _ _ _ _ _ _)
      | (with_reducible exact epoch_Retire.mono _ _ _ _ _ _ _ _)
      | (with_reducible exact LeO.refl _)
      | (with_reducible exact LeO.none _)
      | (with_reducible refine LeO.ite ?_ ?_)
      | (with_reducible refine LeO.bind ?_ (fun _ => ?_))
      | exact ih0 _ _ _ _ _ _ _ _ _ _
      | exact ih1 _ _ _ _ _ _ _ _ _ _ _ _ _ _ _ _
      | exact ih2 _ _ _ _ _ _ _
      | exact drydocklaw17_awake.mono _
      | exact epoch_Clear.mono _ _ _ _ _ _ _
      | exact epoch_Enter.mono _ _ _ _ _ _ _ _
      | exact epoch_Leave.mono _ _ _ _ _ _ _ _
      | exact epoch_May.mono _ _ _ _ _ _ _
      | exact epoch_Retire.mono _ _ _ _ _ _ _ _
      | exact LeO.none _
      | refine LeO.ite ?_ ?_
      | refine LeO.bind ?_ (fun _ => ?_)
theorem drydocklaw17_EpochOnce.mono : ∀ a0 a1 a2 a3 a4 a5 a6 a7 k, LeO (drydocklaw17_EpochOnce.f k a0 a1 a2 a3 a4 a5 a6 a7) (drydocklaw17_EpochOnce.f (k + 1) a0 a1 a2 a3 a4 a5 a6 a7) := by
 intro a0 a1 a2 a3 a4 a5 a6 a7 k
 obtain ⟨ih0, ih1, ih2⟩ := drydocklaw17_EpochOnce.mono_l k
 unfold drydocklaw17_EpochOnce.f
 repeat' first
  | (with_reducible exact ih0 _ _ _ _ _ _ _ _ _ _)
  | (with_reducible exact ih1 _ _ _ _ _ _ _ _ _ _ _ _ _ _ _ _)
  | (with_reducible exact ih2 _ _ _ _ _ _ _)
  | (with_reducible exact drydocklaw17_awake.mono _)
  | (with_reducible exact epoch_Clear.mono _ _ _ _ _ _ _)
  | (with_reducible exact epoch_Enter.mono _ _ _ _ _ _ _ _)
  | (with_reducible exact epoch_Leave.mono _ _ _ _ _ _ _ _)
  | (with_reducible exact epoch_May.mono _ _ _ _ _ _ _)
  | (with_reducible exact epoch_Retire.mono _ _ _ _ _ _ _ _)
  | (with_reducible exact LeO.refl _)
  | (with_reducible exact LeO.none _)
  | (with_reducible refine LeO.ite ?_ ?_)
  | (with_reducible refine LeO.bind ?_ (fun _ => ?_))
  | exact ih0 _ _ _ _ _ _ _ _ _ _
  | exact ih1 _ _ _ _ _ _ _ _ _ _ _ _ _ _ _ _
  | exact ih2 _ _ _ _ _ _ _
  | exact drydocklaw17_awake.mono _
  | exact epoch_Clear.mono _ _ _ _ _ _ _
  | exact epoch_Enter.mono _ _ _ _ _ _ _ _
  | exact epoch_Leave.mono _ _ _ _ _ _ _ _
  | exact epoch_May.mono _ _ _ _ _ _ _
  | exact epoch_Retire.mono _ _ _ _ _ _ _ _
  | exact LeO.none _
  | refine LeO.ite ?_ ?_
  | refine LeO.bind ?_ (fun _ => ?_)
set_option maxHeartbeats 8000000 in
set_option maxRecDepth 100000 in
theorem drydocklaw17_EpochOnce.calls (k : Nat) (a0_0 : Int) (a0_1 : Int) (a0_2 : Int) (a0_3 : Int) (a0_4 : Int) (A0_5 : Option Addr) (c0_5 : Nat) (l0_5 : List (S43)) (a1 : Int) (a2 : Int) (r : Bool) (w : World) (hr0_5 : Kd.C k43 w A0_5 l0_5.length l0_5) (hc0_5 : l0_5.length ≤ c0_5) (h : drydocklaw17_EpochOnce.f k a0_0 a0_1 a0_2 a0_3 a0_4 l0_5 a1 a2 = some r) :
    Calls Try.prog 8 #[.agg #[.int .i64 a0_0, .int .i64 a0_1, .int .i64 a0_2, .int .i64 a0_3, .int .i64 a0_4, .slice A0_5 l0_5.length c0_5], .int .i64 a1, .int .i64 a2] w fun e w' => e = .returned (.bool r) ∧ Below w.heap.size w w' := by
 have hu25 := Try.underlying25
 have hu22 := Try.underlying22
 have HR0_5 := Aside0.mk hr0_5
 have HC0_5 := Aside0.mk hc0_5
 clear hr0_5 hc0_5
 have HB := Aside0.mk (Below.refl w.heap.size w)
 have H : ((drydocklaw17_awake.f k).bind fun t628 => (if t628 = true then ((epoch_May.f k a0_0 a0_1 a0_2 a0_3 a0_4 l0_5).bind fun t629 => (if t629 = true then (if (l0_5.length : Int) > 15 then (drydocklaw17_EpochOnce.j0 k a1 a2 t628 true a0_0 a0_1 a0_2 a0_3 a0_4 l0_5) else (if a0_0 > 1000000 then (drydocklaw17_EpochOnce.j0 k a1 a2 t628 true a0_0 a0_1 a0_2 a0_3 a0_4 l0_5) else (if a1 < 0 then (drydocklaw17_EpochOnce.j0 k a1 a2 t628 true a0_0 a0_1 a0_2 a0_3 a0_4 l0_5) else (if a1 > 3 then (drydocklaw17_EpochOnce.j0 k a1 a2 t628 true a0_0 a0_1 a0_2 a0_3 a0_4 l0_5) else (drydocklaw17_EpochOnce.j0 k a1 a2 t628 (decide (a2 < 1)) a0_0 a0_1 a0_2 a0_3 a0_4 l0_5))))) else (drydocklaw17_EpochOnce.j0 k a1 a2 t628 true a0_0 a0_1 a0_2 a0_3 a0_4 l0_5))) else (drydocklaw17_EpochOnce.j0 k a1 a2 t628 true a0_0 a0_1 a0_2 a0_3 a0_4 l0_5))) = some r := h
 clear h
 replace H := Option.bind_eq_some_iff.mp H
 obtain ⟨t628, A40, H⟩ := H
 replace H : (if t628 = true then ((epoch_May.f k a0_0 a0_1 a0_2 a0_3 a0_4 l0_5).bind fun t629 => (if t629 = true then (if (l0_5.length : Int) > 15 then (drydocklaw17_EpochOnce.j0 k a1 a2 t628 true a0_0 a0_1 a0_2 a0_3 a0_4 l0_5) else (if a0_0 > 1000000 then (drydocklaw17_EpochOnce.j0 k a1 a2 t628 true a0_0 a0_1 a0_2 a0_3 a0_4 l0_5) else (if a1 < 0 then (drydocklaw17_EpochOnce.j0 k a1 a2 t628 true a0_0 a0_1 a0_2 a0_3 a0_4 l0_5) else (if a1 > 3 then (drydocklaw17_EpochOnce.j0 k a1 a2 t628 true a0_0 a0_1 a0_2 a0_3 a0_4 l0_5) else (drydocklaw17_EpochOnce.j0 k a1 a2 t628 (decide (a2 < 1)) a0_0 a0_1 a0_2 a0_3 a0_4 l0_5))))) else (drydocklaw17_EpochOnce.j0 k a1 a2 t628 true a0_0 a0_1 a0_2 a0_3 a0_4 l0_5))) else (drydocklaw17_EpochOnce.j0 k a1 a2 t628 true a0_0 a0_1 a0_2 a0_3 a0_4 l0_5)) = some r := H
 have A4 := Aside0.mk A40
 clear A40
 have HC5 := Aside0.mk H
 clear H
 go_enter Try.func8, Try.ntmps8
 go_upto_region 2 with (first | ((with_reducible refine gate_dst (N := 3) rfl ?_); (try (refine gate_guard (by rfl) ?_; dsimp only)); refine box_event ?hg (N := 3) ?hd (cs := #[.int .i64 a0_0, .int .i64 a0_1, .int .i64 a0_2, .int .i64 a0_3, .int .i64 a0_4, .slice A0_5 l0_5.length c0_5]) (t := 25) ?hr ?_; (case hd => rfl); (case hg => rfl); (case hr => first | (go_simp; done) | (go_simp; rfl)); intro gb627 hg w6 hbox hb; have n0_ := Aside0.mk (below_step bs_ hb); have n1_ := Aside0.mk (hbox); have n2_ := Aside0.mk ((by rw [hg]; exact (below_size bs_) : w.heap.size ≤ gb627)); have n3_ := Aside0.mk ((by rw [hg]; exact (below_size bs_) : w.heap.size ≤ gb627)); clear HB; have HB := n0_; have BK627 := n1_; have GW627 := n2_; have GE627 := n3_; clear n0_ n1_ n2_ n3_; clear hb hbox hg) | ((with_reducible refine gate_callee (f := 9) rfl ?_); refine goesL_ (some 22) rfl rfl Try.func9 (by kernel_rfl) rfl #[] rfl (by (try simp only [List.map_toArray, List.map_cons, List.map_nil]); first | done | rfl | (simp only [List.length_drop, List.length_take]; rfl)) ?_; (with_reducible refine (drydocklaw17_awake.calls k  t628 _ A4.out).mono ?_); rintro e w7 ⟨rfl, hb⟩; refine ⟨_, rfl, ?_⟩; have n0_ := Aside0.mk (blk_below (bk_ BK627) hb); have n1_ := Aside0.mk (below_step bs_ hb); clear BK627 HB; have BK627 := n0_; have HB := n1_; clear n0_ n1_; (try clear hb); (try clear hb2); (try clear hk); (try clear hi)))
 (try simp only [Act.put, List.setIfInBounds_toArray, List.set_cons_zero, List.set_cons_succ])
 go_cut [52] (fun v52 wc => ∃ (kq : Nat) (x52_4 : Bool), v52 = .bool x52_4 ∧ Aside0 (drydocklaw17_EpochOnce.j0 kq a1 a2 t628 x52_4 a0_0 a0_1 a0_2 a0_3 a0_4 l0_5 = some r) ∧ Aside0 (kq ≤ k) ∧ Aside0 (wc.heap[gb627]? = some (.cells #[.int .i64 a0_0, .int .i64 a0_1, .int .i64 a0_2, .int .i64 a0_3, .int .i64 a0_4, (.slice A0_5 l0_5.length c0_5)] 25 (0, 0))) ∧ Aside0 (Below w.heap.size w wc))
 case first =>
  have H := HC5.out
  clear HC5
  by_cases c8 : t628 = true
  ·subst c8
   have H1 : ((epoch_May.f k a0_0 a0_1 a0_2 a0_3 a0_4 l0_5).bind fun t629 => (if t629 = true then (if (l0_5.length : Int) > 15 then (drydocklaw17_EpochOnce.j0 k a1 a2 true true a0_0 a0_1 a0_2 a0_3 a0_4 l0_5) else (if a0_0 > 1000000 then (drydocklaw17_EpochOnce.j0 k a1 a2 true true a0_0 a0_1 a0_2 a0_3 a0_4 l0_5) else (if a1 < 0 then (drydocklaw17_EpochOnce.j0 k a1 a2 true true a0_0 a0_1 a0_2 a0_3 a0_4 l0_5) else (if a1 > 3 then (drydocklaw17_EpochOnce.j0 k a1 a2 true true a0_0 a0_1 a0_2 a0_3 a0_4 l0_5) else (drydocklaw17_EpochOnce.j0 k a1 a2 true (decide (a2 < 1)) a0_0 a0_1 a0_2 a0_3 a0_4 l0_5))))) else (drydocklaw17_EpochOnce.j0 k a1 a2 true true a0_0 a0_1 a0_2 a0_3 a0_4 l0_5))) = some r := by rw [if_pos rfl] at H; exact H
   clear H
   have H := H1
   clear H1
   replace H := Option.bind_eq_some_iff.mp H
   obtain ⟨t629, A90, H⟩ := H
   replace H : (if t629 = true then (if (l0_5.length : Int) > 15 then (drydocklaw17_EpochOnce.j0 k a1 a2 true true a0_0 a0_1 a0_2 a0_3 a0_4 l0_5) else (if a0_0 > 1000000 then (drydocklaw17_EpochOnce.j0 k a1 a2 true true a0_0 a0_1 a0_2 a0_3 a0_4 l0_5) else (if a1 < 0 then (drydocklaw17_EpochOnce.j0 k a1 a2 true true a0_0 a0_1 a0_2 a0_3 a0_4 l0_5) else (if a1 > 3 then (drydocklaw17_EpochOnce.j0 k a1 a2 true true a0_0 a0_1 a0_2 a0_3 a0_4 l0_5) else (drydocklaw17_EpochOnce.j0 k a1 a2 true (decide (a2 < 1)) a0_0 a0_1 a0_2 a0_3 a0_4 l0_5))))) else (drydocklaw17_EpochOnce.j0 k a1 a2 true true a0_0 a0_1 a0_2 a0_3 a0_4 l0_5)) = some r := H
   have A9 := Aside0.mk A90
   clear A90
   by_cases c10 : t629 = true
   ·subst c10
    have H1 : (if (l0_5.length : Int) > 15 then (drydocklaw17_EpochOnce.j0 k a1 a2 true true a0_0 a0_1 a0_2 a0_3 a0_4 l0_5) else (if a0_0 > 1000000 then (drydocklaw17_EpochOnce.j0 k a1 a2 true true a0_0 a0_1 a0_2 a0_3 a0_4 l0_5) else (if a1 < 0 then (drydocklaw17_EpochOnce.j0 k a1 a2 true true a0_0 a0_1 a0_2 a0_3 a0_4 l0_5) else (if a1 > 3 then (drydocklaw17_EpochOnce.j0 k a1 a2 true true a0_0 a0_1 a0_2 a0_3 a0_4 l0_5) else (drydocklaw17_EpochOnce.j0 k a1 a2 true (decide (a2 < 1)) a0_0 a0_1 a0_2 a0_3 a0_4 l0_5))))) = some r := by rw [if_pos rfl] at H; exact H
    clear H
    have H := H1
    clear H1
    by_cases c11 : (l0_5.length : Int) > 15
    ·rw [if_pos c11] at H
     have c11b0 : decide (15 < (l0_5.length : Int)) = true := decide_eq_true c11
     have c11b1 : decide (15 < l0_5.length) = true := decide_eq_true (by omega)
     clear c11
     (first | rw [c11b0] | (simp only [i64_w, i32_w]; rw [c11b0]) | skip)
     have H' := Aside0.mk H
     clear H
     obtain ⟨hcz12_0, hcz12_1, hcz12_2, hcz12_3, hcz12_4, hcz12_5, hfz12_0, hfz12_1, hfz12_2, hfz12_3, hfz12_4, hfz12_5⟩ := blk6 BK627
     go_wp2_with (first | (go_at_call 23; (with_reducible refine (epoch_May.calls k a0_0 a0_1 a0_2 a0_3 a0_4 _ _ l0_5 true _ ?side1 ?side2 A9.out).mono ?_); (case side1 => repeat (first | exact (Kd.C_below HR0_5.out HB.out) | (with_reducible refine Kd.C_alloc ?_ _) | (with_reducible refine Kd.C_drewN ?_ _) | (with_reducible refine Kd.C_drew ?_))); (case side2 => exact HC0_5.out); rintro e w13 ⟨rfl, hb⟩; have n0_ := Aside0.mk (blk_below (bk_ BK627) hb); have n1_ := Aside0.mk (below_step bs_ hb); clear BK627 HB; have BK627 := n0_; have HB := n1_; clear n0_ n1_; (try clear hb); (try clear hb2); (try clear hk); (try clear hi); obtain ⟨hcz14_0, hcz14_1, hcz14_2, hcz14_3, hcz14_4, hcz14_5, hfz14_0, hfz14_1, hfz14_2, hfz14_3, hfz14_4, hfz14_5⟩ := blk6 BK627))
     go_meet
     case rel => exact ⟨_, (true), eq_, H', ⟨by first | omega | exact Nat.le_refl _⟩, ⟨bk_ BK627⟩, ⟨bs_⟩⟩
    ·rw [if_neg c11] at H
     have c11b0 : decide (15 < (l0_5.length : Int)) = false := decide_eq_false c11
     have c11b1 : decide (15 < l0_5.length) = false := decide_eq_false (by omega)
     clear c11
     (first | rw [c11b0] | (simp only [i64_w, i32_w]; rw [c11b0]) | skip)
     by_cases c15 : a0_0 > 1000000
     ·rw [if_pos c15] at H
      have c15b0 : decide (1000000 < a0_0) = true := decide_eq_true c15
      clear c15
      have H' := Aside0.mk H
      clear H
      obtain ⟨hcz16_0, hcz16_1, hcz16_2, hcz16_3, hcz16_4, hcz16_5, hfz16_0, hfz16_1, hfz16_2, hfz16_3, hfz16_4, hfz16_5⟩ := blk6 BK627
      go_wp2_with (first | (go_at_call 23; (with_reducible refine (epoch_May.calls k a0_0 a0_1 a0_2 a0_3 a0_4 _ _ l0_5 true _ ?side1 ?side2 A9.out).mono ?_); (case side1 => repeat (first | exact (Kd.C_below HR0_5.out HB.out) | (with_reducible refine Kd.C_alloc ?_ _) | (with_reducible refine Kd.C_drewN ?_ _) | (with_reducible refine Kd.C_drew ?_))); (case side2 => exact HC0_5.out); rintro e w17 ⟨rfl, hb⟩; have n0_ := Aside0.mk (blk_below (bk_ BK627) hb); have n1_ := Aside0.mk (below_step bs_ hb); clear BK627 HB; have BK627 := n0_; have HB := n1_; clear n0_ n1_; (try clear hb); (try clear hb2); (try clear hk); (try clear hi); obtain ⟨hcz18_0, hcz18_1, hcz18_2, hcz18_3, hcz18_4, hcz18_5, hfz18_0, hfz18_1, hfz18_2, hfz18_3, hfz18_4, hfz18_5⟩ := blk6 BK627))
      go_meet
      case rel => exact ⟨_, (true), eq_, H', ⟨by first | omega | exact Nat.le_refl _⟩, ⟨bk_ BK627⟩, ⟨bs_⟩⟩
     ·rw [if_neg c15] at H
      have c15b0 : decide (1000000 < a0_0) = false := decide_eq_false c15
      clear c15
      by_cases c19 : a1 < 0
      ·rw [if_pos c19] at H
       have c19b0 : decide (a1 < 0) = true := decide_eq_true c19
       clear c19
       have H' := Aside0.mk H
       clear H
       obtain ⟨hcz20_0, hcz20_1, hcz20_2, hcz20_3, hcz20_4, hcz20_5, hfz20_0, hfz20_1, hfz20_2, hfz20_3, hfz20_4, hfz20_5⟩ := blk6 BK627
       go_wp2_with (first | (go_at_call 23; (with_reducible refine (epoch_May.calls k a0_0 a0_1 a0_2 a0_3 a0_4 _ _ l0_5 true _ ?side1 ?side2 A9.out).mono ?_); (case side1 => repeat (first | exact (Kd.C_below HR0_5.out HB.out) | (with_reducible refine Kd.C_alloc ?_ _) | (with_reducible refine Kd.C_drewN ?_ _) | (with_reducible refine Kd.C_drew ?_))); (case side2 => exact HC0_5.out); rintro e w21 ⟨rfl, hb⟩; have n0_ := Aside0.mk (blk_below (bk_ BK627) hb); have n1_ := Aside0.mk (below_step bs_ hb); clear BK627 HB; have BK627 := n0_; have HB := n1_; clear n0_ n1_; (try clear hb); (try clear hb2); (try clear hk); (try clear hi); obtain ⟨hcz22_0, hcz22_1, hcz22_2, hcz22_3, hcz22_4, hcz22_5, hfz22_0, hfz22_1, hfz22_2, hfz22_3, hfz22_4, hfz22_5⟩ := blk6 BK627))
       go_meet
       case rel => exact ⟨_, (true), eq_, H', ⟨by first | omega | exact Nat.le_refl _⟩, ⟨bk_ BK627⟩, ⟨bs_⟩⟩
      ·rw [if_neg c19] at H
       have c19b0 : decide (a1 < 0) = false := decide_eq_false c19
       clear c19
       by_cases c23 : a1 > 3
       ·rw [if_pos c23] at H
        have c23b0 : decide (3 < a1) = true := decide_eq_true c23
        clear c23
        have H' := Aside0.mk H
        clear H
        obtain ⟨hcz24_0, hcz24_1, hcz24_2, hcz24_3, hcz24_4, hcz24_5, hfz24_0, hfz24_1, hfz24_2, hfz24_3, hfz24_4, hfz24_5⟩ := blk6 BK627
        go_wp2_with (first | (go_at_call 23; (with_reducible refine (epoch_May.calls k a0_0 a0_1 a0_2 a0_3 a0_4 _ _ l0_5 true _ ?side1 ?side2 A9.out).mono ?_); (case side1 => repeat (first | exact (Kd.C_below HR0_5.out HB.out) | (with_reducible refine Kd.C_alloc ?_ _) | (with_reducible refine Kd.C_drewN ?_ _) | (with_reducible refine Kd.C_drew ?_))); (case side2 => exact HC0_5.out); rintro e w25 ⟨rfl, hb⟩; have n0_ := Aside0.mk (blk_below (bk_ BK627) hb); have n1_ := Aside0.mk (below_step bs_ hb); clear BK627 HB; have BK627 := n0_; have HB := n1_; clear n0_ n1_; (try clear hb); (try clear hb2); (try clear hk); (try clear hi); obtain ⟨hcz26_0, hcz26_1, hcz26_2, hcz26_3, hcz26_4, hcz26_5, hfz26_0, hfz26_1, hfz26_2, hfz26_3, hfz26_4, hfz26_5⟩ := blk6 BK627))
        go_meet
        case rel => exact ⟨_, (true), eq_, H', ⟨by first | omega | exact Nat.le_refl _⟩, ⟨bk_ BK627⟩, ⟨bs_⟩⟩
       ·rw [if_neg c23] at H
        have c23b0 : decide (3 < a1) = false := decide_eq_false c23
        clear c23
        have H' := Aside0.mk H
        clear H
        obtain ⟨hcz27_0, hcz27_1, hcz27_2, hcz27_3, hcz27_4, hcz27_5, hfz27_0, hfz27_1, hfz27_2, hfz27_3, hfz27_4, hfz27_5⟩ := blk6 BK627
        go_wp2_with (first | (go_at_call 23; (with_reducible refine (epoch_May.calls k a0_0 a0_1 a0_2 a0_3 a0_4 _ _ l0_5 true _ ?side1 ?side2 A9.out).mono ?_); (case side1 => repeat (first | exact (Kd.C_below HR0_5.out HB.out) | (with_reducible refine Kd.C_alloc ?_ _) | (with_reducible refine Kd.C_drewN ?_ _) | (with_reducible refine Kd.C_drew ?_))); (case side2 => exact HC0_5.out); rintro e w28 ⟨rfl, hb⟩; have n0_ := Aside0.mk (blk_below (bk_ BK627) hb); have n1_ := Aside0.mk (below_step bs_ hb); clear BK627 HB; have BK627 := n0_; have HB := n1_; clear n0_ n1_; (try clear hb); (try clear hb2); (try clear hk); (try clear hi); obtain ⟨hcz29_0, hcz29_1, hcz29_2, hcz29_3, hcz29_4, hcz29_5, hfz29_0, hfz29_1, hfz29_2, hfz29_3, hfz29_4, hfz29_5⟩ := blk6 BK627))
        go_meet
        case rel => exact ⟨_, (decide (a2 < 1)), eq_, H', ⟨by first | omega | exact Nat.le_refl _⟩, ⟨bk_ BK627⟩, ⟨bs_⟩⟩
   ·replace c10 := Bool.eq_false_iff.mpr c10
    subst c10
    have H1 : (drydocklaw17_EpochOnce.j0 k a1 a2 true true a0_0 a0_1 a0_2 a0_3 a0_4 l0_5) = some r := by rw [if_neg (show ¬ (false = true) by decide)] at H; exact H
    clear H
    have H := H1
    clear H1
    have H' := Aside0.mk H
    clear H
    obtain ⟨hcz30_0, hcz30_1, hcz30_2, hcz30_3, hcz30_4, hcz30_5, hfz30_0, hfz30_1, hfz30_2, hfz30_3, hfz30_4, hfz30_5⟩ := blk6 BK627
    go_wp2_with (first | (go_at_call 23; (with_reducible refine (epoch_May.calls k a0_0 a0_1 a0_2 a0_3 a0_4 _ _ l0_5 false _ ?side1 ?side2 A9.out).mono ?_); (case side1 => repeat (first | exact (Kd.C_below HR0_5.out HB.out) | (with_reducible refine Kd.C_alloc ?_ _) | (with_reducible refine Kd.C_drewN ?_ _) | (with_reducible refine Kd.C_drew ?_))); (case side2 => exact HC0_5.out); rintro e w31 ⟨rfl, hb⟩; have n0_ := Aside0.mk (blk_below (bk_ BK627) hb); have n1_ := Aside0.mk (below_step bs_ hb); clear BK627 HB; have BK627 := n0_; have HB := n1_; clear n0_ n1_; (try clear hb); (try clear hb2); (try clear hk); (try clear hi)))
    go_meet
    case rel => exact ⟨_, (true), eq_, H', ⟨by first | omega | exact Nat.le_refl _⟩, ⟨bk_ BK627⟩, ⟨bs_⟩⟩
  ·replace c8 := Bool.eq_false_iff.mpr c8
   subst c8
   have H1 : (drydocklaw17_EpochOnce.j0 k a1 a2 false true a0_0 a0_1 a0_2 a0_3 a0_4 l0_5) = some r := by rw [if_neg (show ¬ (false = true) by decide)] at H; exact H
   clear H
   have H := H1
   clear H1
   have H' := Aside0.mk H
   clear H
   go_wp2
   go_meet
   case rel => exact ⟨_, (true), eq_, H', ⟨by first | omega | exact Nat.le_refl _⟩, ⟨bk_ BK627⟩, ⟨bs_⟩⟩
 case rest =>
  clear HC5
  obtain ⟨kq, x52_4, rfl, HA, HJ4, BK627, HB⟩ := hcut
  cases kq with
  | zero => exact absurd HA.out (by simp [drydocklaw17_EpochOnce.j0])
  | succ kj4 =>
   have H := HA.out
   clear HA
   simp only [drydocklaw17_EpochOnce.j0] at H
   by_cases c32 : x52_4 = true
   ·subst c32
    have H1 : (some t628) = some r := by rw [if_pos rfl] at H; exact H
    clear H
    have H := H1
    clear H1
    obtain rfl := Option.some.inj H
    go_wp2
    go_ret
    exact ⟨by first | rfl | (simp [errW_none, errW_some] <;> rfl) | (simp [*, errW_none, errW_some] <;> rfl), by repeat (first | (with_reducible first | exact HB.out | apply below_alloc | apply pw_below_drewN | apply below_drew1 | refine below_set ?_ GE627.out) | exact HB.out)⟩
   ·replace c32 := Bool.eq_false_iff.mpr c32
    subst c32
    have H1 : ((epoch_Enter.f kj4 a0_0 a0_1 a0_2 a0_3 a0_4 l0_5 a1).bind fun bt630 => ((epoch_Leave.f kj4 a0_0 a0_1 a0_2 a0_3 a0_4 l0_5 a1).bind fun bt640 => (if ((bt630.2.2.2.2.2.2 == 0) == (bt640.2.2.2.2.2.2 == 0)) = true then (drydocklaw17_EpochOnce.j1 kj4 a1 a2 bt630.2.2.2.2.2.2 true a0_0 a0_1 a0_2 a0_3 a0_4 l0_5 bt630.1 bt630.2.1 bt630.2.2.1 bt630.2.2.2.1 bt630.2.2.2.2.1 bt630.2.2.2.2.2.1) else (if bt630.2.2.2.2.2.2 = 0 then (drydocklaw17_EpochOnce.j1 kj4 a1 a2 bt630.2.2.2.2.2.2 false a0_0 a0_1 a0_2 a0_3 a0_4 l0_5 bt630.1 bt630.2.1 bt630.2.2.1 bt630.2.2.2.1 bt630.2.2.2.2.1 bt630.2.2.2.2.2.1) else (drydocklaw17_EpochOnce.j1 kj4 a1 a2 bt630.2.2.2.2.2.2 (bt630.2.2.2.2.2.2 != 11) a0_0 a0_1 a0_2 a0_3 a0_4 l0_5 bt630.1 bt630.2.1 bt630.2.2.1 bt630.2.2.2.1 bt630.2.2.2.2.1 bt630.2.2.2.2.2.1))))) = some r := by rw [if_neg (show ¬ (false = true) by decide)] at H; exact H
    clear H
    have H := H1
    clear H1
    replace H := Option.bind_eq_some_iff.mp H
    obtain ⟨⟨t630, t631, t632, t633, t634, t635, t638⟩, A330, H⟩ := H
    replace H : ((epoch_Leave.f kj4 a0_0 a0_1 a0_2 a0_3 a0_4 l0_5 a1).bind fun bt640 => (if ((t638 == 0) == (bt640.2.2.2.2.2.2 == 0)) = true then (drydocklaw17_EpochOnce.j1 kj4 a1 a2 t638 true a0_0 a0_1 a0_2 a0_3 a0_4 l0_5 t630 t631 t632 t633 t634 t635) else (if t638 = 0 then (drydocklaw17_EpochOnce.j1 kj4 a1 a2 t638 false a0_0 a0_1 a0_2 a0_3 a0_4 l0_5 t630 t631 t632 t633 t634 t635) else (drydocklaw17_EpochOnce.j1 kj4 a1 a2 t638 (t638 != 11) a0_0 a0_1 a0_2 a0_3 a0_4 l0_5 t630 t631 t632 t633 t634 t635)))) = some r := H
    have A33 := Aside0.mk A330
    clear A330
    replace H := Option.bind_eq_some_iff.mp H
    obtain ⟨⟨t640, t641, t642, t643, t644, t645, t648⟩, A340, H⟩ := H
    replace H : (if ((t638 == 0) == (t648 == 0)) = true then (drydocklaw17_EpochOnce.j1 kj4 a1 a2 t638 true a0_0 a0_1 a0_2 a0_3 a0_4 l0_5 t630 t631 t632 t633 t634 t635) else (if t638 = 0 then (drydocklaw17_EpochOnce.j1 kj4 a1 a2 t638 false a0_0 a0_1 a0_2 a0_3 a0_4 l0_5 t630 t631 t632 t633 t634 t635) else (drydocklaw17_EpochOnce.j1 kj4 a1 a2 t638 (t638 != 11) a0_0 a0_1 a0_2 a0_3 a0_4 l0_5 t630 t631 t632 t633 t634 t635))) = some r := H
    have A34 := Aside0.mk A340
    clear A340
    have HC35 := Aside0.mk H
    clear H
    obtain ⟨hcz36_0, hcz36_1, hcz36_2, hcz36_3, hcz36_4, hcz36_5, hfz36_0, hfz36_1, hfz36_2, hfz36_3, hfz36_4, hfz36_5⟩ := blk6 BK627
    go_upto_region 6 with (first | ((with_reducible refine gate_callee (f := 11) rfl ?_); refine goesL_ (some 57) rfl rfl Try.func11 (by kernel_rfl) rfl #[.agg #[.int .i64 a0_0, .int .i64 a0_1, .int .i64 a0_2, .int .i64 a0_3, .int .i64 a0_4, .slice A0_5 l0_5.length c0_5], .int .i64 a1] rfl (by (try simp only [List.map_toArray, List.map_cons, List.map_nil]); first | done | rfl | (simp only [List.length_drop, List.length_take]; rfl)) ?_; (with_reducible refine (epoch_Enter.calls kj4 a0_0 a0_1 a0_2 a0_3 a0_4 _ _ l0_5 a1 t630 t631 t632 t633 t634 t635 t638 _ ?side1 ?side2 A33.out).mono ?_); (case side1 => repeat (first | exact (Kd.C_below HR0_5.out HB.out) | (with_reducible refine Kd.C_alloc ?_ _) | (with_reducible refine Kd.C_drewN ?_ _) | (with_reducible refine Kd.C_drew ?_))); (case side2 => exact HC0_5.out); rintro e w37 ⟨v636, rfl, ho0, hb⟩; refine ⟨_, rfl, ?_⟩; have n0_ := Aside0.mk (Kd.R_lower ho0 (below_size bs_)); have n1_ := Aside0.mk (blk_below (bk_ BK627) hb); have n2_ := Aside0.mk (below_step bs_ hb); clear BK627 HB; have HO637 := n0_; have BK627 := n1_; have HB := n2_; clear n0_ n1_ n2_; (try clear hb); (try clear hb2); (try clear hk); (try clear hi); (try clear ho0); obtain ⟨Ao38, co38, eo38⟩ := Kd.R_slice HO637.out; subst eo38) | ((with_reducible refine gate_dst (N := 8) rfl ?_); (try (refine gate_guard (by rfl) ?_; dsimp only)); refine box_event ?hg (N := 8) ?hd (cs := #[.int .i64 0, .int .i64 0, .int .i64 0, .int .i64 0, .int .i64 0, .slice none 0 0]) (t := 25) ?hr ?_; (case hd => rfl); (case hg => rfl); (case hr => first | (go_simp; done) | (go_simp; rfl)); intro gb639 hg w39 hbox hb; have n0_ := Aside0.mk (Kd.R_below (rk_ HO637) hb); have n1_ := Aside0.mk (blk_below (bk_ BK627) hb); have n2_ := Aside0.mk (below_step bs_ hb); have n3_ := Aside0.mk (hbox); have n4_ := Aside0.mk ((by rw [hg]; exact (below_size bs_) : w.heap.size ≤ gb639)); have n5_ := Aside0.mk ((by rw [hg]; exact (below_size bs_) : w.heap.size ≤ gb639)); have n6_ := Aside0.mk ((by rw [hg]; exact Nat.ne_of_lt (blk_lt (bk_ BK627)) : gb627 ≠ gb639)); have n7_ := Aside0.mk ((by rw [hg]; exact Nat.ne_of_gt (blk_lt (bk_ BK627)) : gb639 ≠ gb627)); clear HO637 BK627 HB; have HO637 := n0_; have BK627 := n1_; have HB := n2_; have BK639 := n3_; have GW639 := n4_; have GE639 := n5_; have NB627_639 := n6_; have NB639_627 := n7_; clear n0_ n1_ n2_ n3_ n4_ n5_ n6_ n7_; clear hb hbox hg; have hnb40 := NB639_627.out; have hnc40 := NB627_639.out; obtain ⟨hcz41_0, hcz41_1, hcz41_2, hcz41_3, hcz41_4, hcz41_5, hfz41_0, hfz41_1, hfz41_2, hfz41_3, hfz41_4, hfz41_5⟩ := blk6 BK639; obtain ⟨hcz42_0, hcz42_1, hcz42_2, hcz42_3, hcz42_4, hcz42_5, hfz42_0, hfz42_1, hfz42_2, hfz42_3, hfz42_4, hfz42_5⟩ := blk6 BK627) | ((with_reducible refine gate_callee (f := 14) rfl ?_); refine goesL_ (some 63) rfl rfl Try.func14 (by kernel_rfl) rfl #[.agg #[.int .i64 a0_0, .int .i64 a0_1, .int .i64 a0_2, .int .i64 a0_3, .int .i64 a0_4, .slice A0_5 l0_5.length c0_5], .int .i64 a1] rfl (by (try simp only [List.map_toArray, List.map_cons, List.map_nil]); first | done | rfl | (simp only [List.length_drop, List.length_take]; rfl)) ?_; (with_reducible refine (epoch_Leave.calls kj4 a0_0 a0_1 a0_2 a0_3 a0_4 _ _ l0_5 a1 t640 t641 t642 t643 t644 t645 t648 _ ?side1 ?side2 A34.out).mono ?_); (case side1 => exact Kd.C_below HR0_5.out bs_); (case side2 => exact HC0_5.out); rintro e w43 ⟨v646, rfl, ho0, hb⟩; refine ⟨_, rfl, ?_⟩; have n0_ := Aside0.mk (Kd.R_elder' (by (with_reducible repeat (first | apply Kd.R_alloc | apply Kd.R_drewN | apply Kd.R_drew)); exact (Kd.R_mono (far6 gb639 (Kd.R_types HO637.out BK639.out (by decide)) (fun _ hk => hk.2)) (fun _ h_ => h_.1))) (Kd.R_base ho0) hb); have n1_ := Aside0.mk (Kd.R_lower (Kd.R_new' ho0 (Kd.R_lt (by (with_reducible repeat (first | apply Kd.R_alloc | apply Kd.R_drewN | apply Kd.R_drew)); exact (Kd.R_mono (far6 gb639 (Kd.R_types HO637.out BK639.out (by decide)) (fun _ hk => hk.2)) (fun _ h_ => h_.1))))) (below_size bs_)); have n2_ := Aside0.mk (blk_below (bf_ BK627) hb); have n3_ := Aside0.mk (blk_below (bp_ (o := .cells #[.int .i64 t630, .int .i64 t631, .int .i64 t632, .int .i64 t633, .int .i64 t634, .slice Ao38 t635.length co38] 25 (0, 0)) BK639) hb); have n4_ := Aside0.mk (below_step bs_ hb); clear HO637 BK627 BK639 HB; have HO637 := n0_; have HO647 := n1_; have BK627 := n2_; have BK639 := n3_; have HB := n4_; clear n0_ n1_ n2_ n3_ n4_; (try clear hb); (try clear hb2); (try clear hk); (try clear hi); (try clear ho0); obtain ⟨Ao44, co44, eo44⟩ := Kd.R_slice HO647.out; subst eo44) | ((with_reducible refine gate_dst (N := 10) rfl ?_); (try (refine gate_guard (by rfl) ?_; dsimp only)); refine box_event ?hg (N := 10) ?hd (cs := #[.int .i64 0, .int .i64 0, .int .i64 0, .int .i64 0, .int .i64 0, .slice none 0 0]) (t := 25) ?hr ?_; (case hd => rfl); (case hg => rfl); (case hr => first | (go_simp; done) | (go_simp; rfl)); intro gb649 hg w45 hbox hb; have n0_ := Aside0.mk (Kd.R_below (rk_ HO637) hb); have n1_ := Aside0.mk (Kd.R_below (rk_ HO647) hb); have n2_ := Aside0.mk (blk_below (bk_ BK627) hb); have n3_ := Aside0.mk (blk_below (bk_ BK639) hb); have n4_ := Aside0.mk (below_step bs_ hb); have n5_ := Aside0.mk (hbox); have n6_ := Aside0.mk ((by rw [hg]; exact (below_size bs_) : w.heap.size ≤ gb649)); have n7_ := Aside0.mk ((by rw [hg]; exact (below_size bs_) : w.heap.size ≤ gb649)); have n8_ := Aside0.mk ((by rw [hg]; exact Nat.ne_of_lt (blk_lt (bk_ BK627)) : gb627 ≠ gb649)); have n9_ := Aside0.mk ((by rw [hg]; exact Nat.ne_of_gt (blk_lt (bk_ BK627)) : gb649 ≠ gb627)); have n10_ := Aside0.mk ((by rw [hg]; exact Nat.ne_of_lt (blk_lt (bk_ BK639)) : gb639 ≠ gb649)); have n11_ := Aside0.mk ((by rw [hg]; exact Nat.ne_of_gt (blk_lt (bk_ BK639)) : gb649 ≠ gb639)); clear HO637 HO647 BK627 BK639 HB; have HO637 := n0_; have HO647 := n1_; have BK627 := n2_; have BK639 := n3_; have HB := n4_; have BK649 := n5_; have GW649 := n6_; have GE649 := n7_; have NB627_649 := n8_; have NB649_627 := n9_; have NB639_649 := n10_; have NB649_639 := n11_; clear n0_ n1_ n2_ n3_ n4_ n5_ n6_ n7_ n8_ n9_ n10_ n11_; clear hb hbox hg; have hnb46 := NB649_627.out; have hnc46 := NB627_649.out; have hnb47 := NB649_639.out; have hnc47 := NB639_649.out; obtain ⟨hcz48_0, hcz48_1, hcz48_2, hcz48_3, hcz48_4, hcz48_5, hfz48_0, hfz48_1, hfz48_2, hfz48_3, hfz48_4, hfz48_5⟩ := blk6 BK649))
    (try simp only [Act.put, List.setIfInBounds_toArray, List.set_cons_zero, List.set_cons_succ])
    go_cut [78] (fun v78 wc => ∃ (kq : Nat) (x78_34 : Bool), v78 = .bool x78_34 ∧ Aside0 (drydocklaw17_EpochOnce.j1 kq a1 a2 t638 x78_34 a0_0 a0_1 a0_2 a0_3 a0_4 l0_5 t630 t631 t632 t633 t634 t635 = some r) ∧ Aside0 (kq ≤ kj4) ∧ Aside0 (Kd.R k43 43 wc w.heap.size (fun k_ => some k_ ≠ ((.slice Ao44 t645.length co44) : Value).ownBlock) (.slice Ao38 t635.length co38) t635) ∧ Aside0 (Kd.R k43 43 wc w.heap.size (fun k_ => some k_ ≠ ((.slice Ao38 t635.length co38) : Value).ownBlock) (.slice Ao44 t645.length co44) t645) ∧ Aside0 (wc.heap[gb627]? = some (.cells #[.int .i64 a0_0, .int .i64 a0_1, .int .i64 a0_2, .int .i64 a0_3, .int .i64 a0_4, (.slice A0_5 l0_5.length c0_5)] 25 (0, 0))) ∧ Aside0 (wc.heap[gb639]? = some (.cells #[.int .i64 t630, .int .i64 t631, .int .i64 t632, .int .i64 t633, .int .i64 t634, (.slice Ao38 t635.length co38)] 25 (0, 0))) ∧ Aside0 (wc.heap[gb649]? = some (.cells #[.int .i64 t640, .int .i64 t641, .int .i64 t642, .int .i64 t643, .int .i64 t644, (.slice Ao44 t645.length co44)] 25 (0, 0))) ∧ Aside0 (Below w.heap.size w wc))
    case first =>
     have H := HC35.out
     clear HC35
     by_cases c49 : ((t638 == 0) == (t648 == 0)) = true
     ·rw [if_pos c49] at H
      have c49b0 : ((t638 == 0) == (t648 == 0)) = true := c49
      (try (have c49b1 : decide ((t638 == 0) = (t648 == 0)) = true := by simpa using c49))
      (try (have c49b2 : ((t638 == 0) == (t648 == 0)) = true := by simpa using c49))
      clear c49
      (first | rw [c49b0] | (simp only [i64_w, i32_w]; rw [c49b0]) | skip)
      have H' := Aside0.mk H
      clear H
      go_wp2
      go_meet
      case rel => exact ⟨_, (true), eq_, H', ⟨by have := HJ4.out; first | omega | exact Nat.le_refl _⟩, ⟨by (with_reducible repeat (first | apply Kd.R_alloc | apply Kd.R_drewN | apply Kd.R_drew)); exact Kd.R_mono (far6 gb649 (Kd.R_types HO637.out BK649.out (by decide)) (fun _ hk => hk.2)) (fun _ hk => hk.1.2)⟩, ⟨by (with_reducible repeat (first | apply Kd.R_alloc | apply Kd.R_drewN | apply Kd.R_drew)); exact Kd.R_mono (far6 gb649 (Kd.R_types HO647.out BK649.out (by decide)) (fun _ hk => hk.2)) (fun _ hk => hk.1.2)⟩, ⟨bf_ BK627⟩, ⟨bf_ BK639⟩, ⟨bp_ BK649⟩, ⟨bs_⟩⟩
     ·rw [if_neg c49] at H
      have c49b0 : ((t638 == 0) == (t648 == 0)) = false := by simpa using c49
      (try (have c49b1 : decide ((t638 == 0) = (t648 == 0)) = false := by simpa using c49))
      (try (have c49b2 : ((t638 == 0) == (t648 == 0)) = false := by simpa using c49))
      (try (have c49b3 : ¬ ((t638 == 0) = (t648 == 0)) := by simpa using c49))
      clear c49
      (first | rw [c49b0] | (simp only [i64_w, i32_w]; rw [c49b0]) | skip)
      by_cases c50 : t638 = 0
      ·rw [if_pos c50] at H
       have c50b0 : (t638 == 0) = true := beq_iff_eq.mpr c50
       have once_ : (t648 == 0) = false := by rw [c50b0] at c49b0; simpa using c49b0
       have c50b1 : (t638 != 0) = false := bne_eq_false_iff_eq.mpr c50
       clear c50
       have H' := Aside0.mk H
       clear H
       go_wp2
       go_meet
       case rel => exact ⟨_, (false), eq_, H', ⟨by have := HJ4.out; first | omega | exact Nat.le_refl _⟩, ⟨by (with_reducible repeat (first | apply Kd.R_alloc | apply Kd.R_drewN | apply Kd.R_drew)); exact Kd.R_mono (far6 gb649 (Kd.R_types HO637.out BK649.out (by decide)) (fun _ hk => hk.2)) (fun _ hk => hk.1.2)⟩, ⟨by (with_reducible repeat (first | apply Kd.R_alloc | apply Kd.R_drewN | apply Kd.R_drew)); exact Kd.R_mono (far6 gb649 (Kd.R_types HO647.out BK649.out (by decide)) (fun _ hk => hk.2)) (fun _ hk => hk.1.2)⟩, ⟨bf_ BK627⟩, ⟨bf_ BK639⟩, ⟨bp_ BK649⟩, ⟨bs_⟩⟩
      ·rw [if_neg c50] at H
       have c50b0 : (t638 == 0) = false := beq_eq_false_iff_ne.mpr c50
       have once_ : (t648 == 0) = true := by rw [c50b0] at c49b0; simpa using c49b0
       have c50b1 : (t638 != 0) = true := bne_iff_ne.mpr c50
       have H' := Aside0.mk H
       clear H
       go_wp2
       go_meet
       case rel => exact ⟨_, ((t638 != 11)), eq_, H', ⟨by have := HJ4.out; first | omega | exact Nat.le_refl _⟩, ⟨by (with_reducible repeat (first | apply Kd.R_alloc | apply Kd.R_drewN | apply Kd.R_drew)); exact Kd.R_mono (far6 gb649 (Kd.R_types HO637.out BK649.out (by decide)) (fun _ hk => hk.2)) (fun _ hk => hk.1.2)⟩, ⟨by (with_reducible repeat (first | apply Kd.R_alloc | apply Kd.R_drewN | apply Kd.R_drew)); exact Kd.R_mono (far6 gb649 (Kd.R_types HO647.out BK649.out (by decide)) (fun _ hk => hk.2)) (fun _ hk => hk.1.2)⟩, ⟨bf_ BK627⟩, ⟨bf_ BK639⟩, ⟨bp_ BK649⟩, ⟨bs_⟩⟩
    case rest =>
     clear HC35
     try clear c32
     obtain ⟨kq, x78_34, rfl, HA, HJ34, HO_640005, HO_650005, BK627, BK639, BK649, HB⟩ := hcut
     cases kq with
     | zero => exact absurd HA.out (by simp [drydocklaw17_EpochOnce.j1])
     | succ kj34 =>
      have H := HA.out
      clear HA
      simp only [drydocklaw17_EpochOnce.j1] at H
      by_cases c51 : x78_34 = true
      ·subst c51
       have H1 : (none) = some r := by rw [if_pos rfl] at H; exact H
       clear H
       have H := H1
       clear H1
       exact absurd H (by simp)
      ·replace c51 := Bool.eq_false_iff.mpr c51
       subst c51
       have H1 : (if t638 = 0 then ((epoch_Enter.f kj34 t630 t631 t632 t633 t634 t635 a1).bind fun bt650 => (if bt650.2.2.2.2.2.2 = 11 then (drydocklaw17_EpochOnce.j2 kj34 a2 a0_0 a0_1 a0_2 a0_3 a0_4 l0_5) else (none))) else (drydocklaw17_EpochOnce.j2 kj34 a2 a0_0 a0_1 a0_2 a0_3 a0_4 l0_5)) = some r := by rw [if_neg (show ¬ (false = true) by decide)] at H; exact H
       clear H
       have H := H1
       clear H1
       have HC52 := Aside0.mk H
       clear H
       go_upto_if 80 with (fail)
       go_cut [] (fun wc => ∃ (kq : Nat), Aside0 (drydocklaw17_EpochOnce.j2 kq a2 a0_0 a0_1 a0_2 a0_3 a0_4 l0_5 = some r) ∧ Aside0 (kq ≤ kj34) ∧ Aside0 (Kd.R k43 43 wc w.heap.size (fun k_ => some k_ ≠ ((.slice Ao44 t645.length co44) : Value).ownBlock) (.slice Ao38 t635.length co38) t635) ∧ Aside0 (Kd.R k43 43 wc w.heap.size (fun k_ => some k_ ≠ ((.slice Ao38 t635.length co38) : Value).ownBlock) (.slice Ao44 t645.length co44) t645) ∧ Aside0 (wc.heap[gb627]? = some (.cells #[.int .i64 a0_0, .int .i64 a0_1, .int .i64 a0_2, .int .i64 a0_3, .int .i64 a0_4, (.slice A0_5 l0_5.length c0_5)] 25 (0, 0))) ∧ Aside0 (wc.heap[gb639]? = some (.cells #[.int .i64 t630, .int .i64 t631, .int .i64 t632, .int .i64 t633, .int .i64 t634, (.slice Ao38 t635.length co38)] 25 (0, 0))) ∧ Aside0 (wc.heap[gb649]? = some (.cells #[.int .i64 t640, .int .i64 t641, .int .i64 t642, .int .i64 t643, .int .i64 t644, (.slice Ao44 t645.length co44)] 25 (0, 0))) ∧ Aside0 (Below w.heap.size w wc))
       case first =>
        have H := HC52.out
        clear HC52
        by_cases c53 : t638 = 0
        ·rw [if_pos c53] at H
         have c53b0 : (t638 == 0) = true := beq_iff_eq.mpr c53
         have c53b1 : (t638 != 0) = false := bne_eq_false_iff_eq.mpr c53
         clear c53
         (first | rw [c53b0] | (simp only [i64_w, i32_w]; rw [c53b0]) | skip)
         replace H := Option.bind_eq_some_iff.mp H
         obtain ⟨⟨t650, t651, t652, t653, t654, t655, t658⟩, A540, H⟩ := H
         replace H : (if t658 = 11 then (drydocklaw17_EpochOnce.j2 kj34 a2 a0_0 a0_1 a0_2 a0_3 a0_4 l0_5) else (none)) = some r := H
         have A54 := Aside0.mk A540
         clear A540
         by_cases c55 : t658 = 11
         ·rw [if_pos c55] at H
          have c55b0 : (t658 == 11) = true := beq_iff_eq.mpr c55
          have c55b1 : (t658 != 11) = false := bne_eq_false_iff_eq.mpr c55
          clear c55
          have H' := Aside0.mk H
          clear H
          have hnb56 := NB639_627.out
          have hnc56 := NB627_639.out
          have hnb57 := NB639_649.out
          have hnc57 := NB649_639.out
          obtain ⟨hcz58_0, hcz58_1, hcz58_2, hcz58_3, hcz58_4, hcz58_5, hfz58_0, hfz58_1, hfz58_2, hfz58_3, hfz58_4, hfz58_5⟩ := blk6 BK639
          go_wp2_with (first | ((with_reducible refine gate_callee (f := 11) rfl ?_); refine goesL_ (some 84) rfl rfl Try.func11 (by kernel_rfl) rfl #[.agg #[.int .i64 t630, .int .i64 t631, .int .i64 t632, .int .i64 t633, .int .i64 t634, .slice Ao38 t635.length co38], .int .i64 a1] rfl (by (try simp only [List.map_toArray, List.map_cons, List.map_nil]); first | done | rfl | (simp only [List.length_drop, List.length_take]; rfl)) ?_; (with_reducible refine (epoch_Enter.calls kj34 t630 t631 t632 t633 t634 _ _ t635 a1 t650 t651 t652 t653 t654 t655 t658 _ ?side1 ?side2 A54.out).mono ?_); (case side1 => repeat (first | exact (Kd.R_reads' HO_640005.out).2.2 | (with_reducible refine Kd.C_alloc ?_ _) | (with_reducible refine Kd.C_drewN ?_ _) | (with_reducible refine Kd.C_drew ?_))); (case side2 => exact (Kd.R_reads' HO_640005.out).2.1); rintro e w59 ⟨v656, rfl, ho0, hb⟩; refine ⟨_, rfl, ?_⟩; have n0_ := Aside0.mk (Kd.R_elder' (rk_ HO_640005) (Kd.R_base ho0) hb); have n1_ := Aside0.mk (Kd.R_elder' (rk_ HO_650005) (Kd.R_base ho0) hb); have n2_ := Aside0.mk (Kd.R_lower (Kd.R_new' (Kd.R_new' ho0 (Kd.R_lt (rk_ HO_640005))) (Kd.R_lt (rk_ HO_650005))) (below_size bs_)); have n3_ := Aside0.mk (blk_below (bk_ BK627) hb); have n4_ := Aside0.mk (blk_below (bk_ BK639) hb); have n5_ := Aside0.mk (blk_below (bk_ BK649) hb); have n6_ := Aside0.mk (below_step bs_ hb); clear HO_640005 HO_650005 BK627 BK639 BK649 HB; have HO_640005 := n0_; have HO_650005 := n1_; have HO657 := n2_; have BK627 := n3_; have BK639 := n4_; have BK649 := n5_; have HB := n6_; clear n0_ n1_ n2_ n3_ n4_ n5_ n6_; (try clear hb); (try clear hb2); (try clear hk); (try clear hi); (try clear ho0); obtain ⟨Ao60, co60, eo60⟩ := Kd.R_slice HO657.out; subst eo60) | ((with_reducible refine gate_dst (N := 12) rfl ?_); (try (refine gate_guard (by rfl) ?_; dsimp only)); refine box_event ?hg (N := 12) ?hd (cs := #[.int .i64 0, .int .i64 0, .int .i64 0, .int .i64 0, .int .i64 0, .slice none 0 0]) (t := 25) ?hr ?_; (case hd => rfl); (case hg => rfl); (case hr => first | (go_simp; done) | (go_simp; rfl)); intro gb659 hg w61 hbox hb; have n0_ := Aside0.mk (Kd.R_below (rk_ HO_640005) hb); have n1_ := Aside0.mk (Kd.R_below (rk_ HO_650005) hb); have n2_ := Aside0.mk (Kd.R_below (rk_ HO657) hb); have n3_ := Aside0.mk (blk_below (bk_ BK627) hb); have n4_ := Aside0.mk (blk_below (bk_ BK639) hb); have n5_ := Aside0.mk (blk_below (bk_ BK649) hb); have n6_ := Aside0.mk (below_step bs_ hb); have n7_ := Aside0.mk (hbox); have n8_ := Aside0.mk ((by rw [hg]; exact (below_size bs_) : w.heap.size ≤ gb659)); have n9_ := Aside0.mk ((by rw [hg]; exact (below_size bs_) : w.heap.size ≤ gb659)); have n10_ := Aside0.mk ((by rw [hg]; exact Nat.ne_of_lt (blk_lt (bk_ BK627)) : gb627 ≠ gb659)); have n11_ := Aside0.mk ((by rw [hg]; exact Nat.ne_of_gt (blk_lt (bk_ BK627)) : gb659 ≠ gb627)); have n12_ := Aside0.mk ((by rw [hg]; exact Nat.ne_of_lt (blk_lt (bk_ BK639)) : gb639 ≠ gb659)); have n13_ := Aside0.mk ((by rw [hg]; exact Nat.ne_of_gt (blk_lt (bk_ BK639)) : gb659 ≠ gb639)); have n14_ := Aside0.mk ((by rw [hg]; exact Nat.ne_of_lt (blk_lt (bk_ BK649)) : gb649 ≠ gb659)); have n15_ := Aside0.mk ((by rw [hg]; exact Nat.ne_of_gt (blk_lt (bk_ BK649)) : gb659 ≠ gb649)); clear HO_640005 HO_650005 HO657 BK627 BK639 BK649 HB; have HO_640005 := n0_; have HO_650005 := n1_; have HO657 := n2_; have BK627 := n3_; have BK639 := n4_; have BK649 := n5_; have HB := n6_; have BK659 := n7_; have GW659 := n8_; have GE659 := n9_; have NB627_659 := n10_; have NB659_627 := n11_; have NB639_659 := n12_; have NB659_639 := n13_; have NB649_659 := n14_; have NB659_649 := n15_; clear n0_ n1_ n2_ n3_ n4_ n5_ n6_ n7_ n8_ n9_ n10_ n11_ n12_ n13_ n14_ n15_; clear hb hbox hg; have hnb62 := NB659_627.out; have hnc62 := NB627_659.out; have hnb63 := NB659_639.out; have hnc63 := NB639_659.out; have hnb64 := NB659_649.out; have hnc64 := NB649_659.out; obtain ⟨hcz65_0, hcz65_1, hcz65_2, hcz65_3, hcz65_4, hcz65_5, hfz65_0, hfz65_1, hfz65_2, hfz65_3, hfz65_4, hfz65_5⟩ := blk6 BK659))
          go_meet
          case rel => exact ⟨_, H', ⟨by have := HJ4.out; have := HJ34.out; first | omega | exact Nat.le_refl _⟩, ⟨by (with_reducible repeat (first | apply Kd.R_alloc | apply Kd.R_drewN | apply Kd.R_drew)); exact Kd.R_mono (far6 gb659 (Kd.R_types HO_640005.out BK659.out (by decide)) (fun _ hk => hk.2)) (fun _ hk => hk.1.1)⟩, ⟨by (with_reducible repeat (first | apply Kd.R_alloc | apply Kd.R_drewN | apply Kd.R_drew)); exact Kd.R_mono (far6 gb659 (Kd.R_types HO_650005.out BK659.out (by decide)) (fun _ hk => hk.2)) (fun _ hk => hk.1.1)⟩, ⟨bf_ BK627⟩, ⟨bf_ BK639⟩, ⟨bf_ BK649⟩, ⟨bs_⟩⟩
         ·rw [if_neg c55] at H
          exact absurd H (by simp)
        ·rw [if_neg c53] at H
         have c53b0 : (t638 == 0) = false := beq_eq_false_iff_ne.mpr c53
         have c53b1 : (t638 != 0) = true := bne_iff_ne.mpr c53
         (first | rw [c53b0] | (simp only [i64_w, i32_w]; rw [c53b0]) | skip)
         have H' := Aside0.mk H
         clear H
         go_wp2
         go_meet
         case rel => exact ⟨_, H', ⟨by have := HJ4.out; have := HJ34.out; first | omega | exact Nat.le_refl _⟩, ⟨by (with_reducible repeat (first | apply Kd.R_alloc | apply Kd.R_drewN | apply Kd.R_drew)); exact HO_640005.out⟩, ⟨by (with_reducible repeat (first | apply Kd.R_alloc | apply Kd.R_drewN | apply Kd.R_drew)); exact HO_650005.out⟩, ⟨bk_ BK627⟩, ⟨bk_ BK639⟩, ⟨bk_ BK649⟩, ⟨bs_⟩⟩
       case rest =>
        clear HC52
        try clear c32
        try clear c51
        obtain ⟨kq, HA, HJ51, HO_640005, HO_650005, BK627, BK639, BK649, HB⟩ := hcut
        cases kq with
        | zero => exact absurd HA.out (by simp [drydocklaw17_EpochOnce.j2])
        | succ kj51 =>
         have H := HA.out
         clear HA
         simp only [drydocklaw17_EpochOnce.j2] at H
         replace H := Option.bind_eq_some_iff.mp H
         obtain ⟨⟨t660, t661, t662, t663, t664, t665, t668⟩, A660, H⟩ := H
         replace H : (if t668 = 0 then ((epoch_Retire.f kj51 t660 t661 t662 t663 t664 t665 a2).bind fun bt670 => ((epoch_Clear.f kj51 t660 t661 t662 t663 t664 t665).bind fun bt680 => ((epoch_Retire.f kj51 bt680.1 bt680.2.1 bt680.2.2.1 bt680.2.2.2.1 bt680.2.2.2.2.1 bt680.2.2.2.2.2.1 a2).bind fun bt692 => (if bt670.2.2.2.2.2.2 = 1 then (some (bt692.2.2.2.2.2.2 == 0)) else (none))))) else (some (t668 == 1))) = some r := H
         have A66 := Aside0.mk A660
         clear A660
         by_cases c67 : t668 = 0
         ·rw [if_pos c67] at H
          have c67b0 : (t668 == 0) = true := beq_iff_eq.mpr c67
          have c67b1 : (t668 != 0) = false := bne_eq_false_iff_eq.mpr c67
          clear c67
          replace H := Option.bind_eq_some_iff.mp H
          obtain ⟨⟨t670, t671, t672, t673, t674, t675, t678⟩, A680, H⟩ := H
          replace H : ((epoch_Clear.f kj51 t660 t661 t662 t663 t664 t665).bind fun bt680 => ((epoch_Retire.f kj51 bt680.1 bt680.2.1 bt680.2.2.1 bt680.2.2.2.1 bt680.2.2.2.2.1 bt680.2.2.2.2.2.1 a2).bind fun bt692 => (if t678 = 1 then (some (bt692.2.2.2.2.2.2 == 0)) else (none)))) = some r := H
          have A68 := Aside0.mk A680
          clear A680
          replace H := Option.bind_eq_some_iff.mp H
          obtain ⟨⟨t680, t681, t682, t683, t684, t685, t688⟩, A690, H⟩ := H
          replace H : ((epoch_Retire.f kj51 t680 t681 t682 t683 t684 t685 a2).bind fun bt692 => (if t678 = 1 then (some (bt692.2.2.2.2.2.2 == 0)) else (none))) = some r := H
          have A69 := Aside0.mk A690
          clear A690
          replace H := Option.bind_eq_some_iff.mp H
          obtain ⟨⟨t692, t693, t694, t695, t696, t697, t700⟩, A700, H⟩ := H
          replace H : (if t678 = 1 then (some (t700 == 0)) else (none)) = some r := H
          have A70 := Aside0.mk A700
          clear A700
          by_cases c71 : t678 = 1
          ·rw [if_pos c71] at H
           have c71b0 : (t678 == 1) = true := beq_iff_eq.mpr c71
           have c71b1 : (t678 != 1) = false := bne_eq_false_iff_eq.mpr c71
           clear c71
           obtain rfl := Option.some.inj H
           have hnb72 := NB627_639.out
           have hnc72 := NB639_627.out
           have hnb73 := NB627_649.out
           have hnc73 := NB649_627.out
           obtain ⟨hcz74_0, hcz74_1, hcz74_2, hcz74_3, hcz74_4, hcz74_5, hfz74_0, hfz74_1, hfz74_2, hfz74_3, hfz74_4, hfz74_5⟩ := blk6 BK627
           go_wp2_with (first | ((with_reducible refine gate_callee (f := 16) rfl ?_); refine goesL_ (some 94) rfl rfl Try.func16 (by kernel_rfl) rfl #[.agg #[.int .i64 a0_0, .int .i64 0, .int .i64 0, .int .i64 0, .int .i64 0, .slice A0_5 l0_5.length c0_5], .int .i64 a2] rfl (by (try simp only [List.map_toArray, List.map_cons, List.map_nil]); first | done | rfl | (simp only [List.length_drop, List.length_take]; rfl)) ?_; (with_reducible refine (epoch_Retire.calls kj51 a0_0 0 0 0 0 _ _ l0_5 a2 t660 t661 t662 t663 t664 t665 t668 _ ?side1 ?side2 A66.out).mono ?_); (case side1 => exact Kd.C_below HR0_5.out bs_); (case side2 => exact HC0_5.out); rintro e w75 ⟨v666, rfl, ho0, hb⟩; refine ⟨_, rfl, ?_⟩; have n0_ := Aside0.mk (Kd.R_elder' (by (with_reducible repeat (first | apply Kd.R_alloc | apply Kd.R_drewN | apply Kd.R_drew)); exact (Kd.R_mono (Kd.R_far (p := ⟨gb627, 4, none⟩) (Kd.R_far (p := ⟨gb627, 3, none⟩) (Kd.R_far (p := ⟨gb627, 2, none⟩) (Kd.R_far (p := ⟨gb627, 1, none⟩) (Kd.R_types HO_640005.out BK627.out (by decide)) (fun _ hk => hk.2) (.int .i64 0)) (fun _ hk => hk.2) (.int .i64 0)) (fun _ hk => hk.2) (.int .i64 0)) (fun _ hk => hk.2) (.int .i64 0)) (fun _ h_ => h_.1))) (Kd.R_base ho0) hb); have n1_ := Aside0.mk (Kd.R_elder' (by (with_reducible repeat (first | apply Kd.R_alloc | apply Kd.R_drewN | apply Kd.R_drew)); exact (Kd.R_mono (Kd.R_far (p := ⟨gb627, 4, none⟩) (Kd.R_far (p := ⟨gb627, 3, none⟩) (Kd.R_far (p := ⟨gb627, 2, none⟩) (Kd.R_far (p := ⟨gb627, 1, none⟩) (Kd.R_types HO_650005.out BK627.out (by decide)) (fun _ hk => hk.2) (.int .i64 0)) (fun _ hk => hk.2) (.int .i64 0)) (fun _ hk => hk.2) (.int .i64 0)) (fun _ hk => hk.2) (.int .i64 0)) (fun _ h_ => h_.1))) (Kd.R_base ho0) hb); have n2_ := Aside0.mk (Kd.R_lower (Kd.R_new' (Kd.R_new' ho0 (Kd.R_lt (by (with_reducible repeat (first | apply Kd.R_alloc | apply Kd.R_drewN | apply Kd.R_drew)); exact (Kd.R_mono (Kd.R_far (p := ⟨gb627, 4, none⟩) (Kd.R_far (p := ⟨gb627, 3, none⟩) (Kd.R_far (p := ⟨gb627, 2, none⟩) (Kd.R_far (p := ⟨gb627, 1, none⟩) (Kd.R_types HO_640005.out BK627.out (by decide)) (fun _ hk => hk.2) (.int .i64 0)) (fun _ hk => hk.2) (.int .i64 0)) (fun _ hk => hk.2) (.int .i64 0)) (fun _ hk => hk.2) (.int .i64 0)) (fun _ h_ => h_.1))))) (Kd.R_lt (by (with_reducible repeat (first | apply Kd.R_alloc | apply Kd.R_drewN | apply Kd.R_drew)); exact (Kd.R_mono (Kd.R_far (p := ⟨gb627, 4, none⟩) (Kd.R_far (p := ⟨gb627, 3, none⟩) (Kd.R_far (p := ⟨gb627, 2, none⟩) (Kd.R_far (p := ⟨gb627, 1, none⟩) (Kd.R_types HO_650005.out BK627.out (by decide)) (fun _ hk => hk.2) (.int .i64 0)) (fun _ hk => hk.2) (.int .i64 0)) (fun _ hk => hk.2) (.int .i64 0)) (fun _ hk => hk.2) (.int .i64 0)) (fun _ h_ => h_.1))))) (below_size bs_)); have n3_ := Aside0.mk (blk_below (bp_ (o := .cells #[.int .i64 a0_0, .int .i64 0, .int .i64 0, .int .i64 0, .int .i64 0, .slice A0_5 l0_5.length c0_5] 25 (0, 0)) BK627) hb); have n4_ := Aside0.mk (blk_below (bf_ BK639) hb); have n5_ := Aside0.mk (blk_below (bf_ BK649) hb); have n6_ := Aside0.mk (below_step bs_ hb); clear HO_640005 HO_650005 BK627 BK639 BK649 HB; have HO_640005 := n0_; have HO_650005 := n1_; have HO667 := n2_; have BK627 := n3_; have BK639 := n4_; have BK649 := n5_; have HB := n6_; clear n0_ n1_ n2_ n3_ n4_ n5_ n6_; (try clear hb); (try clear hb2); (try clear hk); (try clear hi); (try clear ho0); obtain ⟨Ao76, co76, eo76⟩ := Kd.R_slice HO667.out; subst eo76) | ((with_reducible refine gate_dst (N := 14) rfl ?_); (try (refine gate_guard (by rfl) ?_; dsimp only)); refine box_event ?hg (N := 14) ?hd (cs := #[.int .i64 0, .int .i64 0, .int .i64 0, .int .i64 0, .int .i64 0, .slice none 0 0]) (t := 25) ?hr ?_; (case hd => rfl); (case hg => rfl); (case hr => first | (go_simp; done) | (go_simp; rfl)); intro gb669 hg w77 hbox hb; have n0_ := Aside0.mk (Kd.R_below (rk_ HO_640005) hb); have n1_ := Aside0.mk (Kd.R_below (rk_ HO_650005) hb); have n2_ := Aside0.mk (Kd.R_below (rk_ HO667) hb); have n3_ := Aside0.mk (blk_below (bk_ BK627) hb); have n4_ := Aside0.mk (blk_below (bk_ BK639) hb); have n5_ := Aside0.mk (blk_below (bk_ BK649) hb); have n6_ := Aside0.mk (below_step bs_ hb); have n7_ := Aside0.mk (hbox); have n8_ := Aside0.mk ((by rw [hg]; exact (below_size bs_) : w.heap.size ≤ gb669)); have n9_ := Aside0.mk ((by rw [hg]; exact (below_size bs_) : w.heap.size ≤ gb669)); have n10_ := Aside0.mk ((by rw [hg]; exact Nat.ne_of_lt (blk_lt (bk_ BK627)) : gb627 ≠ gb669)); have n11_ := Aside0.mk ((by rw [hg]; exact Nat.ne_of_gt (blk_lt (bk_ BK627)) : gb669 ≠ gb627)); have n12_ := Aside0.mk ((by rw [hg]; exact Nat.ne_of_lt (blk_lt (bk_ BK639)) : gb639 ≠ gb669)); have n13_ := Aside0.mk ((by rw [hg]; exact Nat.ne_of_gt (blk_lt (bk_ BK639)) : gb669 ≠ gb639)); have n14_ := Aside0.mk ((by rw [hg]; exact Nat.ne_of_lt (blk_lt (bk_ BK649)) : gb649 ≠ gb669)); have n15_ := Aside0.mk ((by rw [hg]; exact Nat.ne_of_gt (blk_lt (bk_ BK649)) : gb669 ≠ gb649)); clear HO_640005 HO_650005 HO667 BK627 BK639 BK649 HB; have HO_640005 := n0_; have HO_650005 := n1_; have HO667 := n2_; have BK627 := n3_; have BK639 := n4_; have BK649 := n5_; have HB := n6_; have BK669 := n7_; have GW669 := n8_; have GE669 := n9_; have NB627_669 := n10_; have NB669_627 := n11_; have NB639_669 := n12_; have NB669_639 := n13_; have NB649_669 := n14_; have NB669_649 := n15_; clear n0_ n1_ n2_ n3_ n4_ n5_ n6_ n7_ n8_ n9_ n10_ n11_ n12_ n13_ n14_ n15_; clear hb hbox hg; have hnb78 := NB669_627.out; have hnc78 := NB627_669.out; have hnb79 := NB669_639.out; have hnc79 := NB639_669.out; have hnb80 := NB669_649.out; have hnc80 := NB649_669.out; obtain ⟨hcz81_0, hcz81_1, hcz81_2, hcz81_3, hcz81_4, hcz81_5, hfz81_0, hfz81_1, hfz81_2, hfz81_3, hfz81_4, hfz81_5⟩ := blk6 BK669) | ((with_reducible refine gate_callee (f := 16) rfl ?_); refine goesL_ (some 104) rfl rfl Try.func16 (by kernel_rfl) rfl #[.agg #[.int .i64 t660, .int .i64 t661, .int .i64 t662, .int .i64 t663, .int .i64 t664, .slice Ao76 t665.length co76], .int .i64 a2] rfl (by (try simp only [List.map_toArray, List.map_cons, List.map_nil]); first | done | rfl | (simp only [List.length_drop, List.length_take]; rfl)) ?_; (with_reducible refine (epoch_Retire.calls kj51 t660 t661 t662 t663 t664 _ _ t665 a2 t670 t671 t672 t673 t674 t675 t678 _ ?side1 ?side2 A68.out).mono ?_); (case side1 => refine (Kd.R_reads' (e := 43) (base := w.heap.size) (ok := fun k_ => ((True ∧ some k_ ≠ (.slice Ao38 t635.length co38 : Value).ownBlock) ∧ some k_ ≠ (.slice Ao44 t645.length co44 : Value).ownBlock)) (n := t665.length) (c := co76) ?_).2.2; exact (by (with_reducible repeat (first | apply Kd.R_alloc | apply Kd.R_drewN | apply Kd.R_drew)); exact (Kd.R_mono (far6 gb669 (Kd.R_types HO667.out BK669.out (by decide)) (fun _ hk => hk.2)) (fun _ h_ => h_.1)))); (case side2 => exact (Kd.R_reads' HO667.out).2.1); rintro e w82 ⟨v676, rfl, ho0, hb⟩; refine ⟨_, rfl, ?_⟩; have n0_ := Aside0.mk (Kd.R_elder' (by (with_reducible repeat (first | apply Kd.R_alloc | apply Kd.R_drewN | apply Kd.R_drew)); exact (Kd.R_mono (far6 gb669 (Kd.R_types HO_640005.out BK669.out (by decide)) (fun _ hk => hk.2)) (fun _ h_ => h_.1))) (Kd.R_base ho0) hb); have n1_ := Aside0.mk (Kd.R_elder' (by (with_reducible repeat (first | apply Kd.R_alloc | apply Kd.R_drewN | apply Kd.R_drew)); exact (Kd.R_mono (far6 gb669 (Kd.R_types HO_650005.out BK669.out (by decide)) (fun _ hk => hk.2)) (fun _ h_ => h_.1))) (Kd.R_base ho0) hb); have n2_ := Aside0.mk (Kd.R_elder' (by (with_reducible repeat (first | apply Kd.R_alloc | apply Kd.R_drewN | apply Kd.R_drew)); exact (Kd.R_mono (far6 gb669 (Kd.R_types HO667.out BK669.out (by decide)) (fun _ hk => hk.2)) (fun _ h_ => h_.1))) (Kd.R_base ho0) hb); have n3_ := Aside0.mk (Kd.R_lower (Kd.R_new' (Kd.R_new' (Kd.R_new' ho0 (Kd.R_lt (by (with_reducible repeat (first | apply Kd.R_alloc | apply Kd.R_drewN | apply Kd.R_drew)); exact (Kd.R_mono (far6 gb669 (Kd.R_types HO_640005.out BK669.out (by decide)) (fun _ hk => hk.2)) (fun _ h_ => h_.1))))) (Kd.R_lt (by (with_reducible repeat (first | apply Kd.R_alloc | apply Kd.R_drewN | apply Kd.R_drew)); exact (Kd.R_mono (far6 gb669 (Kd.R_types HO_650005.out BK669.out (by decide)) (fun _ hk => hk.2)) (fun _ h_ => h_.1))))) (Kd.R_lt (by (with_reducible repeat (first | apply Kd.R_alloc | apply Kd.R_drewN | apply Kd.R_drew)); exact (Kd.R_mono (far6 gb669 (Kd.R_types HO667.out BK669.out (by decide)) (fun _ hk => hk.2)) (fun _ h_ => h_.1))))) (below_size bs_)); have n4_ := Aside0.mk (blk_below (bf_ BK627) hb); have n5_ := Aside0.mk (blk_below (bf_ BK639) hb); have n6_ := Aside0.mk (blk_below (bf_ BK649) hb); have n7_ := Aside0.mk (blk_below (bp_ (o := .cells #[.int .i64 t660, .int .i64 t661, .int .i64 t662, .int .i64 t663, .int .i64 t664, .slice Ao76 t665.length co76] 25 (0, 0)) BK669) hb); have n8_ := Aside0.mk (below_step bs_ hb); clear HO_640005 HO_650005 HO667 BK627 BK639 BK649 BK669 HB; have HO_640005 := n0_; have HO_650005 := n1_; have HO667 := n2_; have HO677 := n3_; have BK627 := n4_; have BK639 := n5_; have BK649 := n6_; have BK669 := n7_; have HB := n8_; clear n0_ n1_ n2_ n3_ n4_ n5_ n6_ n7_ n8_; (try clear hb); (try clear hb2); (try clear hk); (try clear hi); (try clear ho0); obtain ⟨Ao83, co83, eo83⟩ := Kd.R_slice HO677.out; subst eo83) | ((with_reducible refine gate_dst (N := 16) rfl ?_); (try (refine gate_guard (by rfl) ?_; dsimp only)); refine box_event ?hg (N := 16) ?hd (cs := #[.int .i64 0, .int .i64 0, .int .i64 0, .int .i64 0, .int .i64 0, .slice none 0 0]) (t := 25) ?hr ?_; (case hd => rfl); (case hg => rfl); (case hr => first | (go_simp; done) | (go_simp; rfl)); intro gb679 hg w84 hbox hb; have n0_ := Aside0.mk (Kd.R_below (rk_ HO_640005) hb); have n1_ := Aside0.mk (Kd.R_below (rk_ HO_650005) hb); have n2_ := Aside0.mk (Kd.R_below (rk_ HO667) hb); have n3_ := Aside0.mk (Kd.R_below (rk_ HO677) hb); have n4_ := Aside0.mk (blk_below (bk_ BK627) hb); have n5_ := Aside0.mk (blk_below (bk_ BK639) hb); have n6_ := Aside0.mk (blk_below (bk_ BK649) hb); have n7_ := Aside0.mk (blk_below (bk_ BK669) hb); have n8_ := Aside0.mk (below_step bs_ hb); have n9_ := Aside0.mk (hbox); have n10_ := Aside0.mk ((by rw [hg]; exact (below_size bs_) : w.heap.size ≤ gb679)); have n11_ := Aside0.mk ((by rw [hg]; exact (below_size bs_) : w.heap.size ≤ gb679)); have n12_ := Aside0.mk ((by rw [hg]; exact Nat.ne_of_lt (blk_lt (bk_ BK627)) : gb627 ≠ gb679)); have n13_ := Aside0.mk ((by rw [hg]; exact Nat.ne_of_gt (blk_lt (bk_ BK627)) : gb679 ≠ gb627)); have n14_ := Aside0.mk ((by rw [hg]; exact Nat.ne_of_lt (blk_lt (bk_ BK639)) : gb639 ≠ gb679)); have n15_ := Aside0.mk ((by rw [hg]; exact Nat.ne_of_gt (blk_lt (bk_ BK639)) : gb679 ≠ gb639)); have n16_ := Aside0.mk ((by rw [hg]; exact Nat.ne_of_lt (blk_lt (bk_ BK649)) : gb649 ≠ gb679)); have n17_ := Aside0.mk ((by rw [hg]; exact Nat.ne_of_gt (blk_lt (bk_ BK649)) : gb679 ≠ gb649)); have n18_ := Aside0.mk ((by rw [hg]; exact Nat.ne_of_lt (blk_lt (bk_ BK669)) : gb669 ≠ gb679)); have n19_ := Aside0.mk ((by rw [hg]; exact Nat.ne_of_gt (blk_lt (bk_ BK669)) : gb679 ≠ gb669)); clear HO_640005 HO_650005 HO667 HO677 BK627 BK639 BK649 BK669 HB; have HO_640005 := n0_; have HO_650005 := n1_; have HO667 := n2_; have HO677 := n3_; have BK627 := n4_; have BK639 := n5_; have BK649 := n6_; have BK669 := n7_; have HB := n8_; have BK679 := n9_; have GW679 := n10_; have GE679 := n11_; have NB627_679 := n12_; have NB679_627 := n13_; have NB639_679 := n14_; have NB679_639 := n15_; have NB649_679 := n16_; have NB679_649 := n17_; have NB669_679 := n18_; have NB679_669 := n19_; clear n0_ n1_ n2_ n3_ n4_ n5_ n6_ n7_ n8_ n9_ n10_ n11_ n12_ n13_ n14_ n15_ n16_ n17_ n18_ n19_; clear hb hbox hg; have hnb85 := NB679_627.out; have hnc85 := NB627_679.out; have hnb86 := NB679_639.out; have hnc86 := NB639_679.out; have hnb87 := NB679_649.out; have hnc87 := NB649_679.out; have hnb88 := NB679_669.out; have hnc88 := NB669_679.out; obtain ⟨hcz89_0, hcz89_1, hcz89_2, hcz89_3, hcz89_4, hcz89_5, hfz89_0, hfz89_1, hfz89_2, hfz89_3, hfz89_4, hfz89_5⟩ := blk6 BK679; obtain ⟨hcz90_0, hcz90_1, hcz90_2, hcz90_3, hcz90_4, hcz90_5, hfz90_0, hfz90_1, hfz90_2, hfz90_3, hfz90_4, hfz90_5⟩ := blk6 BK669) | ((with_reducible refine gate_callee (f := 18) rfl ?_); refine goesL_ (some 109) rfl rfl Try.func18 (by kernel_rfl) rfl #[.agg #[.int .i64 t660, .int .i64 t661, .int .i64 t662, .int .i64 t663, .int .i64 t664, .slice Ao76 t665.length co76]] rfl (by (try simp only [List.map_toArray, List.map_cons, List.map_nil]); first | done | rfl | (simp only [List.length_drop, List.length_take]; rfl)) ?_; (with_reducible refine (epoch_Clear.calls kj51 t660 t661 t662 t663 t664 _ _ t665 t680 t681 t682 t683 t684 t685 t688 _ ?side1 ?side2 A69.out).mono ?_); (case side1 => refine (Kd.R_reads' (e := 43) (base := w.heap.size) (ok := fun k_ => (((True ∧ some k_ ≠ (.slice Ao38 t635.length co38 : Value).ownBlock) ∧ some k_ ≠ (.slice Ao44 t645.length co44 : Value).ownBlock) ∧ some k_ ≠ (.slice Ao83 t675.length co83 : Value).ownBlock)) (n := t665.length) (c := co76) ?_).2.2; exact (by (with_reducible repeat (first | apply Kd.R_alloc | apply Kd.R_drewN | apply Kd.R_drew)); exact (Kd.R_mono (far6 gb679 (Kd.R_types HO667.out BK679.out (by decide)) (fun _ hk => hk.2)) (fun _ h_ => h_.1)))); (case side2 => exact (Kd.R_reads' HO667.out).2.1); rintro e w91 ⟨v686, v689, rfl, ho0, ho1, hb⟩; refine ⟨_, rfl, ?_⟩; have n0_ := Aside0.mk (Kd.R_elder' (by (with_reducible repeat (first | apply Kd.R_alloc | apply Kd.R_drewN | apply Kd.R_drew)); exact (Kd.R_mono (far6 gb679 (Kd.R_types HO_640005.out BK679.out (by decide)) (fun _ hk => hk.2)) (fun _ h_ => h_.1))) (Kd.R_base ho0) hb); have n1_ := Aside0.mk (Kd.R_elder' (by (with_reducible repeat (first | apply Kd.R_alloc | apply Kd.R_drewN | apply Kd.R_drew)); exact (Kd.R_mono (far6 gb679 (Kd.R_types HO_650005.out BK679.out (by decide)) (fun _ hk => hk.2)) (fun _ h_ => h_.1))) (Kd.R_base ho0) hb); have n2_ := Aside0.mk (Kd.R_elder' (by (with_reducible repeat (first | apply Kd.R_alloc | apply Kd.R_drewN | apply Kd.R_drew)); exact (Kd.R_mono (far6 gb679 (Kd.R_types HO667.out BK679.out (by decide)) (fun _ hk => hk.2)) (fun _ h_ => h_.1))) (Kd.R_base ho0) hb); have n3_ := Aside0.mk (Kd.R_elder' (by (with_reducible repeat (first | apply Kd.R_alloc | apply Kd.R_drewN | apply Kd.R_drew)); exact (Kd.R_mono (far6 gb679 (Kd.R_types HO677.out BK679.out (by decide)) (fun _ hk => hk.2)) (fun _ h_ => h_.1))) (Kd.R_base ho0) hb); have n4_ := Aside0.mk (Kd.R_lower (Kd.R_new' (Kd.R_new' (Kd.R_new' (Kd.R_new' ho0 (Kd.R_lt (by (with_reducible repeat (first | apply Kd.R_alloc | apply Kd.R_drewN | apply Kd.R_drew)); exact (Kd.R_mono (far6 gb679 (Kd.R_types HO_640005.out BK679.out (by decide)) (fun _ hk => hk.2)) (fun _ h_ => h_.1))))) (Kd.R_lt (by (with_reducible repeat (first | apply Kd.R_alloc | apply Kd.R_drewN | apply Kd.R_drew)); exact (Kd.R_mono (far6 gb679 (Kd.R_types HO_650005.out BK679.out (by decide)) (fun _ hk => hk.2)) (fun _ h_ => h_.1))))) (Kd.R_lt (by (with_reducible repeat (first | apply Kd.R_alloc | apply Kd.R_drewN | apply Kd.R_drew)); exact (Kd.R_mono (far6 gb679 (Kd.R_types HO667.out BK679.out (by decide)) (fun _ hk => hk.2)) (fun _ h_ => h_.1))))) (Kd.R_lt (by (with_reducible repeat (first | apply Kd.R_alloc | apply Kd.R_drewN | apply Kd.R_drew)); exact (Kd.R_mono (far6 gb679 (Kd.R_types HO677.out BK679.out (by decide)) (fun _ hk => hk.2)) (fun _ h_ => h_.1))))) (below_size bs_)); have n5_ := Aside0.mk (Kd.R_lower ho1 (below_size bs_)); have n6_ := Aside0.mk (blk_below (bf_ BK627) hb); have n7_ := Aside0.mk (blk_below (bf_ BK639) hb); have n8_ := Aside0.mk (blk_below (bf_ BK649) hb); have n9_ := Aside0.mk (blk_below (bf_ BK669) hb); have n10_ := Aside0.mk (blk_below (bp_ (o := .cells #[.int .i64 t670, .int .i64 t671, .int .i64 t672, .int .i64 t673, .int .i64 t674, .slice Ao83 t675.length co83] 25 (0, 0)) BK679) hb); have n11_ := Aside0.mk (below_step bs_ hb); clear HO_640005 HO_650005 HO667 HO677 BK627 BK639 BK649 BK669 BK679 HB; have HO_640005 := n0_; have HO_650005 := n1_; have HO667 := n2_; have HO677 := n3_; have HO687 := n4_; have HO690 := n5_; have BK627 := n6_; have BK639 := n7_; have BK649 := n8_; have BK669 := n9_; have BK679 := n10_; have HB := n11_; clear n0_ n1_ n2_ n3_ n4_ n5_ n6_ n7_ n8_ n9_ n10_ n11_; (try clear hb); (try clear hb2); (try clear hk); (try clear hi); (try clear ho0); (try clear ho1); obtain ⟨Ao92, co92, eo92⟩ := Kd.R_slice HO690.out; subst eo92; obtain ⟨Ao93, co93, eo93⟩ := Kd.R_slice HO687.out; subst eo93) | ((with_reducible refine gate_dst (N := 18) rfl ?_); (try (refine gate_guard (by rfl) ?_; dsimp only)); refine box_event ?hg (N := 18) ?hd (cs := #[.int .i64 0, .int .i64 0, .int .i64 0, .int .i64 0, .int .i64 0, .slice none 0 0]) (t := 25) ?hr ?_; (case hd => rfl); (case hg => rfl); (case hr => first | (go_simp; done) | (go_simp; rfl)); intro gb691 hg w94 hbox hb; have n0_ := Aside0.mk (Kd.R_below (rk_ HO_640005) hb); have n1_ := Aside0.mk (Kd.R_below (rk_ HO_650005) hb); have n2_ := Aside0.mk (Kd.R_below (rk_ HO667) hb); have n3_ := Aside0.mk (Kd.R_below (rk_ HO677) hb); have n4_ := Aside0.mk (Kd.R_below (rk_ HO687) hb); have n5_ := Aside0.mk (Kd.R_below (rk_ HO690) hb); have n6_ := Aside0.mk (blk_below (bk_ BK627) hb); have n7_ := Aside0.mk (blk_below (bk_ BK639) hb); have n8_ := Aside0.mk (blk_below (bk_ BK649) hb); have n9_ := Aside0.mk (blk_below (bk_ BK669) hb); have n10_ := Aside0.mk (blk_below (bk_ BK679) hb); have n11_ := Aside0.mk (below_step bs_ hb); have n12_ := Aside0.mk (hbox); have n13_ := Aside0.mk ((by rw [hg]; exact (below_size bs_) : w.heap.size ≤ gb691)); have n14_ := Aside0.mk ((by rw [hg]; exact (below_size bs_) : w.heap.size ≤ gb691)); have n15_ := Aside0.mk ((by rw [hg]; exact Nat.ne_of_lt (blk_lt (bk_ BK627)) : gb627 ≠ gb691)); have n16_ := Aside0.mk ((by rw [hg]; exact Nat.ne_of_gt (blk_lt (bk_ BK627)) : gb691 ≠ gb627)); have n17_ := Aside0.mk ((by rw [hg]; exact Nat.ne_of_lt (blk_lt (bk_ BK639)) : gb639 ≠ gb691)); have n18_ := Aside0.mk ((by rw [hg]; exact Nat.ne_of_gt (blk_lt (bk_ BK639)) : gb691 ≠ gb639)); have n19_ := Aside0.mk ((by rw [hg]; exact Nat.ne_of_lt (blk_lt (bk_ BK649)) : gb649 ≠ gb691)); have n20_ := Aside0.mk ((by rw [hg]; exact Nat.ne_of_gt (blk_lt (bk_ BK649)) : gb691 ≠ gb649)); have n21_ := Aside0.mk ((by rw [hg]; exact Nat.ne_of_lt (blk_lt (bk_ BK669)) : gb669 ≠ gb691)); have n22_ := Aside0.mk ((by rw [hg]; exact Nat.ne_of_gt (blk_lt (bk_ BK669)) : gb691 ≠ gb669)); have n23_ := Aside0.mk ((by rw [hg]; exact Nat.ne_of_lt (blk_lt (bk_ BK679)) : gb679 ≠ gb691)); have n24_ := Aside0.mk ((by rw [hg]; exact Nat.ne_of_gt (blk_lt (bk_ BK679)) : gb691 ≠ gb679)); clear HO_640005 HO_650005 HO667 HO677 HO687 HO690 BK627 BK639 BK649 BK669 BK679 HB; have HO_640005 := n0_; have HO_650005 := n1_; have HO667 := n2_; have HO677 := n3_; have HO687 := n4_; have HO690 := n5_; have BK627 := n6_; have BK639 := n7_; have BK649 := n8_; have BK669 := n9_; have BK679 := n10_; have HB := n11_; have BK691 := n12_; have GW691 := n13_; have GE691 := n14_; have NB627_691 := n15_; have NB691_627 := n16_; have NB639_691 := n17_; have NB691_639 := n18_; have NB649_691 := n19_; have NB691_649 := n20_; have NB669_691 := n21_; have NB691_669 := n22_; have NB679_691 := n23_; have NB691_679 := n24_; clear n0_ n1_ n2_ n3_ n4_ n5_ n6_ n7_ n8_ n9_ n10_ n11_ n12_ n13_ n14_ n15_ n16_ n17_ n18_ n19_ n20_ n21_ n22_ n23_ n24_; clear hb hbox hg; have hnb95 := NB691_627.out; have hnc95 := NB627_691.out; have hnb96 := NB691_639.out; have hnc96 := NB639_691.out; have hnb97 := NB691_649.out; have hnc97 := NB649_691.out; have hnb98 := NB691_669.out; have hnc98 := NB669_691.out; have hnb99 := NB691_679.out; have hnc99 := NB679_691.out; obtain ⟨hcz100_0, hcz100_1, hcz100_2, hcz100_3, hcz100_4, hcz100_5, hfz100_0, hfz100_1, hfz100_2, hfz100_3, hfz100_4, hfz100_5⟩ := blk6 BK691) | ((with_reducible refine gate_callee (f := 16) rfl ?_); refine goesL_ (some 115) rfl rfl Try.func16 (by kernel_rfl) rfl #[.agg #[.int .i64 t680, .int .i64 t681, .int .i64 t682, .int .i64 t683, .int .i64 t684, .slice Ao93 t685.length co93], .int .i64 a2] rfl (by (try simp only [List.map_toArray, List.map_cons, List.map_nil]); first | done | rfl | (simp only [List.length_drop, List.length_take]; rfl)) ?_; (with_reducible refine (epoch_Retire.calls kj51 t680 t681 t682 t683 t684 _ _ t685 a2 t692 t693 t694 t695 t696 t697 t700 _ ?side1 ?side2 A70.out).mono ?_); (case side1 => refine (Kd.R_reads' (e := 43) (base := w.heap.size) (ok := fun k_ => ((((True ∧ some k_ ≠ (.slice Ao38 t635.length co38 : Value).ownBlock) ∧ some k_ ≠ (.slice Ao44 t645.length co44 : Value).ownBlock) ∧ some k_ ≠ (.slice Ao76 t665.length co76 : Value).ownBlock) ∧ some k_ ≠ (.slice Ao83 t675.length co83 : Value).ownBlock)) (n := t685.length) (c := co93) ?_).2.2; exact (by (with_reducible repeat (first | apply Kd.R_alloc | apply Kd.R_drewN | apply Kd.R_drew)); exact (Kd.R_mono (far6 gb691 (Kd.R_types HO687.out BK691.out (by decide)) (fun _ hk => hk.2)) (fun _ h_ => h_.1)))); (case side2 => exact (Kd.R_reads' HO687.out).2.1); rintro e w101 ⟨v698, rfl, ho0, hb⟩; refine ⟨_, rfl, ?_⟩; have n0_ := Aside0.mk (Kd.R_elder' (by (with_reducible repeat (first | apply Kd.R_alloc | apply Kd.R_drewN | apply Kd.R_drew)); exact (Kd.R_mono (far6 gb691 (Kd.R_types HO_640005.out BK691.out (by decide)) (fun _ hk => hk.2)) (fun _ h_ => h_.1))) (Kd.R_base ho0) hb); have n1_ := Aside0.mk (Kd.R_elder' (by (with_reducible repeat (first | apply Kd.R_alloc | apply Kd.R_drewN | apply Kd.R_drew)); exact (Kd.R_mono (far6 gb691 (Kd.R_types HO_650005.out BK691.out (by decide)) (fun _ hk => hk.2)) (fun _ h_ => h_.1))) (Kd.R_base ho0) hb); have n2_ := Aside0.mk (Kd.R_elder' (by (with_reducible repeat (first | apply Kd.R_alloc | apply Kd.R_drewN | apply Kd.R_drew)); exact (Kd.R_mono (far6 gb691 (Kd.R_types HO667.out BK691.out (by decide)) (fun _ hk => hk.2)) (fun _ h_ => h_.1))) (Kd.R_base ho0) hb); have n3_ := Aside0.mk (Kd.R_elder' (by (with_reducible repeat (first | apply Kd.R_alloc | apply Kd.R_drewN | apply Kd.R_drew)); exact (Kd.R_mono (far6 gb691 (Kd.R_types HO677.out BK691.out (by decide)) (fun _ hk => hk.2)) (fun _ h_ => h_.1))) (Kd.R_base ho0) hb); have n4_ := Aside0.mk (Kd.R_elder' (by (with_reducible repeat (first | apply Kd.R_alloc | apply Kd.R_drewN | apply Kd.R_drew)); exact (Kd.R_mono (far6 gb691 (Kd.R_types HO687.out BK691.out (by decide)) (fun _ hk => hk.2)) (fun _ h_ => h_.1))) (Kd.R_base ho0) hb); have n5_ := Aside0.mk (Kd.R_below (by (with_reducible repeat (first | apply Kd.R_alloc | apply Kd.R_drewN | apply Kd.R_drew)); exact (Kd.R_mono (far6 gb691 (Kd.R_types HO690.out BK691.out (by decide)) (fun _ hk => hk.2)) (fun _ h_ => h_.1))) hb); have n6_ := Aside0.mk (Kd.R_lower (Kd.R_new' (Kd.R_new' (Kd.R_new' (Kd.R_new' (Kd.R_new' ho0 (Kd.R_lt (by (with_reducible repeat (first | apply Kd.R_alloc | apply Kd.R_drewN | apply Kd.R_drew)); exact (Kd.R_mono (far6 gb691 (Kd.R_types HO_640005.out BK691.out (by decide)) (fun _ hk => hk.2)) (fun _ h_ => h_.1))))) (Kd.R_lt (by (with_reducible repeat (first | apply Kd.R_alloc | apply Kd.R_drewN | apply Kd.R_drew)); exact (Kd.R_mono (far6 gb691 (Kd.R_types HO_650005.out BK691.out (by decide)) (fun _ hk => hk.2)) (fun _ h_ => h_.1))))) (Kd.R_lt (by (with_reducible repeat (first | apply Kd.R_alloc | apply Kd.R_drewN | apply Kd.R_drew)); exact (Kd.R_mono (far6 gb691 (Kd.R_types HO667.out BK691.out (by decide)) (fun _ hk => hk.2)) (fun _ h_ => h_.1))))) (Kd.R_lt (by (with_reducible repeat (first | apply Kd.R_alloc | apply Kd.R_drewN | apply Kd.R_drew)); exact (Kd.R_mono (far6 gb691 (Kd.R_types HO677.out BK691.out (by decide)) (fun _ hk => hk.2)) (fun _ h_ => h_.1))))) (Kd.R_lt (by (with_reducible repeat (first | apply Kd.R_alloc | apply Kd.R_drewN | apply Kd.R_drew)); exact (Kd.R_mono (far6 gb691 (Kd.R_types HO687.out BK691.out (by decide)) (fun _ hk => hk.2)) (fun _ h_ => h_.1))))) (below_size bs_)); have n7_ := Aside0.mk (blk_below (bf_ BK627) hb); have n8_ := Aside0.mk (blk_below (bf_ BK639) hb); have n9_ := Aside0.mk (blk_below (bf_ BK649) hb); have n10_ := Aside0.mk (blk_below (bf_ BK669) hb); have n11_ := Aside0.mk (blk_below (bf_ BK679) hb); have n12_ := Aside0.mk (blk_below (bp_ (o := .cells #[.int .i64 t680, .int .i64 t681, .int .i64 t682, .int .i64 t683, .int .i64 t684, .slice Ao93 t685.length co93] 25 (0, 0)) BK691) hb); have n13_ := Aside0.mk (below_step bs_ hb); clear HO_640005 HO_650005 HO667 HO677 HO687 HO690 BK627 BK639 BK649 BK669 BK679 BK691 HB; have HO_640005 := n0_; have HO_650005 := n1_; have HO667 := n2_; have HO677 := n3_; have HO687 := n4_; have HO690 := n5_; have HO699 := n6_; have BK627 := n7_; have BK639 := n8_; have BK649 := n9_; have BK669 := n10_; have BK679 := n11_; have BK691 := n12_; have HB := n13_; clear n0_ n1_ n2_ n3_ n4_ n5_ n6_ n7_ n8_ n9_ n10_ n11_ n12_ n13_; (try clear hb); (try clear hb2); (try clear hk); (try clear hi); (try clear ho0); obtain ⟨Ao102, co102, eo102⟩ := Kd.R_slice HO699.out; subst eo102) | ((with_reducible refine gate_dst (N := 20) rfl ?_); (try (refine gate_guard (by rfl) ?_; dsimp only)); refine box_event ?hg (N := 20) ?hd (cs := #[.int .i64 0, .int .i64 0, .int .i64 0, .int .i64 0, .int .i64 0, .slice none 0 0]) (t := 25) ?hr ?_; (case hd => rfl); (case hg => rfl); (case hr => first | (go_simp; done) | (go_simp; rfl)); intro gb701 hg w103 hbox hb; have n0_ := Aside0.mk (Kd.R_below (rk_ HO_640005) hb); have n1_ := Aside0.mk (Kd.R_below (rk_ HO_650005) hb); have n2_ := Aside0.mk (Kd.R_below (rk_ HO667) hb); have n3_ := Aside0.mk (Kd.R_below (rk_ HO677) hb); have n4_ := Aside0.mk (Kd.R_below (rk_ HO687) hb); have n5_ := Aside0.mk (Kd.R_below (rk_ HO690) hb); have n6_ := Aside0.mk (Kd.R_below (rk_ HO699) hb); have n7_ := Aside0.mk (blk_below (bk_ BK627) hb); have n8_ := Aside0.mk (blk_below (bk_ BK639) hb); have n9_ := Aside0.mk (blk_below (bk_ BK649) hb); have n10_ := Aside0.mk (blk_below (bk_ BK669) hb); have n11_ := Aside0.mk (blk_below (bk_ BK679) hb); have n12_ := Aside0.mk (blk_below (bk_ BK691) hb); have n13_ := Aside0.mk (below_step bs_ hb); have n14_ := Aside0.mk (hbox); have n15_ := Aside0.mk ((by rw [hg]; exact (below_size bs_) : w.heap.size ≤ gb701)); have n16_ := Aside0.mk ((by rw [hg]; exact (below_size bs_) : w.heap.size ≤ gb701)); have n17_ := Aside0.mk ((by rw [hg]; exact Nat.ne_of_lt (blk_lt (bk_ BK627)) : gb627 ≠ gb701)); have n18_ := Aside0.mk ((by rw [hg]; exact Nat.ne_of_gt (blk_lt (bk_ BK627)) : gb701 ≠ gb627)); have n19_ := Aside0.mk ((by rw [hg]; exact Nat.ne_of_lt (blk_lt (bk_ BK639)) : gb639 ≠ gb701)); have n20_ := Aside0.mk ((by rw [hg]; exact Nat.ne_of_gt (blk_lt (bk_ BK639)) : gb701 ≠ gb639)); have n21_ := Aside0.mk ((by rw [hg]; exact Nat.ne_of_lt (blk_lt (bk_ BK649)) : gb649 ≠ gb701)); have n22_ := Aside0.mk ((by rw [hg]; exact Nat.ne_of_gt (blk_lt (bk_ BK649)) : gb701 ≠ gb649)); have n23_ := Aside0.mk ((by rw [hg]; exact Nat.ne_of_lt (blk_lt (bk_ BK669)) : gb669 ≠ gb701)); have n24_ := Aside0.mk ((by rw [hg]; exact Nat.ne_of_gt (blk_lt (bk_ BK669)) : gb701 ≠ gb669)); have n25_ := Aside0.mk ((by rw [hg]; exact Nat.ne_of_lt (blk_lt (bk_ BK679)) : gb679 ≠ gb701)); have n26_ := Aside0.mk ((by rw [hg]; exact Nat.ne_of_gt (blk_lt (bk_ BK679)) : gb701 ≠ gb679)); have n27_ := Aside0.mk ((by rw [hg]; exact Nat.ne_of_lt (blk_lt (bk_ BK691)) : gb691 ≠ gb701)); have n28_ := Aside0.mk ((by rw [hg]; exact Nat.ne_of_gt (blk_lt (bk_ BK691)) : gb701 ≠ gb691)); clear HO_640005 HO_650005 HO667 HO677 HO687 HO690 HO699 BK627 BK639 BK649 BK669 BK679 BK691 HB; have HO_640005 := n0_; have HO_650005 := n1_; have HO667 := n2_; have HO677 := n3_; have HO687 := n4_; have HO690 := n5_; have HO699 := n6_; have BK627 := n7_; have BK639 := n8_; have BK649 := n9_; have BK669 := n10_; have BK679 := n11_; have BK691 := n12_; have HB := n13_; have BK701 := n14_; have GW701 := n15_; have GE701 := n16_; have NB627_701 := n17_; have NB701_627 := n18_; have NB639_701 := n19_; have NB701_639 := n20_; have NB649_701 := n21_; have NB701_649 := n22_; have NB669_701 := n23_; have NB701_669 := n24_; have NB679_701 := n25_; have NB701_679 := n26_; have NB691_701 := n27_; have NB701_691 := n28_; clear n0_ n1_ n2_ n3_ n4_ n5_ n6_ n7_ n8_ n9_ n10_ n11_ n12_ n13_ n14_ n15_ n16_ n17_ n18_ n19_ n20_ n21_ n22_ n23_ n24_ n25_ n26_ n27_ n28_; clear hb hbox hg; have hnb104 := NB701_627.out; have hnc104 := NB627_701.out; have hnb105 := NB701_639.out; have hnc105 := NB639_701.out; have hnb106 := NB701_649.out; have hnc106 := NB649_701.out; have hnb107 := NB701_669.out; have hnc107 := NB669_701.out; have hnb108 := NB701_679.out; have hnc108 := NB679_701.out; have hnb109 := NB701_691.out; have hnc109 := NB691_701.out; obtain ⟨hcz110_0, hcz110_1, hcz110_2, hcz110_3, hcz110_4, hcz110_5, hfz110_0, hfz110_1, hfz110_2, hfz110_3, hfz110_4, hfz110_5⟩ := blk6 BK701))
           go_ret
           exact ⟨by first | rfl | (simp [errW_none, errW_some] <;> rfl) | (simp [*, errW_none, errW_some] <;> rfl), by repeat (first | (with_reducible first | exact HB.out | apply below_alloc | apply pw_below_drewN | apply below_drew1 | refine below_set ?_ GE627.out | refine below_set ?_ GE639.out | refine below_set ?_ GE649.out | refine below_set ?_ GE669.out | refine below_set ?_ GE679.out | refine below_set ?_ GE691.out | refine below_set ?_ GE701.out) | exact HB.out)⟩
          ·rw [if_neg c71] at H
           exact absurd H (by simp)
         ·rw [if_neg c67] at H
          have c67b0 : (t668 == 0) = false := beq_eq_false_iff_ne.mpr c67
          have c67b1 : (t668 != 0) = true := bne_iff_ne.mpr c67
          obtain rfl := Option.some.inj H
          have hnb111 := NB627_639.out
          have hnc111 := NB639_627.out
          have hnb112 := NB627_649.out
          have hnc112 := NB649_627.out
          obtain ⟨hcz113_0, hcz113_1, hcz113_2, hcz113_3, hcz113_4, hcz113_5, hfz113_0, hfz113_1, hfz113_2, hfz113_3, hfz113_4, hfz113_5⟩ := blk6 BK627
          go_wp2_with (first | ((with_reducible refine gate_callee (f := 16) rfl ?_); refine goesL_ (some 94) rfl rfl Try.func16 (by kernel_rfl) rfl #[.agg #[.int .i64 a0_0, .int .i64 0, .int .i64 0, .int .i64 0, .int .i64 0, .slice A0_5 l0_5.length c0_5], .int .i64 a2] rfl (by (try simp only [List.map_toArray, List.map_cons, List.map_nil]); first | done | rfl | (simp only [List.length_drop, List.length_take]; rfl)) ?_; (with_reducible refine (epoch_Retire.calls kj51 a0_0 0 0 0 0 _ _ l0_5 a2 t660 t661 t662 t663 t664 t665 t668 _ ?side1 ?side2 A66.out).mono ?_); (case side1 => exact Kd.C_below HR0_5.out bs_); (case side2 => exact HC0_5.out); rintro e w114 ⟨v666, rfl, ho0, hb⟩; refine ⟨_, rfl, ?_⟩; have n0_ := Aside0.mk (Kd.R_elder' (by (with_reducible repeat (first | apply Kd.R_alloc | apply Kd.R_drewN | apply Kd.R_drew)); exact (Kd.R_mono (Kd.R_far (p := ⟨gb627, 4, none⟩) (Kd.R_far (p := ⟨gb627, 3, none⟩) (Kd.R_far (p := ⟨gb627, 2, none⟩) (Kd.R_far (p := ⟨gb627, 1, none⟩) (Kd.R_types HO_640005.out BK627.out (by decide)) (fun _ hk => hk.2) (.int .i64 0)) (fun _ hk => hk.2) (.int .i64 0)) (fun _ hk => hk.2) (.int .i64 0)) (fun _ hk => hk.2) (.int .i64 0)) (fun _ h_ => h_.1))) (Kd.R_base ho0) hb); have n1_ := Aside0.mk (Kd.R_elder' (by (with_reducible repeat (first | apply Kd.R_alloc | apply Kd.R_drewN | apply Kd.R_drew)); exact (Kd.R_mono (Kd.R_far (p := ⟨gb627, 4, none⟩) (Kd.R_far (p := ⟨gb627, 3, none⟩) (Kd.R_far (p := ⟨gb627, 2, none⟩) (Kd.R_far (p := ⟨gb627, 1, none⟩) (Kd.R_types HO_650005.out BK627.out (by decide)) (fun _ hk => hk.2) (.int .i64 0)) (fun _ hk => hk.2) (.int .i64 0)) (fun _ hk => hk.2) (.int .i64 0)) (fun _ hk => hk.2) (.int .i64 0)) (fun _ h_ => h_.1))) (Kd.R_base ho0) hb); have n2_ := Aside0.mk (Kd.R_lower (Kd.R_new' (Kd.R_new' ho0 (Kd.R_lt (by (with_reducible repeat (first | apply Kd.R_alloc | apply Kd.R_drewN | apply Kd.R_drew)); exact (Kd.R_mono (Kd.R_far (p := ⟨gb627, 4, none⟩) (Kd.R_far (p := ⟨gb627, 3, none⟩) (Kd.R_far (p := ⟨gb627, 2, none⟩) (Kd.R_far (p := ⟨gb627, 1, none⟩) (Kd.R_types HO_640005.out BK627.out (by decide)) (fun _ hk => hk.2) (.int .i64 0)) (fun _ hk => hk.2) (.int .i64 0)) (fun _ hk => hk.2) (.int .i64 0)) (fun _ hk => hk.2) (.int .i64 0)) (fun _ h_ => h_.1))))) (Kd.R_lt (by (with_reducible repeat (first | apply Kd.R_alloc | apply Kd.R_drewN | apply Kd.R_drew)); exact (Kd.R_mono (Kd.R_far (p := ⟨gb627, 4, none⟩) (Kd.R_far (p := ⟨gb627, 3, none⟩) (Kd.R_far (p := ⟨gb627, 2, none⟩) (Kd.R_far (p := ⟨gb627, 1, none⟩) (Kd.R_types HO_650005.out BK627.out (by decide)) (fun _ hk => hk.2) (.int .i64 0)) (fun _ hk => hk.2) (.int .i64 0)) (fun _ hk => hk.2) (.int .i64 0)) (fun _ hk => hk.2) (.int .i64 0)) (fun _ h_ => h_.1))))) (below_size bs_)); have n3_ := Aside0.mk (blk_below (bp_ (o := .cells #[.int .i64 a0_0, .int .i64 0, .int .i64 0, .int .i64 0, .int .i64 0, .slice A0_5 l0_5.length c0_5] 25 (0, 0)) BK627) hb); have n4_ := Aside0.mk (blk_below (bf_ BK639) hb); have n5_ := Aside0.mk (blk_below (bf_ BK649) hb); have n6_ := Aside0.mk (below_step bs_ hb); clear HO_640005 HO_650005 BK627 BK639 BK649 HB; have HO_640005 := n0_; have HO_650005 := n1_; have HO667 := n2_; have BK627 := n3_; have BK639 := n4_; have BK649 := n5_; have HB := n6_; clear n0_ n1_ n2_ n3_ n4_ n5_ n6_; (try clear hb); (try clear hb2); (try clear hk); (try clear hi); (try clear ho0); obtain ⟨Ao115, co115, eo115⟩ := Kd.R_slice HO667.out; subst eo115) | ((with_reducible refine gate_dst (N := 14) rfl ?_); (try (refine gate_guard (by rfl) ?_; dsimp only)); refine box_event ?hg (N := 14) ?hd (cs := #[.int .i64 0, .int .i64 0, .int .i64 0, .int .i64 0, .int .i64 0, .slice none 0 0]) (t := 25) ?hr ?_; (case hd => rfl); (case hg => rfl); (case hr => first | (go_simp; done) | (go_simp; rfl)); intro gb669 hg w116 hbox hb; have n0_ := Aside0.mk (Kd.R_below (rk_ HO_640005) hb); have n1_ := Aside0.mk (Kd.R_below (rk_ HO_650005) hb); have n2_ := Aside0.mk (Kd.R_below (rk_ HO667) hb); have n3_ := Aside0.mk (blk_below (bk_ BK627) hb); have n4_ := Aside0.mk (blk_below (bk_ BK639) hb); have n5_ := Aside0.mk (blk_below (bk_ BK649) hb); have n6_ := Aside0.mk (below_step bs_ hb); have n7_ := Aside0.mk (hbox); have n8_ := Aside0.mk ((by rw [hg]; exact (below_size bs_) : w.heap.size ≤ gb669)); have n9_ := Aside0.mk ((by rw [hg]; exact (below_size bs_) : w.heap.size ≤ gb669)); have n10_ := Aside0.mk ((by rw [hg]; exact Nat.ne_of_lt (blk_lt (bk_ BK627)) : gb627 ≠ gb669)); have n11_ := Aside0.mk ((by rw [hg]; exact Nat.ne_of_gt (blk_lt (bk_ BK627)) : gb669 ≠ gb627)); have n12_ := Aside0.mk ((by rw [hg]; exact Nat.ne_of_lt (blk_lt (bk_ BK639)) : gb639 ≠ gb669)); have n13_ := Aside0.mk ((by rw [hg]; exact Nat.ne_of_gt (blk_lt (bk_ BK639)) : gb669 ≠ gb639)); have n14_ := Aside0.mk ((by rw [hg]; exact Nat.ne_of_lt (blk_lt (bk_ BK649)) : gb649 ≠ gb669)); have n15_ := Aside0.mk ((by rw [hg]; exact Nat.ne_of_gt (blk_lt (bk_ BK649)) : gb669 ≠ gb649)); clear HO_640005 HO_650005 HO667 BK627 BK639 BK649 HB; have HO_640005 := n0_; have HO_650005 := n1_; have HO667 := n2_; have BK627 := n3_; have BK639 := n4_; have BK649 := n5_; have HB := n6_; have BK669 := n7_; have GW669 := n8_; have GE669 := n9_; have NB627_669 := n10_; have NB669_627 := n11_; have NB639_669 := n12_; have NB669_639 := n13_; have NB649_669 := n14_; have NB669_649 := n15_; clear n0_ n1_ n2_ n3_ n4_ n5_ n6_ n7_ n8_ n9_ n10_ n11_ n12_ n13_ n14_ n15_; clear hb hbox hg; have hnb117 := NB669_627.out; have hnc117 := NB627_669.out; have hnb118 := NB669_639.out; have hnc118 := NB639_669.out; have hnb119 := NB669_649.out; have hnc119 := NB649_669.out; obtain ⟨hcz120_0, hcz120_1, hcz120_2, hcz120_3, hcz120_4, hcz120_5, hfz120_0, hfz120_1, hfz120_2, hfz120_3, hfz120_4, hfz120_5⟩ := blk6 BK669))
          go_ret
          exact ⟨by first | rfl | (simp [errW_none, errW_some] <;> rfl) | (simp [*, errW_none, errW_some] <;> rfl), by repeat (first | (with_reducible first | exact HB.out | apply below_alloc | apply pw_below_drewN | apply below_drew1 | refine below_set ?_ GE627.out | refine below_set ?_ GE639.out | refine below_set ?_ GE649.out | refine below_set ?_ GE669.out) | exact HB.out)⟩

end Go.Proofs.Ytipnfcicpnmggaa.P
