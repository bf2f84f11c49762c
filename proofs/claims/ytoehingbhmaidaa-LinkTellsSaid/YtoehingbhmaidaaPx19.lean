-- Written by a program of this session over the kit's print of the translation. Lean checks it.
import Derived.Test.YtoehingbhmaidaaPx0
import Derived.Test.YtoehingbhmaidaaPx3
import Derived.Test.YtoehingbhmaidaaPx7
import Derived.Test.YtoehingbhmaidaaPx8
import Derived.Test.YtoehingbhmaidaaPx10
import Derived.Test.YtoehingbhmaidaaPx12
import Derived.Test.YtoehingbhmaidaaPx13
import Derived.Test.YtoehingbhmaidaaPx15
import Derived.Test.YtoehingbhmaidaaPx16
import Derived.Test.YtoehingbhmaidaaPx17
import Derived.Test.YtoehingbhmaidaaPx18
import Derived.Test.YtoehingbhmaidaaHDetach
-- shorter
namespace Go.Proofs.Ytoehingbhmaidaa.P
open Go.RowKit Go.Proofs.YtoehingbhmaidaaW.PrintWords Go.Proofs.YtoehingbhmaidaaW.PrintLast Go.Proofs.YtoehingbhmaidaaW.PrintMore
attribute [local go_sem] max2_int min2_int max_two min_two max_three min_three max_four min_four   -- for this text's walks alone
set_option linter.unusedVariables false
set_option linter.unusedSimpArgs false

/-! ### drydocklaw16_LinkTells: function 3 -/
def drydocklaw16_LinkTells.j0 : Nat → Int → Int → Int → Bool → Bool → Int → List (S26) → Int → Int → Option (Bool)
  | 0, _, _, _, _, _, _, _, _, _ => none
  | k + 1, x2, x3, x4, x11, x40, x248000, x248001, x249000, x249001 => if x40 = true then (some x11) else ((drydockref16_Own.f x248000 x248001).bind fun bt250 => ((link_Attach.f k x248000 x248001 x249000 x249001 x2 x3 x4).bind fun bt255 => ((drydockref16_Attach.f k x248000 x248001 x249000 x249001 x2 x3 x4).bind fun bt261 => ((drydockref16_Same.f k bt255.1 bt255.2.1 bt261.1 bt261.2.1).bind fun t267 => (if t267 = true then ((link_Detach.f x248000 x248001 x3 x4).bind fun bt268 => ((drydockref16_Detach.f k x248000 x248001 x3 x4).bind fun bt274 => ((drydockref16_Same.f k bt268.1 bt268.2.1 bt274.1 bt274.2.1).bind fun t280 => (if t280 = true then ((link_Swap.f k x248000 x248001 x3 x249000 x249001 x4).bind fun bt281 => ((drydockref16_Swap.f k x248000 x248001 x3 x249000 x249001 x4).bind fun bt287 => ((drydockref16_Same.f k bt281.1 bt281.2.1 bt287.1 bt287.2.1).bind fun t293 => (if t293 = true then ((link_At.f k x248000 x248001 x3).bind fun bt294 => ((drydockref16_At.f k x248000 x248001 x3).bind fun bt296 => (if bt255.2.2 = bt261.2.2 then (if bt268.2.2 = bt274.2.2 then (if bt281.2.2 = bt287.2.2 then (if bt294.1 = bt296.1 then (if (bt294.2 == bt296.2) = true then ((drydockref16_Same.f k x248000 x248001 bt250.1 bt250.2).bind fun t298 => (if t298 = true then ((link_May.f k x248000 x248001).bind fun t299 => ((drydockref16_May.f k x248000 x248001).bind fun t300 => (some (t299 == t300)))) else (none))) else (none)) else (none)) else (none)) else (none)) else (none)))) else (none))))) else (none))))) else (none))))))
def drydocklaw16_LinkTells.f (k : Nat) (a0_0 : Int) (l0_1 : List (S26)) (a1_0 : Int) (a1_1 : Int) (a2 : Int) (a3 : Int) (a4 : Int) : Option (Bool) := (drydocklaw16_awake.f k).bind fun t249 => (if t249 = true then (drydocklaw16_LinkTells.j0 k a2 a3 a4 t249 (decide ((l0_1.length : Int) > 20)) a0_0 l0_1 a1_0 a1_1) else (drydocklaw16_LinkTells.j0 k a2 a3 a4 t249 true a0_0 l0_1 a1_0 a1_1))
theorem drydocklaw16_LinkTells.mono_l : ∀ k, (∀ y0 y1 y2 y3 y4 y5 y6 y7 y8, LeO (drydocklaw16_LinkTells.j0 k y0 y1 y2 y3 y4 y5 y6 y7 y8) (drydocklaw16_LinkTells.j0 (k + 1) y0 y1 y2 y3 y4 y5 y6 y7 y8))
  | 0 => fun _ _ _ _ _ _ _ _ _ r h => by simp [drydocklaw16_LinkTells.j0] at h
  | k + 1 => by
    have ih0 := drydocklaw16_LinkTells.mono_l k
    · intro y0 y1 y2 y3 y4 y5 y6 y7 y8
      unfold drydocklaw16_LinkTells.j0
      repeat' first
      | (with_reducible exact ih0 _ _ _ _ _ _ _ _ _)
      | (with_reducible exact drydocklaw16_awake.mono _)
      | (with_reducible exact drydockref16_At.mono _ _ _ _)
      | (with_reducible exact drydockref16_Attach.mono _ _ _ _ _ _ _ _)
      | (with_reducible exact drydockref16_Detach.mono _ _ _ _ _)
      | (with_reducible exact drydockref16_May.mono _ _ _)
      | (with_reducible exact drydockref16_Same.mono _ _ _ _ _)
      | (with_reducible exact drydockref16_Swap.mono _ _ _ _ _ _ _)
      | (with_reducible exact link_At.mono _ _ _ _)
      | (with_reducible exact link_Attach.mono _ _ _ _ _ _ _ _)
      | (with_reducible exact link_May.mono _ _ _)
      | (with_reducible exact link_Swap.mono _ _ _ _ _ _ _)
      | (with_reducible exact LeO.refl _)
      | (with_reducible exact LeO.none _)
      | (with_reducible refine LeO.ite ?_ ?_)
      | (with_reducible refine LeO.bind ?_ (fun _ => ?_))
      | exact ih0 _ _ _ _ _ _ _ _ _
      | exact drydocklaw16_awake.mono _
      | exact drydockref16_At.mono _ _ _ _
      | exact drydockref16_Attach.mono _ _ _ _ _ _ _ _
      | exact drydockref16_Detach.mono _ _ _ _ _
      | exact drydockref16_May.mono _ _ _
      | exact drydockref16_Same.mono _ _ _ _ _
      | exact drydockref16_Swap.mono _ _ _ _ _ _ _
      | exact link_At.mono _ _ _ _
      | exact link_Attach.mono _ _ _ _ _ _ _ _
      | exact link_May.mono _ _ _
      | exact link_Swap.mono _ _ _ _ _ _ _
      | exact LeO.none _
      | refine LeO.ite ?_ ?_
      | refine LeO.bind ?_ (fun _ => ?_)
theorem drydocklaw16_LinkTells.mono : ∀ a0 a1 a2 a3 a4 a5 a6 k, LeO (drydocklaw16_LinkTells.f k a0 a1 a2 a3 a4 a5 a6) (drydocklaw16_LinkTells.f (k + 1) a0 a1 a2 a3 a4 a5 a6) := by
 intro a0 a1 a2 a3 a4 a5 a6 k
 have ih0 := drydocklaw16_LinkTells.mono_l k
 unfold drydocklaw16_LinkTells.f
 repeat' first
  | (with_reducible exact ih0 _ _ _ _ _ _ _ _ _)
  | (with_reducible exact drydocklaw16_awake.mono _)
  | (with_reducible exact drydockref16_At.mono _ _ _ _)
  | (with_reducible exact drydockref16_Attach.mono _ _ _ _ _ _ _ _)
  | (with_reducible exact drydockref16_Detach.mono _ _ _ _ _)
  | (with_reducible exact drydockref16_May.mono _ _ _)
  | (with_reducible exact drydockref16_Same.mono _ _ _ _ _)
  | (with_reducible exact drydockref16_Swap.mono _ _ _ _ _ _ _)
  | (with_reducible exact link_At.mono _ _ _ _)
  | (with_reducible exact link_Attach.mono _ _ _ _ _ _ _ _)
  | (with_reducible exact link_May.mono _ _ _)
  | (with_reducible exact link_Swap.mono _ _ _ _ _ _ _)
  | (with_reducible exact LeO.refl _)
  | (with_reducible exact LeO.none _)
  | (with_reducible refine LeO.ite ?_ ?_)
  | (with_reducible refine LeO.bind ?_ (fun _ => ?_))
  | exact ih0 _ _ _ _ _ _ _ _ _
  | exact drydocklaw16_awake.mono _
  | exact drydockref16_At.mono _ _ _ _
  | exact drydockref16_Attach.mono _ _ _ _ _ _ _ _
  | exact drydockref16_Detach.mono _ _ _ _ _
  | exact drydockref16_May.mono _ _ _
  | exact drydockref16_Same.mono _ _ _ _ _
  | exact drydockref16_Swap.mono _ _ _ _ _ _ _
  | exact link_At.mono _ _ _ _
  | exact link_Attach.mono _ _ _ _ _ _ _ _
  | exact link_May.mono _ _ _
  | exact link_Swap.mono _ _ _ _ _ _ _
  | exact LeO.none _
  | refine LeO.ite ?_ ?_
  | refine LeO.bind ?_ (fun _ => ?_)
def drydocklaw16_LinkTells.T16 : Bool × List (List Nat × List Nat) := (true, [([], []), ([0], [0]), ([1], [1]), ([1, 2], [1, 2]), ([3, 1], [3]), ([4], [4]), ([4, 5], [4, 5]), ([6, 4], [6]), ([7], [7]), ([7], [7]), ([8, 9, 7], [7, 8, 9]), ([7, 10], [7, 10]), ([11, 7], [11]), ([12], [12]), ([12], [12]), ([13, 14, 12], [12, 13, 14]), ([12, 15], [12, 15]), ([16, 12], [16]), ([17], [17]), ([17], [17]), ([18, 19, 17, 17], [17, 18, 19]), ([17, 20], [17, 20]), ([21, 20], [21]), ([22], [22]), ([23, 22, 22], [22, 23]), ([22], [22]), ([25, 24, 22], [22, 25]), ([24, 26, 22], [22, 24, 26]), ([22, 27], [22, 27]), ([28, 26, 0, 1, 2, 3, 4, 5, 6, 7, 8, 9, 10, 11, 12, 13, 14, 15, 16, 17, 18, 19, 20, 21, 22, 23, 24, 25, 26, 27, 28], [28])])
def drydocklaw16_LinkTells.B16 : List Nat := [0, 1, 3, 7, 15, 31, 63, 127, 255, 255, 1023, 2047, 4095, 8191, 8191, 32767, 65535, 131071, 262143, 262143, 1048575, 2097151, 4194303, 8388607, 16777215, 8388607, 67108863, 134217727, 268435455, 536870911]
theorem drydocklaw16_LinkTells.tab16 : rtab .any (opsOf Try.f3 16) = drydocklaw16_LinkTells.T16 := by kernel_rfl
theorem drydocklaw16_LinkTells.bits16 : waitsOk drydocklaw16_LinkTells.T16.2 drydocklaw16_LinkTells.B16 = true := by kernel_rfl
set_option maxHeartbeats 8000000 in
set_option maxRecDepth 100000 in
theorem drydocklaw16_LinkTells.calls (k : Nat) (a0_0 : Int) (A0_1 : Option Addr) (c0_1 : Nat) (l0_1 : List (S26)) (a1_0 : Int) (a1_1 : Int) (a2 : Int) (a3 : Int) (a4 : Int) (r : Bool) (w : World) (hr0_1 : Kd.C k26 w A0_1 l0_1.length l0_1) (hc0_1 : l0_1.length ≤ c0_1) (h : drydocklaw16_LinkTells.f k a0_0 l0_1 a1_0 a1_1 a2 a3 a4 = some r) :
    Calls Try.prog 3 #[.agg #[.int .i64 a0_0, .slice A0_1 l0_1.length c0_1], .agg #[.int .i64 a1_0, .int .i64 a1_1], .int .i64 a2, .int .i64 a3, .int .i64 a4] w fun e w' => e = .returned (.bool r) ∧ Below w.heap.size w w' := by
 have hu24 := Try.underlying24
 have hu26 := Try.underlying26
 have HR0_1 := Aside0.mk hr0_1
 have HC0_1 := Aside0.mk hc0_1
 clear hr0_1 hc0_1
 have HB := Aside0.mk (Below.refl w.heap.size w)
 have H : ((drydocklaw16_awake.f k).bind fun t249 => (if t249 = true then (drydocklaw16_LinkTells.j0 k a2 a3 a4 t249 (decide ((l0_1.length : Int) > 20)) a0_0 l0_1 a1_0 a1_1) else (drydocklaw16_LinkTells.j0 k a2 a3 a4 t249 true a0_0 l0_1 a1_0 a1_1))) = some r := h
 clear h
 replace H := Option.bind_eq_some_iff.mp H
 obtain ⟨t249, A60, H⟩ := H
 replace H : (if t249 = true then (drydocklaw16_LinkTells.j0 k a2 a3 a4 t249 (decide ((l0_1.length : Int) > 20)) a0_0 l0_1 a1_0 a1_1) else (drydocklaw16_LinkTells.j0 k a2 a3 a4 t249 true a0_0 l0_1 a1_0 a1_1)) = some r := H
 have A6 := Aside0.mk A60
 clear A60
 have HC7 := Aside0.mk H
 clear H
 go_enter Try.func3, Try.ntmps3
 go_upto_region 2 with (first | ((with_reducible refine gate_dst (N := 5) rfl ?_); (try (refine gate_guard (by rfl) ?_; dsimp only)); refine box_event ?hg (N := 5) ?hd (cs := #[.int .i64 a0_0, .slice A0_1 l0_1.length c0_1]) (t := 24) ?hr ?_; (case hd => rfl); (case hg => rfl); (case hr => first | (go_simp; done) | (go_simp; rfl)); intro gb247 hg w8 hbox hb; have n0_ := Aside0.mk (below_step bs_ hb); have n1_ := Aside0.mk (hbox); have n2_ := Aside0.mk ((by rw [hg]; exact (below_size bs_) : w.heap.size ≤ gb247)); have n3_ := Aside0.mk ((by rw [hg]; exact (below_size bs_) : w.heap.size ≤ gb247)); clear HB; have HB := n0_; have BK247 := n1_; have GW247 := n2_; have GE247 := n3_; clear n0_ n1_ n2_ n3_; clear hb hbox hg) | ((with_reducible refine gate_dst (N := 6) rfl ?_); (try (refine gate_guard (by rfl) ?_; dsimp only)); refine box_event ?hg (N := 6) ?hd (cs := #[.int .i64 a1_0, .int .i64 a1_1]) (t := 26) ?hr ?_; (case hd => rfl); (case hg => rfl); (case hr => first | (go_simp; done) | (go_simp; rfl)); intro gb248 hg w9 hbox hb; have n0_ := Aside0.mk (blk_below (bk_ BK247) hb); have n1_ := Aside0.mk (below_step bs_ hb); have n2_ := Aside0.mk (hbox); have n3_ := Aside0.mk ((by rw [hg]; exact (below_size bs_) : w.heap.size ≤ gb248)); have n4_ := Aside0.mk ((by rw [hg]; exact (below_size bs_) : w.heap.size ≤ gb248)); have n5_ := Aside0.mk ((by rw [hg]; exact Nat.ne_of_lt (blk_lt (bk_ BK247)) : gb247 ≠ gb248)); have n6_ := Aside0.mk ((by rw [hg]; exact Nat.ne_of_gt (blk_lt (bk_ BK247)) : gb248 ≠ gb247)); clear BK247 HB; have BK247 := n0_; have HB := n1_; have BK248 := n2_; have GW248 := n3_; have GE248 := n4_; have NB247_248 := n5_; have NB248_247 := n6_; clear n0_ n1_ n2_ n3_ n4_ n5_ n6_; clear hb hbox hg) | ((with_reducible refine gate_callee (f := 10) rfl ?_); refine goesL_ (some 32) rfl rfl Try.func10 (by kernel_rfl) rfl #[] rfl (by (try simp only [List.map_toArray, List.map_cons, List.map_nil]); first | done | rfl | (simp only [List.length_drop, List.length_take]; rfl)) ?_; (with_reducible refine (drydocklaw16_awake.calls k  t249 _ A6.out).mono ?_); rintro e w10 ⟨rfl, hb⟩; refine ⟨_, rfl, ?_⟩; have n0_ := Aside0.mk (blk_below (bk_ BK247) hb); have n1_ := Aside0.mk (blk_below (bk_ BK248) hb); have n2_ := Aside0.mk (below_step bs_ hb); clear BK247 BK248 HB; have BK247 := n0_; have BK248 := n1_; have HB := n2_; clear n0_ n1_ n2_; (try clear hb); (try clear hb2); (try clear hk); (try clear hi)))
 (try simp only [Act.put, List.setIfInBounds_toArray, List.set_cons_zero, List.set_cons_succ])
 go_cut [40] (fun v40 wc => ∃ (kq : Nat) (x40_6 : Bool), v40 = .bool x40_6 ∧ Aside0 (drydocklaw16_LinkTells.j0 kq a2 a3 a4 t249 x40_6 a0_0 l0_1 a1_0 a1_1 = some r) ∧ Aside0 (kq ≤ k) ∧ Aside0 (wc.heap[gb247]? = some (.cells #[.int .i64 a0_0, (.slice A0_1 l0_1.length c0_1)] 24 (0, 0))) ∧ Aside0 (wc.heap[gb248]? = some (.cells #[.int .i64 a1_0, .int .i64 a1_1] 26 (0, 0))) ∧ Aside0 (Below w.heap.size w wc))
 case first =>
  have H := HC7.out
  clear HC7
  by_cases c11 : t249 = true
  ·subst c11
   have H1 : (drydocklaw16_LinkTells.j0 k a2 a3 a4 true (decide ((l0_1.length : Int) > 20)) a0_0 l0_1 a1_0 a1_1) = some r := by rw [if_pos rfl] at H; exact H
   clear H
   have H := H1
   clear H1
   have H' := Aside0.mk H
   clear H
   have hnb12 := NB247_248.out
   have hnc12 := NB248_247.out
   obtain ⟨hcz13_0, hcz13_1, hfz13_0, hfz13_1⟩ := blk2 BK247
   go_wp2
   go_meet
   case rel => exact ⟨_, (decide ((l0_1.length : Int) > 20)), (by first | rfl | (simp; done) | (simp [*]; done)), H', ⟨by first | omega | exact Nat.le_refl _⟩, ⟨bk_ BK247⟩, ⟨bk_ BK248⟩, ⟨bs_⟩⟩
  ·replace c11 := Bool.eq_false_iff.mpr c11
   subst c11
   have H1 : (drydocklaw16_LinkTells.j0 k a2 a3 a4 false true a0_0 l0_1 a1_0 a1_1) = some r := by rw [if_neg (show ¬ (false = true) by decide)] at H; exact H
   clear H
   have H := H1
   clear H1
   have H' := Aside0.mk H
   clear H
   go_wp2
   go_meet
   case rel => exact ⟨_, (true), (by first | rfl | (simp; done) | (simp [*]; done)), H', ⟨by first | omega | exact Nat.le_refl _⟩, ⟨bk_ BK247⟩, ⟨bk_ BK248⟩, ⟨bs_⟩⟩
 case rest =>
  clear HC7
  obtain ⟨kq, x40_6, rfl, HA, HJ6, BK247, BK248, HB⟩ := hcut
  cases kq with
  | zero => exact absurd HA.out (by simp [drydocklaw16_LinkTells.j0])
  | succ kj6 =>
   have H := HA.out
   clear HA
   simp only [drydocklaw16_LinkTells.j0] at H
   by_cases c14 : x40_6 = true
   ·subst c14
    have H1 : (some t249) = some r := by rw [if_pos rfl] at H; exact H
    clear H
    have H := H1
    clear H1
    obtain rfl := Option.some.inj H
    go_wp2
    go_ret
    exact ⟨by first | rfl | (simp [errW_none, errW_some] <;> rfl) | (simp [*, errW_none, errW_some] <;> rfl), by repeat (first | (with_reducible first | exact HB.out | apply below_alloc | apply pw_below_drewN | apply below_drew1 | refine below_set ?_ GE247.out | refine below_set ?_ GE248.out) | exact HB.out)⟩
   ·replace c14 := Bool.eq_false_iff.mpr c14
    subst c14
    have H1 : ((drydockref16_Own.f a0_0 l0_1).bind fun bt250 => ((link_Attach.f kj6 a0_0 l0_1 a1_0 a1_1 a2 a3 a4).bind fun bt255 => ((drydockref16_Attach.f kj6 a0_0 l0_1 a1_0 a1_1 a2 a3 a4).bind fun bt261 => ((drydockref16_Same.f kj6 bt255.1 bt255.2.1 bt261.1 bt261.2.1).bind fun t267 => (if t267 = true then ((link_Detach.f a0_0 l0_1 a3 a4).bind fun bt268 => ((drydockref16_Detach.f kj6 a0_0 l0_1 a3 a4).bind fun bt274 => ((drydockref16_Same.f kj6 bt268.1 bt268.2.1 bt274.1 bt274.2.1).bind fun t280 => (if t280 = true then ((link_Swap.f kj6 a0_0 l0_1 a3 a1_0 a1_1 a4).bind fun bt281 => ((drydockref16_Swap.f kj6 a0_0 l0_1 a3 a1_0 a1_1 a4).bind fun bt287 => ((drydockref16_Same.f kj6 bt281.1 bt281.2.1 bt287.1 bt287.2.1).bind fun t293 => (if t293 = true then ((link_At.f kj6 a0_0 l0_1 a3).bind fun bt294 => ((drydockref16_At.f kj6 a0_0 l0_1 a3).bind fun bt296 => (if bt255.2.2 = bt261.2.2 then (if bt268.2.2 = bt274.2.2 then (if bt281.2.2 = bt287.2.2 then (if bt294.1 = bt296.1 then (if (bt294.2 == bt296.2) = true then ((drydockref16_Same.f kj6 a0_0 l0_1 bt250.1 bt250.2).bind fun t298 => (if t298 = true then ((link_May.f kj6 a0_0 l0_1).bind fun t299 => ((drydockref16_May.f kj6 a0_0 l0_1).bind fun t300 => (some (t299 == t300)))) else (none))) else (none)) else (none)) else (none)) else (none)) else (none)))) else (none))))) else (none))))) else (none)))))) = some r := by rw [if_neg (show ¬ (false = true) by decide)] at H; exact H
    clear H
    have H := H1
    clear H1
    replace H := Option.bind_eq_some_iff.mp H
    obtain ⟨⟨t250, t251⟩, A150, H⟩ := H
    replace H : ((link_Attach.f kj6 a0_0 l0_1 a1_0 a1_1 a2 a3 a4).bind fun bt255 => ((drydockref16_Attach.f kj6 a0_0 l0_1 a1_0 a1_1 a2 a3 a4).bind fun bt261 => ((drydockref16_Same.f kj6 bt255.1 bt255.2.1 bt261.1 bt261.2.1).bind fun t267 => (if t267 = true then ((link_Detach.f a0_0 l0_1 a3 a4).bind fun bt268 => ((drydockref16_Detach.f kj6 a0_0 l0_1 a3 a4).bind fun bt274 => ((drydockref16_Same.f kj6 bt268.1 bt268.2.1 bt274.1 bt274.2.1).bind fun t280 => (if t280 = true then ((link_Swap.f kj6 a0_0 l0_1 a3 a1_0 a1_1 a4).bind fun bt281 => ((drydockref16_Swap.f kj6 a0_0 l0_1 a3 a1_0 a1_1 a4).bind fun bt287 => ((drydockref16_Same.f kj6 bt281.1 bt281.2.1 bt287.1 bt287.2.1).bind fun t293 => (if t293 = true then ((link_At.f kj6 a0_0 l0_1 a3).bind fun bt294 => ((drydockref16_At.f kj6 a0_0 l0_1 a3).bind fun bt296 => (if bt255.2.2 = bt261.2.2 then (if bt268.2.2 = bt274.2.2 then (if bt281.2.2 = bt287.2.2 then (if bt294.1 = bt296.1 then (if (bt294.2 == bt296.2) = true then ((drydockref16_Same.f kj6 a0_0 l0_1 t250 t251).bind fun t298 => (if t298 = true then ((link_May.f kj6 a0_0 l0_1).bind fun t299 => ((drydockref16_May.f kj6 a0_0 l0_1).bind fun t300 => (some (t299 == t300)))) else (none))) else (none)) else (none)) else (none)) else (none)) else (none)))) else (none))))) else (none))))) else (none))))) = some r := H
    have A15 := Aside0.mk A150
    clear A150
    replace H := Option.bind_eq_some_iff.mp H
    obtain ⟨⟨t255, t256, t259⟩, A160, H⟩ := H
    replace H : ((drydockref16_Attach.f kj6 a0_0 l0_1 a1_0 a1_1 a2 a3 a4).bind fun bt261 => ((drydockref16_Same.f kj6 t255 t256 bt261.1 bt261.2.1).bind fun t267 => (if t267 = true then ((link_Detach.f a0_0 l0_1 a3 a4).bind fun bt268 => ((drydockref16_Detach.f kj6 a0_0 l0_1 a3 a4).bind fun bt274 => ((drydockref16_Same.f kj6 bt268.1 bt268.2.1 bt274.1 bt274.2.1).bind fun t280 => (if t280 = true then ((link_Swap.f kj6 a0_0 l0_1 a3 a1_0 a1_1 a4).bind fun bt281 => ((drydockref16_Swap.f kj6 a0_0 l0_1 a3 a1_0 a1_1 a4).bind fun bt287 => ((drydockref16_Same.f kj6 bt281.1 bt281.2.1 bt287.1 bt287.2.1).bind fun t293 => (if t293 = true then ((link_At.f kj6 a0_0 l0_1 a3).bind fun bt294 => ((drydockref16_At.f kj6 a0_0 l0_1 a3).bind fun bt296 => (if t259 = bt261.2.2 then (if bt268.2.2 = bt274.2.2 then (if bt281.2.2 = bt287.2.2 then (if bt294.1 = bt296.1 then (if (bt294.2 == bt296.2) = true then ((drydockref16_Same.f kj6 a0_0 l0_1 t250 t251).bind fun t298 => (if t298 = true then ((link_May.f kj6 a0_0 l0_1).bind fun t299 => ((drydockref16_May.f kj6 a0_0 l0_1).bind fun t300 => (some (t299 == t300)))) else (none))) else (none)) else (none)) else (none)) else (none)) else (none)))) else (none))))) else (none))))) else (none)))) = some r := H
    have A16 := Aside0.mk A160
    clear A160
    replace H := Option.bind_eq_some_iff.mp H
    obtain ⟨⟨t261, t262, t265⟩, A170, H⟩ := H
    replace H : ((drydockref16_Same.f kj6 t255 t256 t261 t262).bind fun t267 => (if t267 = true then ((link_Detach.f a0_0 l0_1 a3 a4).bind fun bt268 => ((drydockref16_Detach.f kj6 a0_0 l0_1 a3 a4).bind fun bt274 => ((drydockref16_Same.f kj6 bt268.1 bt268.2.1 bt274.1 bt274.2.1).bind fun t280 => (if t280 = true then ((link_Swap.f kj6 a0_0 l0_1 a3 a1_0 a1_1 a4).bind fun bt281 => ((drydockref16_Swap.f kj6 a0_0 l0_1 a3 a1_0 a1_1 a4).bind fun bt287 => ((drydockref16_Same.f kj6 bt281.1 bt281.2.1 bt287.1 bt287.2.1).bind fun t293 => (if t293 = true then ((link_At.f kj6 a0_0 l0_1 a3).bind fun bt294 => ((drydockref16_At.f kj6 a0_0 l0_1 a3).bind fun bt296 => (if t259 = t265 then (if bt268.2.2 = bt274.2.2 then (if bt281.2.2 = bt287.2.2 then (if bt294.1 = bt296.1 then (if (bt294.2 == bt296.2) = true then ((drydockref16_Same.f kj6 a0_0 l0_1 t250 t251).bind fun t298 => (if t298 = true then ((link_May.f kj6 a0_0 l0_1).bind fun t299 => ((drydockref16_May.f kj6 a0_0 l0_1).bind fun t300 => (some (t299 == t300)))) else (none))) else (none)) else (none)) else (none)) else (none)) else (none)))) else (none))))) else (none))))) else (none))) = some r := H
    have A17 := Aside0.mk A170
    clear A170
    replace H := Option.bind_eq_some_iff.mp H
    obtain ⟨t267, A180, H⟩ := H
    replace H : (if t267 = true then ((link_Detach.f a0_0 l0_1 a3 a4).bind fun bt268 => ((drydockref16_Detach.f kj6 a0_0 l0_1 a3 a4).bind fun bt274 => ((drydockref16_Same.f kj6 bt268.1 bt268.2.1 bt274.1 bt274.2.1).bind fun t280 => (if t280 = true then ((link_Swap.f kj6 a0_0 l0_1 a3 a1_0 a1_1 a4).bind fun bt281 => ((drydockref16_Swap.f kj6 a0_0 l0_1 a3 a1_0 a1_1 a4).bind fun bt287 => ((drydockref16_Same.f kj6 bt281.1 bt281.2.1 bt287.1 bt287.2.1).bind fun t293 => (if t293 = true then ((link_At.f kj6 a0_0 l0_1 a3).bind fun bt294 => ((drydockref16_At.f kj6 a0_0 l0_1 a3).bind fun bt296 => (if t259 = t265 then (if bt268.2.2 = bt274.2.2 then (if bt281.2.2 = bt287.2.2 then (if bt294.1 = bt296.1 then (if (bt294.2 == bt296.2) = true then ((drydockref16_Same.f kj6 a0_0 l0_1 t250 t251).bind fun t298 => (if t298 = true then ((link_May.f kj6 a0_0 l0_1).bind fun t299 => ((drydockref16_May.f kj6 a0_0 l0_1).bind fun t300 => (some (t299 == t300)))) else (none))) else (none)) else (none)) else (none)) else (none)) else (none)))) else (none))))) else (none))))) else (none)) = some r := H
    have A18 := Aside0.mk A180
    clear A180
    by_cases c19 : t267 = true
    ·subst c19
     have H1 : ((link_Detach.f a0_0 l0_1 a3 a4).bind fun bt268 => ((drydockref16_Detach.f kj6 a0_0 l0_1 a3 a4).bind fun bt274 => ((drydockref16_Same.f kj6 bt268.1 bt268.2.1 bt274.1 bt274.2.1).bind fun t280 => (if t280 = true then ((link_Swap.f kj6 a0_0 l0_1 a3 a1_0 a1_1 a4).bind fun bt281 => ((drydockref16_Swap.f kj6 a0_0 l0_1 a3 a1_0 a1_1 a4).bind fun bt287 => ((drydockref16_Same.f kj6 bt281.1 bt281.2.1 bt287.1 bt287.2.1).bind fun t293 => (if t293 = true then ((link_At.f kj6 a0_0 l0_1 a3).bind fun bt294 => ((drydockref16_At.f kj6 a0_0 l0_1 a3).bind fun bt296 => (if t259 = t265 then (if bt268.2.2 = bt274.2.2 then (if bt281.2.2 = bt287.2.2 then (if bt294.1 = bt296.1 then (if (bt294.2 == bt296.2) = true then ((drydockref16_Same.f kj6 a0_0 l0_1 t250 t251).bind fun t298 => (if t298 = true then ((link_May.f kj6 a0_0 l0_1).bind fun t299 => ((drydockref16_May.f kj6 a0_0 l0_1).bind fun t300 => (some (t299 == t300)))) else (none))) else (none)) else (none)) else (none)) else (none)) else (none)))) else (none))))) else (none))))) = some r := by rw [if_pos rfl] at H; exact H
     clear H
     have H := H1
     clear H1
     replace H := Option.bind_eq_some_iff.mp H
     obtain ⟨⟨t268, t269, t272⟩, A200, H⟩ := H
     replace H : ((drydockref16_Detach.f kj6 a0_0 l0_1 a3 a4).bind fun bt274 => ((drydockref16_Same.f kj6 t268 t269 bt274.1 bt274.2.1).bind fun t280 => (if t280 = true then ((link_Swap.f kj6 a0_0 l0_1 a3 a1_0 a1_1 a4).bind fun bt281 => ((drydockref16_Swap.f kj6 a0_0 l0_1 a3 a1_0 a1_1 a4).bind fun bt287 => ((drydockref16_Same.f kj6 bt281.1 bt281.2.1 bt287.1 bt287.2.1).bind fun t293 => (if t293 = true then ((link_At.f kj6 a0_0 l0_1 a3).bind fun bt294 => ((drydockref16_At.f kj6 a0_0 l0_1 a3).bind fun bt296 => (if t259 = t265 then (if t272 = bt274.2.2 then (if bt281.2.2 = bt287.2.2 then (if bt294.1 = bt296.1 then (if (bt294.2 == bt296.2) = true then ((drydockref16_Same.f kj6 a0_0 l0_1 t250 t251).bind fun t298 => (if t298 = true then ((link_May.f kj6 a0_0 l0_1).bind fun t299 => ((drydockref16_May.f kj6 a0_0 l0_1).bind fun t300 => (some (t299 == t300)))) else (none))) else (none)) else (none)) else (none)) else (none)) else (none)))) else (none))))) else (none)))) = some r := H
     have A20 := Aside0.mk A200
     clear A200
     replace H := Option.bind_eq_some_iff.mp H
     obtain ⟨⟨t274, t275, t278⟩, A210, H⟩ := H
     replace H : ((drydockref16_Same.f kj6 t268 t269 t274 t275).bind fun t280 => (if t280 = true then ((link_Swap.f kj6 a0_0 l0_1 a3 a1_0 a1_1 a4).bind fun bt281 => ((drydockref16_Swap.f kj6 a0_0 l0_1 a3 a1_0 a1_1 a4).bind fun bt287 => ((drydockref16_Same.f kj6 bt281.1 bt281.2.1 bt287.1 bt287.2.1).bind fun t293 => (if t293 = true then ((link_At.f kj6 a0_0 l0_1 a3).bind fun bt294 => ((drydockref16_At.f kj6 a0_0 l0_1 a3).bind fun bt296 => (if t259 = t265 then (if t272 = t278 then (if bt281.2.2 = bt287.2.2 then (if bt294.1 = bt296.1 then (if (bt294.2 == bt296.2) = true then ((drydockref16_Same.f kj6 a0_0 l0_1 t250 t251).bind fun t298 => (if t298 = true then ((link_May.f kj6 a0_0 l0_1).bind fun t299 => ((drydockref16_May.f kj6 a0_0 l0_1).bind fun t300 => (some (t299 == t300)))) else (none))) else (none)) else (none)) else (none)) else (none)) else (none)))) else (none))))) else (none))) = some r := H
     have A21 := Aside0.mk A210
     clear A210
     replace H := Option.bind_eq_some_iff.mp H
     obtain ⟨t280, A220, H⟩ := H
     replace H : (if t280 = true then ((link_Swap.f kj6 a0_0 l0_1 a3 a1_0 a1_1 a4).bind fun bt281 => ((drydockref16_Swap.f kj6 a0_0 l0_1 a3 a1_0 a1_1 a4).bind fun bt287 => ((drydockref16_Same.f kj6 bt281.1 bt281.2.1 bt287.1 bt287.2.1).bind fun t293 => (if t293 = true then ((link_At.f kj6 a0_0 l0_1 a3).bind fun bt294 => ((drydockref16_At.f kj6 a0_0 l0_1 a3).bind fun bt296 => (if t259 = t265 then (if t272 = t278 then (if bt281.2.2 = bt287.2.2 then (if bt294.1 = bt296.1 then (if (bt294.2 == bt296.2) = true then ((drydockref16_Same.f kj6 a0_0 l0_1 t250 t251).bind fun t298 => (if t298 = true then ((link_May.f kj6 a0_0 l0_1).bind fun t299 => ((drydockref16_May.f kj6 a0_0 l0_1).bind fun t300 => (some (t299 == t300)))) else (none))) else (none)) else (none)) else (none)) else (none)) else (none)))) else (none))))) else (none)) = some r := H
     have A22 := Aside0.mk A220
     clear A220
     by_cases c23 : t280 = true
     ·subst c23
      have H1 : ((link_Swap.f kj6 a0_0 l0_1 a3 a1_0 a1_1 a4).bind fun bt281 => ((drydockref16_Swap.f kj6 a0_0 l0_1 a3 a1_0 a1_1 a4).bind fun bt287 => ((drydockref16_Same.f kj6 bt281.1 bt281.2.1 bt287.1 bt287.2.1).bind fun t293 => (if t293 = true then ((link_At.f kj6 a0_0 l0_1 a3).bind fun bt294 => ((drydockref16_At.f kj6 a0_0 l0_1 a3).bind fun bt296 => (if t259 = t265 then (if t272 = t278 then (if bt281.2.2 = bt287.2.2 then (if bt294.1 = bt296.1 then (if (bt294.2 == bt296.2) = true then ((drydockref16_Same.f kj6 a0_0 l0_1 t250 t251).bind fun t298 => (if t298 = true then ((link_May.f kj6 a0_0 l0_1).bind fun t299 => ((drydockref16_May.f kj6 a0_0 l0_1).bind fun t300 => (some (t299 == t300)))) else (none))) else (none)) else (none)) else (none)) else (none)) else (none)))) else (none))))) = some r := by rw [if_pos rfl] at H; exact H
      clear H
      have H := H1
      clear H1
      replace H := Option.bind_eq_some_iff.mp H
      obtain ⟨⟨t281, t282, t285⟩, A240, H⟩ := H
      replace H : ((drydockref16_Swap.f kj6 a0_0 l0_1 a3 a1_0 a1_1 a4).bind fun bt287 => ((drydockref16_Same.f kj6 t281 t282 bt287.1 bt287.2.1).bind fun t293 => (if t293 = true then ((link_At.f kj6 a0_0 l0_1 a3).bind fun bt294 => ((drydockref16_At.f kj6 a0_0 l0_1 a3).bind fun bt296 => (if t259 = t265 then (if t272 = t278 then (if t285 = bt287.2.2 then (if bt294.1 = bt296.1 then (if (bt294.2 == bt296.2) = true then ((drydockref16_Same.f kj6 a0_0 l0_1 t250 t251).bind fun t298 => (if t298 = true then ((link_May.f kj6 a0_0 l0_1).bind fun t299 => ((drydockref16_May.f kj6 a0_0 l0_1).bind fun t300 => (some (t299 == t300)))) else (none))) else (none)) else (none)) else (none)) else (none)) else (none)))) else (none)))) = some r := H
      have A24 := Aside0.mk A240
      clear A240
      replace H := Option.bind_eq_some_iff.mp H
      obtain ⟨⟨t287, t288, t291⟩, A250, H⟩ := H
      replace H : ((drydockref16_Same.f kj6 t281 t282 t287 t288).bind fun t293 => (if t293 = true then ((link_At.f kj6 a0_0 l0_1 a3).bind fun bt294 => ((drydockref16_At.f kj6 a0_0 l0_1 a3).bind fun bt296 => (if t259 = t265 then (if t272 = t278 then (if t285 = t291 then (if bt294.1 = bt296.1 then (if (bt294.2 == bt296.2) = true then ((drydockref16_Same.f kj6 a0_0 l0_1 t250 t251).bind fun t298 => (if t298 = true then ((link_May.f kj6 a0_0 l0_1).bind fun t299 => ((drydockref16_May.f kj6 a0_0 l0_1).bind fun t300 => (some (t299 == t300)))) else (none))) else (none)) else (none)) else (none)) else (none)) else (none)))) else (none))) = some r := H
      have A25 := Aside0.mk A250
      clear A250
      replace H := Option.bind_eq_some_iff.mp H
      obtain ⟨t293, A260, H⟩ := H
      replace H : (if t293 = true then ((link_At.f kj6 a0_0 l0_1 a3).bind fun bt294 => ((drydockref16_At.f kj6 a0_0 l0_1 a3).bind fun bt296 => (if t259 = t265 then (if t272 = t278 then (if t285 = t291 then (if bt294.1 = bt296.1 then (if (bt294.2 == bt296.2) = true then ((drydockref16_Same.f kj6 a0_0 l0_1 t250 t251).bind fun t298 => (if t298 = true then ((link_May.f kj6 a0_0 l0_1).bind fun t299 => ((drydockref16_May.f kj6 a0_0 l0_1).bind fun t300 => (some (t299 == t300)))) else (none))) else (none)) else (none)) else (none)) else (none)) else (none)))) else (none)) = some r := H
      have A26 := Aside0.mk A260
      clear A260
      by_cases c27 : t293 = true
      ·subst c27
       have H1 : ((link_At.f kj6 a0_0 l0_1 a3).bind fun bt294 => ((drydockref16_At.f kj6 a0_0 l0_1 a3).bind fun bt296 => (if t259 = t265 then (if t272 = t278 then (if t285 = t291 then (if bt294.1 = bt296.1 then (if (bt294.2 == bt296.2) = true then ((drydockref16_Same.f kj6 a0_0 l0_1 t250 t251).bind fun t298 => (if t298 = true then ((link_May.f kj6 a0_0 l0_1).bind fun t299 => ((drydockref16_May.f kj6 a0_0 l0_1).bind fun t300 => (some (t299 == t300)))) else (none))) else (none)) else (none)) else (none)) else (none)) else (none)))) = some r := by rw [if_pos rfl] at H; exact H
       clear H
       have H := H1
       clear H1
       replace H := Option.bind_eq_some_iff.mp H
       obtain ⟨⟨t294, t295⟩, A280, H⟩ := H
       replace H : ((drydockref16_At.f kj6 a0_0 l0_1 a3).bind fun bt296 => (if t259 = t265 then (if t272 = t278 then (if t285 = t291 then (if t294 = bt296.1 then (if (t295 == bt296.2) = true then ((drydockref16_Same.f kj6 a0_0 l0_1 t250 t251).bind fun t298 => (if t298 = true then ((link_May.f kj6 a0_0 l0_1).bind fun t299 => ((drydockref16_May.f kj6 a0_0 l0_1).bind fun t300 => (some (t299 == t300)))) else (none))) else (none)) else (none)) else (none)) else (none)) else (none))) = some r := H
       have A28 := Aside0.mk A280
       clear A280
       replace H := Option.bind_eq_some_iff.mp H
       obtain ⟨⟨t296, t297⟩, A290, H⟩ := H
       replace H : (if t259 = t265 then (if t272 = t278 then (if t285 = t291 then (if t294 = t296 then (if (t295 == t297) = true then ((drydockref16_Same.f kj6 a0_0 l0_1 t250 t251).bind fun t298 => (if t298 = true then ((link_May.f kj6 a0_0 l0_1).bind fun t299 => ((drydockref16_May.f kj6 a0_0 l0_1).bind fun t300 => (some (t299 == t300)))) else (none))) else (none)) else (none)) else (none)) else (none)) else (none)) = some r := H
       have A29 := Aside0.mk A290
       clear A290
       by_cases c30 : t259 = t265
       ·rw [if_pos c30] at H
        have c30b0 : (t259 == t265) = true := beq_iff_eq.mpr c30
        have c30b1 : (t259 != t265) = false := bne_eq_false_iff_eq.mpr c30
        clear c30
        by_cases c31 : t272 = t278
        ·rw [if_pos c31] at H
         have c31b0 : (t272 == t278) = true := beq_iff_eq.mpr c31
         have c31b1 : (t272 != t278) = false := bne_eq_false_iff_eq.mpr c31
         clear c31
         by_cases c32 : t285 = t291
         ·rw [if_pos c32] at H
          have c32b0 : (t285 == t291) = true := beq_iff_eq.mpr c32
          have c32b1 : (t285 != t291) = false := bne_eq_false_iff_eq.mpr c32
          clear c32
          by_cases c33 : t294 = t296
          ·rw [if_pos c33] at H
           have c33b0 : (t294 == t296) = true := beq_iff_eq.mpr c33
           have c33b1 : (t294 != t296) = false := bne_eq_false_iff_eq.mpr c33
           clear c33
           by_cases c34 : (t295 == t297) = true
           ·rw [if_pos c34] at H
            have c34b0 : (t295 == t297) = true := c34
            (try (have c34b1 : decide (t295 = t297) = true := by simpa using c34))
            (try (have c34b2 : (t295 == t297) = true := by simpa using c34))
            clear c34
            replace H := Option.bind_eq_some_iff.mp H
            obtain ⟨t298, A350, H⟩ := H
            replace H : (if t298 = true then ((link_May.f kj6 a0_0 l0_1).bind fun t299 => ((drydockref16_May.f kj6 a0_0 l0_1).bind fun t300 => (some (t299 == t300)))) else (none)) = some r := H
            have A35 := Aside0.mk A350
            clear A350
            by_cases c36 : t298 = true
            ·subst c36
             have H1 : ((link_May.f kj6 a0_0 l0_1).bind fun t299 => ((drydockref16_May.f kj6 a0_0 l0_1).bind fun t300 => (some (t299 == t300)))) = some r := by rw [if_pos rfl] at H; exact H
             clear H
             have H := H1
             clear H1
             replace H := Option.bind_eq_some_iff.mp H
             obtain ⟨t299, A370, H⟩ := H
             replace H : ((drydockref16_May.f kj6 a0_0 l0_1).bind fun t300 => (some (t299 == t300))) = some r := H
             have A37 := Aside0.mk A370
             clear A370
             replace H := Option.bind_eq_some_iff.mp H
             obtain ⟨t300, A380, H⟩ := H
             replace H : (some (t299 == t300)) = some r := H
             have A38 := Aside0.mk A380
             clear A380
             obtain rfl := Option.some.inj H
             have hnb39 := NB247_248.out
             have hnc39 := NB248_247.out
             obtain ⟨hcz40_0, hcz40_1, hfz40_0, hfz40_1⟩ := blk2 BK247
             try go_wp2_with (first | ((with_reducible refine gate_callee (f := 11) rfl ?_); refine goesL_ (some 43) rfl rfl Try.func11 (by kernel_rfl) rfl #[.agg #[.int .i64 a0_0, .slice A0_1 l0_1.length c0_1]] rfl (by (try simp only [List.map_toArray, List.map_cons, List.map_nil]); first | done | rfl | (simp only [List.length_drop, List.length_take]; rfl)) ?_; (with_reducible refine (drydockref16_Own.calls a0_0 _ _ l0_1 t250 t251 _ ?side1 ?side2 A15.out).mono ?_); (case side1 => repeat (first | exact (Kd.C_below HR0_1.out HB.out) | (with_reducible refine Kd.C_alloc ?_ _) | (with_reducible refine Kd.C_drewN ?_ _) | (with_reducible refine Kd.C_drew ?_))); (case side2 => exact HC0_1.out); rintro e w41 ⟨v252, rfl, ho0, hb⟩; refine ⟨_, rfl, ?_⟩; have n0_ := Aside0.mk (Kd.R_lower (Kd.R_newB ho0 (g := gb248) (o := .cells #[.int .i64 a1_0, .int .i64 a1_1] 26 (0, 0)) (by (with_reducible repeat (first | refine blk_drewN ?_ _ | refine blk_drew ?_ | refine blk_alloc ?_ _)); exact BK248.out)) (below_size bs_)); have n1_ := Aside0.mk (blk_below (bk_ BK247) hb); have n2_ := Aside0.mk (blk_below (bk_ BK248) hb); have n3_ := Aside0.mk (below_step bs_ hb); clear BK247 BK248 HB; have HO253 := n0_; have BK247 := n1_; have BK248 := n2_; have HB := n3_; clear n0_ n1_ n2_ n3_; (try clear hb); (try clear hb2); (try clear hk); (try clear hi); (try clear ho0); obtain ⟨Ao42, co42, eo42⟩ := Kd.R_slice HO253.out; subst eo42) | ((with_reducible refine gate_dst (N := 12) rfl ?_); (try (refine gate_guard (by rfl) ?_; dsimp only)); refine box_event ?hg (N := 12) ?hd (cs := #[.int .i64 0, .slice none 0 0]) (t := 24) ?hr ?_; (case hd => rfl); (case hg => rfl); (case hr => first | (go_simp; done) | (go_simp; rfl)); intro gb254 hg w43 hbox hb; have n0_ := Aside0.mk (Kd.R_below (rk_ HO253) hb); have n1_ := Aside0.mk (blk_below (bk_ BK247) hb); have n2_ := Aside0.mk (blk_below (bk_ BK248) hb); have n3_ := Aside0.mk (below_step bs_ hb); have n4_ := Aside0.mk (hbox); have n5_ := Aside0.mk ((by rw [hg]; exact (below_size bs_) : w.heap.size ≤ gb254)); have n6_ := Aside0.mk ((by rw [hg]; exact (below_size bs_) : w.heap.size ≤ gb254)); have n7_ := Aside0.mk ((by rw [hg]; exact Nat.ne_of_lt (blk_lt (bk_ BK247)) : gb247 ≠ gb254)); have n8_ := Aside0.mk ((by rw [hg]; exact Nat.ne_of_gt (blk_lt (bk_ BK247)) : gb254 ≠ gb247)); have n9_ := Aside0.mk ((by rw [hg]; exact Nat.ne_of_lt (blk_lt (bk_ BK248)) : gb248 ≠ gb254)); have n10_ := Aside0.mk ((by rw [hg]; exact Nat.ne_of_gt (blk_lt (bk_ BK248)) : gb254 ≠ gb248)); clear HO253 BK247 BK248 HB; have HO253 := n0_; have BK247 := n1_; have BK248 := n2_; have HB := n3_; have BK254 := n4_; have GW254 := n5_; have GE254 := n6_; have NB247_254 := n7_; have NB254_247 := n8_; have NB248_254 := n9_; have NB254_248 := n10_; clear n0_ n1_ n2_ n3_ n4_ n5_ n6_ n7_ n8_ n9_ n10_; clear hb hbox hg; have hnb44 := NB254_247.out; have hnc44 := NB247_254.out; have hnb45 := NB254_248.out; have hnc45 := NB248_254.out; obtain ⟨hcz46_0, hcz46_1, hfz46_0, hfz46_1⟩ := blk2 BK254; obtain ⟨hcz47_0, hcz47_1, hfz47_0, hfz47_1⟩ := blk2 BK247; obtain ⟨hcz48_0, hcz48_1, hfz48_0, hfz48_1⟩ := blk2 BK248) | ((with_reducible refine gate_callee (f := 12) rfl ?_); refine goesL_ (some 50) rfl rfl Try.func12 (by kernel_rfl) rfl #[.agg #[.int .i64 a0_0, .slice A0_1 l0_1.length c0_1], .agg #[.int .i64 a1_0, .int .i64 a1_1], .int .i64 a2, .int .i64 a3, .int .i64 a4] rfl (by (try simp only [List.map_toArray, List.map_cons, List.map_nil]); first | done | rfl | (simp only [List.length_drop, List.length_take]; rfl)) ?_; (with_reducible refine (link_Attach.calls kj6 a0_0 _ _ l0_1 a1_0 a1_1 a2 a3 a4 t255 t256 t259 _ ?side1 ?side2 A16.out).mono ?_); (case side1 => exact Kd.C_below HR0_1.out bs_); (case side2 => exact HC0_1.out); rintro e w49 ⟨v257, rfl, ho0, hb⟩; refine ⟨_, rfl, ?_⟩; have n0_ := Aside0.mk (Kd.R_elder' (by (with_reducible repeat (first | apply Kd.R_alloc | apply Kd.R_drewN | apply Kd.R_drew)); exact (Kd.R_mono (far2 gb254 (Kd.R_types HO253.out BK254.out (by decide)) (fun _ hk => hk.2)) (fun _ h_ => h_.1))) (Kd.R_base ho0) hb); have n1_ := Aside0.mk (Kd.R_lower (Kd.R_newB (Kd.R_new' ho0 (Kd.R_lt (by (with_reducible repeat (first | apply Kd.R_alloc | apply Kd.R_drewN | apply Kd.R_drew)); exact (Kd.R_mono (far2 gb254 (Kd.R_types HO253.out BK254.out (by decide)) (fun _ hk => hk.2)) (fun _ h_ => h_.1))))) (g := gb248) (o := .cells #[.int .i64 a1_0, .int .i64 a1_1] 26 (0, 0)) (bf_ BK248)) (below_size bs_)); have n2_ := Aside0.mk (blk_below (bf_ BK247) hb); have n3_ := Aside0.mk (blk_below (bf_ BK248) hb); have n4_ := Aside0.mk (blk_below (bp_ (o := .cells #[.int .i64 t250, .slice Ao42 t251.length co42] 24 (0, 0)) BK254) hb); have n5_ := Aside0.mk (below_step bs_ hb); clear HO253 BK247 BK248 BK254 HB; have HO253 := n0_; have HO258 := n1_; have BK247 := n2_; have BK248 := n3_; have BK254 := n4_; have HB := n5_; clear n0_ n1_ n2_ n3_ n4_ n5_; (try clear hb); (try clear hb2); (try clear hk); (try clear hi); (try clear ho0); obtain ⟨Ao50, co50, eo50⟩ := Kd.R_slice HO258.out; subst eo50) | ((with_reducible refine gate_dst (N := 13) rfl ?_); (try (refine gate_guard (by rfl) ?_; dsimp only)); refine box_event ?hg (N := 13) ?hd (cs := #[.int .i64 0, .slice none 0 0]) (t := 24) ?hr ?_; (case hd => rfl); (case hg => rfl); (case hr => first | (go_simp; done) | (go_simp; rfl)); intro gb260 hg w51 hbox hb; have n0_ := Aside0.mk (Kd.R_below (rk_ HO253) hb); have n1_ := Aside0.mk (Kd.R_below (rk_ HO258) hb); have n2_ := Aside0.mk (blk_below (bk_ BK247) hb); have n3_ := Aside0.mk (blk_below (bk_ BK248) hb); have n4_ := Aside0.mk (blk_below (bk_ BK254) hb); have n5_ := Aside0.mk (below_step bs_ hb); have n6_ := Aside0.mk (hbox); have n7_ := Aside0.mk ((by rw [hg]; exact (below_size bs_) : w.heap.size ≤ gb260)); have n8_ := Aside0.mk ((by rw [hg]; exact (below_size bs_) : w.heap.size ≤ gb260)); have n9_ := Aside0.mk ((by rw [hg]; exact Nat.ne_of_lt (blk_lt (bk_ BK247)) : gb247 ≠ gb260)); have n10_ := Aside0.mk ((by rw [hg]; exact Nat.ne_of_gt (blk_lt (bk_ BK247)) : gb260 ≠ gb247)); have n11_ := Aside0.mk ((by rw [hg]; exact Nat.ne_of_lt (blk_lt (bk_ BK248)) : gb248 ≠ gb260)); have n12_ := Aside0.mk ((by rw [hg]; exact Nat.ne_of_gt (blk_lt (bk_ BK248)) : gb260 ≠ gb248)); have n13_ := Aside0.mk ((by rw [hg]; exact Nat.ne_of_lt (blk_lt (bk_ BK254)) : gb254 ≠ gb260)); have n14_ := Aside0.mk ((by rw [hg]; exact Nat.ne_of_gt (blk_lt (bk_ BK254)) : gb260 ≠ gb254)); clear HO253 HO258 BK247 BK248 BK254 HB; have HO253 := n0_; have HO258 := n1_; have BK247 := n2_; have BK248 := n3_; have BK254 := n4_; have HB := n5_; have BK260 := n6_; have GW260 := n7_; have GE260 := n8_; have NB247_260 := n9_; have NB260_247 := n10_; have NB248_260 := n11_; have NB260_248 := n12_; have NB254_260 := n13_; have NB260_254 := n14_; clear n0_ n1_ n2_ n3_ n4_ n5_ n6_ n7_ n8_ n9_ n10_ n11_ n12_ n13_ n14_; clear hb hbox hg; have hnb52 := NB260_247.out; have hnc52 := NB247_260.out; have hnb53 := NB260_248.out; have hnc53 := NB248_260.out; have hnb54 := NB260_254.out; have hnc54 := NB254_260.out; obtain ⟨hcz55_0, hcz55_1, hfz55_0, hfz55_1⟩ := blk2 BK260; obtain ⟨hcz56_0, hcz56_1, hfz56_0, hfz56_1⟩ := blk2 BK247; obtain ⟨hcz57_0, hcz57_1, hfz57_0, hfz57_1⟩ := blk2 BK248) | ((with_reducible refine gate_callee (f := 13) rfl ?_); refine goesL_ (some 59) rfl rfl Try.func13 (by kernel_rfl) rfl #[.agg #[.int .i64 a0_0, .slice A0_1 l0_1.length c0_1], .agg #[.int .i64 a1_0, .int .i64 a1_1], .int .i64 a2, .int .i64 a3, .int .i64 a4] rfl (by (try simp only [List.map_toArray, List.map_cons, List.map_nil]); first | done | rfl | (simp only [List.length_drop, List.length_take]; rfl)) ?_; (with_reducible refine (drydockref16_Attach.calls kj6 a0_0 _ _ l0_1 a1_0 a1_1 a2 a3 a4 t261 t262 t265 _ ?side1 ?side2 A17.out).mono ?_); (case side1 => exact Kd.C_below HR0_1.out bs_); (case side2 => exact HC0_1.out); rintro e w58 ⟨v263, rfl, ho0, hb⟩; refine ⟨_, rfl, ?_⟩; have n0_ := Aside0.mk (Kd.R_elder' (by (with_reducible repeat (first | apply Kd.R_alloc | apply Kd.R_drewN | apply Kd.R_drew)); exact (Kd.R_mono (far2 gb260 (Kd.R_types HO253.out BK260.out (by decide)) (fun _ hk => hk.2)) (fun _ h_ => h_.1))) (Kd.R_base ho0) hb); have n1_ := Aside0.mk (Kd.R_elder' (by (with_reducible repeat (first | apply Kd.R_alloc | apply Kd.R_drewN | apply Kd.R_drew)); exact (Kd.R_mono (far2 gb260 (Kd.R_types HO258.out BK260.out (by decide)) (fun _ hk => hk.2)) (fun _ h_ => h_.1))) (Kd.R_base ho0) hb); have n2_ := Aside0.mk (Kd.R_lower (Kd.R_newB (Kd.R_new' (Kd.R_new' ho0 (Kd.R_lt (by (with_reducible repeat (first | apply Kd.R_alloc | apply Kd.R_drewN | apply Kd.R_drew)); exact (Kd.R_mono (far2 gb260 (Kd.R_types HO253.out BK260.out (by decide)) (fun _ hk => hk.2)) (fun _ h_ => h_.1))))) (Kd.R_lt (by (with_reducible repeat (first | apply Kd.R_alloc | apply Kd.R_drewN | apply Kd.R_drew)); exact (Kd.R_mono (far2 gb260 (Kd.R_types HO258.out BK260.out (by decide)) (fun _ hk => hk.2)) (fun _ h_ => h_.1))))) (g := gb248) (o := .cells #[.int .i64 a1_0, .int .i64 a1_1] 26 (0, 0)) (bf_ BK248)) (below_size bs_)); have n3_ := Aside0.mk (blk_below (bf_ BK247) hb); have n4_ := Aside0.mk (blk_below (bf_ BK248) hb); have n5_ := Aside0.mk (blk_below (bf_ BK254) hb); have n6_ := Aside0.mk (blk_below (bp_ (o := .cells #[.int .i64 t255, .slice Ao50 t256.length co50] 24 (0, 0)) BK260) hb); have n7_ := Aside0.mk (below_step bs_ hb); clear HO253 HO258 BK247 BK248 BK254 BK260 HB; have HO253 := n0_; have HO258 := n1_; have HO264 := n2_; have BK247 := n3_; have BK248 := n4_; have BK254 := n5_; have BK260 := n6_; have HB := n7_; clear n0_ n1_ n2_ n3_ n4_ n5_ n6_ n7_; (try clear hb); (try clear hb2); (try clear hk); (try clear hi); (try clear ho0); obtain ⟨Ao59, co59, eo59⟩ := Kd.R_slice HO264.out; subst eo59) | ((with_reducible refine gate_dst (N := 15) rfl ?_); (try (refine gate_guard (by rfl) ?_; dsimp only)); refine box_event ?hg (N := 15) ?hd (cs := #[.int .i64 0, .slice none 0 0]) (t := 24) ?hr ?_; (case hd => rfl); (case hg => rfl); (case hr => first | (go_simp; done) | (go_simp; rfl)); intro gb266 hg w60 hbox hb; have n0_ := Aside0.mk (Kd.R_below (rk_ HO253) hb); have n1_ := Aside0.mk (Kd.R_below (rk_ HO258) hb); have n2_ := Aside0.mk (Kd.R_below (rk_ HO264) hb); have n3_ := Aside0.mk (blk_below (bk_ BK247) hb); have n4_ := Aside0.mk (blk_below (bk_ BK248) hb); have n5_ := Aside0.mk (blk_below (bk_ BK254) hb); have n6_ := Aside0.mk (blk_below (bk_ BK260) hb); have n7_ := Aside0.mk (below_step bs_ hb); have n8_ := Aside0.mk (hbox); have n9_ := Aside0.mk ((by rw [hg]; exact (below_size bs_) : w.heap.size ≤ gb266)); have n10_ := Aside0.mk ((by rw [hg]; exact (below_size bs_) : w.heap.size ≤ gb266)); have n11_ := Aside0.mk ((by rw [hg]; exact Nat.ne_of_lt (blk_lt (bk_ BK247)) : gb247 ≠ gb266)); have n12_ := Aside0.mk ((by rw [hg]; exact Nat.ne_of_gt (blk_lt (bk_ BK247)) : gb266 ≠ gb247)); have n13_ := Aside0.mk ((by rw [hg]; exact Nat.ne_of_lt (blk_lt (bk_ BK248)) : gb248 ≠ gb266)); have n14_ := Aside0.mk ((by rw [hg]; exact Nat.ne_of_gt (blk_lt (bk_ BK248)) : gb266 ≠ gb248)); have n15_ := Aside0.mk ((by rw [hg]; exact Nat.ne_of_lt (blk_lt (bk_ BK254)) : gb254 ≠ gb266)); have n16_ := Aside0.mk ((by rw [hg]; exact Nat.ne_of_gt (blk_lt (bk_ BK254)) : gb266 ≠ gb254)); have n17_ := Aside0.mk ((by rw [hg]; exact Nat.ne_of_lt (blk_lt (bk_ BK260)) : gb260 ≠ gb266)); have n18_ := Aside0.mk ((by rw [hg]; exact Nat.ne_of_gt (blk_lt (bk_ BK260)) : gb266 ≠ gb260)); clear HO253 HO258 HO264 BK247 BK248 BK254 BK260 HB; have HO253 := n0_; have HO258 := n1_; have HO264 := n2_; have BK247 := n3_; have BK248 := n4_; have BK254 := n5_; have BK260 := n6_; have HB := n7_; have BK266 := n8_; have GW266 := n9_; have GE266 := n10_; have NB247_266 := n11_; have NB266_247 := n12_; have NB248_266 := n13_; have NB266_248 := n14_; have NB254_266 := n15_; have NB266_254 := n16_; have NB260_266 := n17_; have NB266_260 := n18_; clear n0_ n1_ n2_ n3_ n4_ n5_ n6_ n7_ n8_ n9_ n10_ n11_ n12_ n13_ n14_ n15_ n16_ n17_ n18_; clear hb hbox hg; have hnb61 := NB266_247.out; have hnc61 := NB247_266.out; have hnb62 := NB266_248.out; have hnc62 := NB248_266.out; have hnb63 := NB266_254.out; have hnc63 := NB254_266.out; have hnb64 := NB266_260.out; have hnc64 := NB260_266.out; obtain ⟨hcz65_0, hcz65_1, hfz65_0, hfz65_1⟩ := blk2 BK266; obtain ⟨hcz66_0, hcz66_1, hfz66_0, hfz66_1⟩ := blk2 BK260) | ((with_reducible refine gate_callee (f := 14) rfl ?_); refine goesL_ (some 64) rfl rfl Try.func14 (by kernel_rfl) rfl #[.agg #[.int .i64 t255, .slice Ao50 t256.length co50], .agg #[.int .i64 t261, .slice Ao59 t262.length co59]] rfl (by (try simp only [List.map_toArray, List.map_cons, List.map_nil]); first | done | rfl | (simp only [List.length_drop, List.length_take]; rfl)) ?_; (with_reducible refine (drydockref16_Same.calls kj6 t255 _ _ t256 t261 _ _ t262 true _ ?side1 ?side2 ?side3 ?side4 A18.out).mono ?_); (case side1 => refine (Kd.R_reads' (e := 26) (base := w.heap.size) (ok := fun k_ => (((True ∧ some k_ ≠ (.slice Ao42 t251.length co42 : Value).ownBlock) ∧ k_ ≠ gb248) ∧ some k_ ≠ (.slice Ao59 t262.length co59 : Value).ownBlock)) (n := t256.length) (c := co50) ?_).2.2; exact (by (with_reducible repeat (first | apply Kd.R_alloc | apply Kd.R_drewN | apply Kd.R_drew)); exact (Kd.R_mono (far2 gb266 (Kd.R_types HO258.out BK266.out (by decide)) (fun _ hk => hk.2)) (fun _ h_ => h_.1)))); (case side2 => exact (Kd.R_reads' HO258.out).2.1); (case side3 => refine (Kd.R_reads' (e := 26) (base := w.heap.size) (ok := fun k_ => (((True ∧ some k_ ≠ (.slice Ao42 t251.length co42 : Value).ownBlock) ∧ some k_ ≠ (.slice Ao50 t256.length co50 : Value).ownBlock) ∧ k_ ≠ gb248)) (n := t262.length) (c := co59) ?_).2.2; exact (by (with_reducible repeat (first | apply Kd.R_alloc | apply Kd.R_drewN | apply Kd.R_drew)); exact (Kd.R_mono (far2 gb266 (Kd.R_types HO264.out BK266.out (by decide)) (fun _ hk => hk.2)) (fun _ h_ => h_.1)))); (case side4 => exact (Kd.R_reads' HO264.out).2.1); rintro e w67 ⟨rfl, hb⟩; refine ⟨_, rfl, ?_⟩; have n0_ := Aside0.mk (Kd.R_below (by (with_reducible repeat (first | apply Kd.R_alloc | apply Kd.R_drewN | apply Kd.R_drew)); exact (Kd.R_mono (far2 gb266 (Kd.R_types HO253.out BK266.out (by decide)) (fun _ hk => hk.2)) (fun _ h_ => h_.1))) hb); have n1_ := Aside0.mk (Kd.R_below (by (with_reducible repeat (first | apply Kd.R_alloc | apply Kd.R_drewN | apply Kd.R_drew)); exact (Kd.R_mono (far2 gb266 (Kd.R_types HO258.out BK266.out (by decide)) (fun _ hk => hk.2)) (fun _ h_ => h_.1))) hb); have n2_ := Aside0.mk (Kd.R_below (by (with_reducible repeat (first | apply Kd.R_alloc | apply Kd.R_drewN | apply Kd.R_drew)); exact (Kd.R_mono (far2 gb266 (Kd.R_types HO264.out BK266.out (by decide)) (fun _ hk => hk.2)) (fun _ h_ => h_.1))) hb); have n3_ := Aside0.mk (blk_below (bf_ BK247) hb); have n4_ := Aside0.mk (blk_below (bf_ BK248) hb); have n5_ := Aside0.mk (blk_below (bf_ BK254) hb); have n6_ := Aside0.mk (blk_below (bf_ BK260) hb); have n7_ := Aside0.mk (blk_below (bp_ (o := .cells #[.int .i64 t261, .slice Ao59 t262.length co59] 24 (0, 0)) BK266) hb); have n8_ := Aside0.mk (below_step bs_ hb); clear HO253 HO258 HO264 BK247 BK248 BK254 BK260 BK266 HB; have HO253 := n0_; have HO258 := n1_; have HO264 := n2_; have BK247 := n3_; have BK248 := n4_; have BK254 := n5_; have BK260 := n6_; have BK266 := n7_; have HB := n8_; clear n0_ n1_ n2_ n3_ n4_ n5_ n6_ n7_ n8_; (try clear hb); (try clear hb2); (try clear hk); (try clear hi); obtain ⟨hcz68_0, hcz68_1, hfz68_0, hfz68_1⟩ := blk2 BK247) | ((with_reducible refine gate_callee (f := 15) rfl ?_); refine goesL_ (some 74) rfl rfl Try.func15 (by kernel_rfl) rfl #[.agg #[.int .i64 a0_0, .slice A0_1 l0_1.length c0_1], .int .i64 a3, .int .i64 a4] rfl (by (try simp only [List.map_toArray, List.map_cons, List.map_nil]); first | done | rfl | (simp only [List.length_drop, List.length_take]; rfl)) ?_; (with_reducible refine (link_Detach.calls a0_0 _ _ l0_1 a3 a4 t268 t269 t272 _ ?side1 ?side2 A20.out).mono ?_); (case side1 => repeat (first | exact (Kd.C_below HR0_1.out HB.out) | (with_reducible refine Kd.C_alloc ?_ _) | (with_reducible refine Kd.C_drewN ?_ _) | (with_reducible refine Kd.C_drew ?_))); (case side2 => exact HC0_1.out); rintro e w69 ⟨v270, rfl, ho0, hb⟩; refine ⟨_, rfl, ?_⟩; have n0_ := Aside0.mk (Kd.R_elder' (rk_ HO253) (Kd.R_base ho0) hb); have n1_ := Aside0.mk (Kd.R_elder' (rk_ HO258) (Kd.R_base ho0) hb); have n2_ := Aside0.mk (Kd.R_elder' (rk_ HO264) (Kd.R_base ho0) hb); have n3_ := Aside0.mk (Kd.R_lower (Kd.R_newB (Kd.R_new' (Kd.R_new' (Kd.R_new' ho0 (Kd.R_lt (rk_ HO253))) (Kd.R_lt (rk_ HO258))) (Kd.R_lt (rk_ HO264))) (g := gb248) (o := .cells #[.int .i64 a1_0, .int .i64 a1_1] 26 (0, 0)) (by (with_reducible repeat (first | refine blk_drewN ?_ _ | refine blk_drew ?_ | refine blk_alloc ?_ _)); exact BK248.out)) (below_size bs_)); have n4_ := Aside0.mk (blk_below (bk_ BK247) hb); have n5_ := Aside0.mk (blk_below (bk_ BK248) hb); have n6_ := Aside0.mk (blk_below (bk_ BK254) hb); have n7_ := Aside0.mk (blk_below (bk_ BK260) hb); have n8_ := Aside0.mk (blk_below (bk_ BK266) hb); have n9_ := Aside0.mk (below_step bs_ hb); clear HO253 HO258 HO264 BK247 BK248 BK254 BK260 BK266 HB; have HO253 := n0_; have HO258 := n1_; have HO264 := n2_; have HO271 := n3_; have BK247 := n4_; have BK248 := n5_; have BK254 := n6_; have BK260 := n7_; have BK266 := n8_; have HB := n9_; clear n0_ n1_ n2_ n3_ n4_ n5_ n6_ n7_ n8_ n9_; (try clear hb); (try clear hb2); (try clear hk); (try clear hi); (try clear ho0); obtain ⟨Ao70, co70, eo70⟩ := Kd.R_slice HO271.out; subst eo70) | ((with_reducible refine gate_dst (N := 18) rfl ?_); (try (refine gate_guard (by rfl) ?_; dsimp only)); refine box_event ?hg (N := 18) ?hd (cs := #[.int .i64 0, .slice none 0 0]) (t := 24) ?hr ?_; (case hd => rfl); (case hg => rfl); (case hr => first | (go_simp; done) | (go_simp; rfl)); intro gb273 hg w71 hbox hb; have n0_ := Aside0.mk (Kd.R_below (rk_ HO253) hb); have n1_ := Aside0.mk (Kd.R_below (rk_ HO258) hb); have n2_ := Aside0.mk (Kd.R_below (rk_ HO264) hb); have n3_ := Aside0.mk (Kd.R_below (rk_ HO271) hb); have n4_ := Aside0.mk (blk_below (bk_ BK247) hb); have n5_ := Aside0.mk (blk_below (bk_ BK248) hb); have n6_ := Aside0.mk (blk_below (bk_ BK254) hb); have n7_ := Aside0.mk (blk_below (bk_ BK260) hb); have n8_ := Aside0.mk (blk_below (bk_ BK266) hb); have n9_ := Aside0.mk (below_step bs_ hb); have n10_ := Aside0.mk (hbox); have n11_ := Aside0.mk ((by rw [hg]; exact (below_size bs_) : w.heap.size ≤ gb273)); have n12_ := Aside0.mk ((by rw [hg]; exact (below_size bs_) : w.heap.size ≤ gb273)); have n13_ := Aside0.mk ((by rw [hg]; exact Nat.ne_of_lt (blk_lt (bk_ BK247)) : gb247 ≠ gb273)); have n14_ := Aside0.mk ((by rw [hg]; exact Nat.ne_of_gt (blk_lt (bk_ BK247)) : gb273 ≠ gb247)); have n15_ := Aside0.mk ((by rw [hg]; exact Nat.ne_of_lt (blk_lt (bk_ BK248)) : gb248 ≠ gb273)); have n16_ := Aside0.mk ((by rw [hg]; exact Nat.ne_of_gt (blk_lt (bk_ BK248)) : gb273 ≠ gb248)); have n17_ := Aside0.mk ((by rw [hg]; exact Nat.ne_of_lt (blk_lt (bk_ BK254)) : gb254 ≠ gb273)); have n18_ := Aside0.mk ((by rw [hg]; exact Nat.ne_of_gt (blk_lt (bk_ BK254)) : gb273 ≠ gb254)); have n19_ := Aside0.mk ((by rw [hg]; exact Nat.ne_of_lt (blk_lt (bk_ BK260)) : gb260 ≠ gb273)); have n20_ := Aside0.mk ((by rw [hg]; exact Nat.ne_of_gt (blk_lt (bk_ BK260)) : gb273 ≠ gb260)); have n21_ := Aside0.mk ((by rw [hg]; exact Nat.ne_of_lt (blk_lt (bk_ BK266)) : gb266 ≠ gb273)); have n22_ := Aside0.mk ((by rw [hg]; exact Nat.ne_of_gt (blk_lt (bk_ BK266)) : gb273 ≠ gb266)); clear HO253 HO258 HO264 HO271 BK247 BK248 BK254 BK260 BK266 HB; have HO253 := n0_; have HO258 := n1_; have HO264 := n2_; have HO271 := n3_; have BK247 := n4_; have BK248 := n5_; have BK254 := n6_; have BK260 := n7_; have BK266 := n8_; have HB := n9_; have BK273 := n10_; have GW273 := n11_; have GE273 := n12_; have NB247_273 := n13_; have NB273_247 := n14_; have NB248_273 := n15_; have NB273_248 := n16_; have NB254_273 := n17_; have NB273_254 := n18_; have NB260_273 := n19_; have NB273_260 := n20_; have NB266_273 := n21_; have NB273_266 := n22_; clear n0_ n1_ n2_ n3_ n4_ n5_ n6_ n7_ n8_ n9_ n10_ n11_ n12_ n13_ n14_ n15_ n16_ n17_ n18_ n19_ n20_ n21_ n22_; clear hb hbox hg; have hnb72 := NB273_247.out; have hnc72 := NB247_273.out; have hnb73 := NB273_248.out; have hnc73 := NB248_273.out; have hnb74 := NB273_254.out; have hnc74 := NB254_273.out; have hnb75 := NB273_260.out; have hnc75 := NB260_273.out; have hnb76 := NB273_266.out; have hnc76 := NB266_273.out; obtain ⟨hcz77_0, hcz77_1, hfz77_0, hfz77_1⟩ := blk2 BK273; obtain ⟨hcz78_0, hcz78_1, hfz78_0, hfz78_1⟩ := blk2 BK247) | ((with_reducible refine gate_callee (f := 16) rfl ?_); refine goesL_ (some 81) rfl rfl Try.func16 (by kernel_rfl) rfl #[.agg #[.int .i64 a0_0, .slice A0_1 l0_1.length c0_1], .int .i64 a3, .int .i64 a4] rfl (by (try simp only [List.map_toArray, List.map_cons, List.map_nil]); first | done | rfl | (simp only [List.length_drop, List.length_take]; rfl)) ?_; (with_reducible refine (drydockref16_Detach.calls kj6 a0_0 _ _ l0_1 a3 a4 t274 t275 t278 _ ?side1 ?side2 A21.out).mono ?_); (case side1 => exact Kd.C_below HR0_1.out bs_); (case side2 => exact HC0_1.out); rintro e w79 ⟨v276, rfl, ho0, hb⟩; refine ⟨_, rfl, ?_⟩; have n0_ := Aside0.mk (Kd.R_elder' (by (with_reducible repeat (first | apply Kd.R_alloc | apply Kd.R_drewN | apply Kd.R_drew)); exact (Kd.R_mono (far2 gb273 (Kd.R_types HO253.out BK273.out (by decide)) (fun _ hk => hk.2)) (fun _ h_ => h_.1))) (Kd.R_base ho0) hb); have n1_ := Aside0.mk (Kd.R_elder' (by (with_reducible repeat (first | apply Kd.R_alloc | apply Kd.R_drewN | apply Kd.R_drew)); exact (Kd.R_mono (far2 gb273 (Kd.R_types HO258.out BK273.out (by decide)) (fun _ hk => hk.2)) (fun _ h_ => h_.1))) (Kd.R_base ho0) hb); have n2_ := Aside0.mk (Kd.R_elder' (by (with_reducible repeat (first | apply Kd.R_alloc | apply Kd.R_drewN | apply Kd.R_drew)); exact (Kd.R_mono (far2 gb273 (Kd.R_types HO264.out BK273.out (by decide)) (fun _ hk => hk.2)) (fun _ h_ => h_.1))) (Kd.R_base ho0) hb); have n3_ := Aside0.mk (Kd.R_elder' (by (with_reducible repeat (first | apply Kd.R_alloc | apply Kd.R_drewN | apply Kd.R_drew)); exact (Kd.R_mono (far2 gb273 (Kd.R_types HO271.out BK273.out (by decide)) (fun _ hk => hk.2)) (fun _ h_ => h_.1))) (Kd.R_base ho0) hb); have n4_ := Aside0.mk (Kd.R_lower (Kd.R_newB (Kd.R_new' (Kd.R_new' (Kd.R_new' (Kd.R_new' ho0 (Kd.R_lt (by (with_reducible repeat (first | apply Kd.R_alloc | apply Kd.R_drewN | apply Kd.R_drew)); exact (Kd.R_mono (far2 gb273 (Kd.R_types HO253.out BK273.out (by decide)) (fun _ hk => hk.2)) (fun _ h_ => h_.1))))) (Kd.R_lt (by (with_reducible repeat (first | apply Kd.R_alloc | apply Kd.R_drewN | apply Kd.R_drew)); exact (Kd.R_mono (far2 gb273 (Kd.R_types HO258.out BK273.out (by decide)) (fun _ hk => hk.2)) (fun _ h_ => h_.1))))) (Kd.R_lt (by (with_reducible repeat (first | apply Kd.R_alloc | apply Kd.R_drewN | apply Kd.R_drew)); exact (Kd.R_mono (far2 gb273 (Kd.R_types HO264.out BK273.out (by decide)) (fun _ hk => hk.2)) (fun _ h_ => h_.1))))) (Kd.R_lt (by (with_reducible repeat (first | apply Kd.R_alloc | apply Kd.R_drewN | apply Kd.R_drew)); exact (Kd.R_mono (far2 gb273 (Kd.R_types HO271.out BK273.out (by decide)) (fun _ hk => hk.2)) (fun _ h_ => h_.1))))) (g := gb248) (o := .cells #[.int .i64 a1_0, .int .i64 a1_1] 26 (0, 0)) (bf_ BK248)) (below_size bs_)); have n5_ := Aside0.mk (blk_below (bf_ BK247) hb); have n6_ := Aside0.mk (blk_below (bf_ BK248) hb); have n7_ := Aside0.mk (blk_below (bf_ BK254) hb); have n8_ := Aside0.mk (blk_below (bf_ BK260) hb); have n9_ := Aside0.mk (blk_below (bf_ BK266) hb); have n10_ := Aside0.mk (blk_below (bp_ (o := .cells #[.int .i64 t268, .slice Ao70 t269.length co70] 24 (0, 0)) BK273) hb); have n11_ := Aside0.mk (below_step bs_ hb); clear HO253 HO258 HO264 HO271 BK247 BK248 BK254 BK260 BK266 BK273 HB; have HO253 := n0_; have HO258 := n1_; have HO264 := n2_; have HO271 := n3_; have HO277 := n4_; have BK247 := n5_; have BK248 := n6_; have BK254 := n7_; have BK260 := n8_; have BK266 := n9_; have BK273 := n10_; have HB := n11_; clear n0_ n1_ n2_ n3_ n4_ n5_ n6_ n7_ n8_ n9_ n10_ n11_; (try clear hb); (try clear hb2); (try clear hk); (try clear hi); (try clear ho0); obtain ⟨Ao80, co80, eo80⟩ := Kd.R_slice HO277.out; subst eo80) | ((with_reducible refine gate_dst (N := 20) rfl ?_); (try (refine gate_guard (by rfl) ?_; dsimp only)); refine box_event ?hg (N := 20) ?hd (cs := #[.int .i64 0, .slice none 0 0]) (t := 24) ?hr ?_; (case hd => rfl); (case hg => rfl); (case hr => first | (go_simp; done) | (go_simp; rfl)); intro gb279 hg w81 hbox hb; have n0_ := Aside0.mk (Kd.R_below (rk_ HO253) hb); have n1_ := Aside0.mk (Kd.R_below (rk_ HO258) hb); have n2_ := Aside0.mk (Kd.R_below (rk_ HO264) hb); have n3_ := Aside0.mk (Kd.R_below (rk_ HO271) hb); have n4_ := Aside0.mk (Kd.R_below (rk_ HO277) hb); have n5_ := Aside0.mk (blk_below (bk_ BK247) hb); have n6_ := Aside0.mk (blk_below (bk_ BK248) hb); have n7_ := Aside0.mk (blk_below (bk_ BK254) hb); have n8_ := Aside0.mk (blk_below (bk_ BK260) hb); have n9_ := Aside0.mk (blk_below (bk_ BK266) hb); have n10_ := Aside0.mk (blk_below (bk_ BK273) hb); have n11_ := Aside0.mk (below_step bs_ hb); have n12_ := Aside0.mk (hbox); have n13_ := Aside0.mk ((by rw [hg]; exact (below_size bs_) : w.heap.size ≤ gb279)); have n14_ := Aside0.mk ((by rw [hg]; exact (below_size bs_) : w.heap.size ≤ gb279)); have n15_ := Aside0.mk ((by rw [hg]; exact Nat.ne_of_lt (blk_lt (bk_ BK247)) : gb247 ≠ gb279)); have n16_ := Aside0.mk ((by rw [hg]; exact Nat.ne_of_gt (blk_lt (bk_ BK247)) : gb279 ≠ gb247)); have n17_ := Aside0.mk ((by rw [hg]; exact Nat.ne_of_lt (blk_lt (bk_ BK248)) : gb248 ≠ gb279)); have n18_ := Aside0.mk ((by rw [hg]; exact Nat.ne_of_gt (blk_lt (bk_ BK248)) : gb279 ≠ gb248)); have n19_ := Aside0.mk ((by rw [hg]; exact Nat.ne_of_lt (blk_lt (bk_ BK254)) : gb254 ≠ gb279)); have n20_ := Aside0.mk ((by rw [hg]; exact Nat.ne_of_gt (blk_lt (bk_ BK254)) : gb279 ≠ gb254)); have n21_ := Aside0.mk ((by rw [hg]; exact Nat.ne_of_lt (blk_lt (bk_ BK260)) : gb260 ≠ gb279)); have n22_ := Aside0.mk ((by rw [hg]; exact Nat.ne_of_gt (blk_lt (bk_ BK260)) : gb279 ≠ gb260)); have n23_ := Aside0.mk ((by rw [hg]; exact Nat.ne_of_lt (blk_lt (bk_ BK266)) : gb266 ≠ gb279)); have n24_ := Aside0.mk ((by rw [hg]; exact Nat.ne_of_gt (blk_lt (bk_ BK266)) : gb279 ≠ gb266)); have n25_ := Aside0.mk ((by rw [hg]; exact Nat.ne_of_lt (blk_lt (bk_ BK273)) : gb273 ≠ gb279)); have n26_ := Aside0.mk ((by rw [hg]; exact Nat.ne_of_gt (blk_lt (bk_ BK273)) : gb279 ≠ gb273)); clear HO253 HO258 HO264 HO271 HO277 BK247 BK248 BK254 BK260 BK266 BK273 HB; have HO253 := n0_; have HO258 := n1_; have HO264 := n2_; have HO271 := n3_; have HO277 := n4_; have BK247 := n5_; have BK248 := n6_; have BK254 := n7_; have BK260 := n8_; have BK266 := n9_; have BK273 := n10_; have HB := n11_; have BK279 := n12_; have GW279 := n13_; have GE279 := n14_; have NB247_279 := n15_; have NB279_247 := n16_; have NB248_279 := n17_; have NB279_248 := n18_; have NB254_279 := n19_; have NB279_254 := n20_; have NB260_279 := n21_; have NB279_260 := n22_; have NB266_279 := n23_; have NB279_266 := n24_; have NB273_279 := n25_; have NB279_273 := n26_; clear n0_ n1_ n2_ n3_ n4_ n5_ n6_ n7_ n8_ n9_ n10_ n11_ n12_ n13_ n14_ n15_ n16_ n17_ n18_ n19_ n20_ n21_ n22_ n23_ n24_ n25_ n26_; clear hb hbox hg; have hnb82 := NB279_247.out; have hnc82 := NB247_279.out; have hnb83 := NB279_248.out; have hnc83 := NB248_279.out; have hnb84 := NB279_254.out; have hnc84 := NB254_279.out; have hnb85 := NB279_260.out; have hnc85 := NB260_279.out; have hnb86 := NB279_266.out; have hnc86 := NB266_279.out; have hnb87 := NB279_273.out; have hnc87 := NB273_279.out; obtain ⟨hcz88_0, hcz88_1, hfz88_0, hfz88_1⟩ := blk2 BK279; obtain ⟨hcz89_0, hcz89_1, hfz89_0, hfz89_1⟩ := blk2 BK273) | ((with_reducible refine gate_callee (f := 14) rfl ?_); refine goesL_ (some 86) rfl rfl Try.func14 (by kernel_rfl) rfl #[.agg #[.int .i64 t268, .slice Ao70 t269.length co70], .agg #[.int .i64 t274, .slice Ao80 t275.length co80]] rfl (by (try simp only [List.map_toArray, List.map_cons, List.map_nil]); first | done | rfl | (simp only [List.length_drop, List.length_take]; rfl)) ?_; (with_reducible refine (drydockref16_Same.calls kj6 t268 _ _ t269 t274 _ _ t275 true _ ?side1 ?side2 ?side3 ?side4 A22.out).mono ?_); (case side1 => refine (Kd.R_reads' (e := 26) (base := w.heap.size) (ok := fun k_ => (((((True ∧ some k_ ≠ (.slice Ao42 t251.length co42 : Value).ownBlock) ∧ some k_ ≠ (.slice Ao50 t256.length co50 : Value).ownBlock) ∧ some k_ ≠ (.slice Ao59 t262.length co59 : Value).ownBlock) ∧ k_ ≠ gb248) ∧ some k_ ≠ (.slice Ao80 t275.length co80 : Value).ownBlock)) (n := t269.length) (c := co70) ?_).2.2; exact (by (with_reducible repeat (first | apply Kd.R_alloc | apply Kd.R_drewN | apply Kd.R_drew)); exact (Kd.R_mono (far2 gb279 (Kd.R_types HO271.out BK279.out (by decide)) (fun _ hk => hk.2)) (fun _ h_ => h_.1)))); (case side2 => exact (Kd.R_reads' HO271.out).2.1); (case side3 => refine (Kd.R_reads' (e := 26) (base := w.heap.size) (ok := fun k_ => (((((True ∧ some k_ ≠ (.slice Ao42 t251.length co42 : Value).ownBlock) ∧ some k_ ≠ (.slice Ao50 t256.length co50 : Value).ownBlock) ∧ some k_ ≠ (.slice Ao59 t262.length co59 : Value).ownBlock) ∧ some k_ ≠ (.slice Ao70 t269.length co70 : Value).ownBlock) ∧ k_ ≠ gb248)) (n := t275.length) (c := co80) ?_).2.2; exact (by (with_reducible repeat (first | apply Kd.R_alloc | apply Kd.R_drewN | apply Kd.R_drew)); exact (Kd.R_mono (far2 gb279 (Kd.R_types HO277.out BK279.out (by decide)) (fun _ hk => hk.2)) (fun _ h_ => h_.1)))); (case side4 => exact (Kd.R_reads' HO277.out).2.1); rintro e w90 ⟨rfl, hb⟩; refine ⟨_, rfl, ?_⟩; have n0_ := Aside0.mk (Kd.R_below (by (with_reducible repeat (first | apply Kd.R_alloc | apply Kd.R_drewN | apply Kd.R_drew)); exact (Kd.R_mono (far2 gb279 (Kd.R_types HO253.out BK279.out (by decide)) (fun _ hk => hk.2)) (fun _ h_ => h_.1))) hb); have n1_ := Aside0.mk (Kd.R_below (by (with_reducible repeat (first | apply Kd.R_alloc | apply Kd.R_drewN | apply Kd.R_drew)); exact (Kd.R_mono (far2 gb279 (Kd.R_types HO258.out BK279.out (by decide)) (fun _ hk => hk.2)) (fun _ h_ => h_.1))) hb); have n2_ := Aside0.mk (Kd.R_below (by (with_reducible repeat (first | apply Kd.R_alloc | apply Kd.R_drewN | apply Kd.R_drew)); exact (Kd.R_mono (far2 gb279 (Kd.R_types HO264.out BK279.out (by decide)) (fun _ hk => hk.2)) (fun _ h_ => h_.1))) hb); have n3_ := Aside0.mk (Kd.R_below (by (with_reducible repeat (first | apply Kd.R_alloc | apply Kd.R_drewN | apply Kd.R_drew)); exact (Kd.R_mono (far2 gb279 (Kd.R_types HO271.out BK279.out (by decide)) (fun _ hk => hk.2)) (fun _ h_ => h_.1))) hb); have n4_ := Aside0.mk (Kd.R_below (by (with_reducible repeat (first | apply Kd.R_alloc | apply Kd.R_drewN | apply Kd.R_drew)); exact (Kd.R_mono (far2 gb279 (Kd.R_types HO277.out BK279.out (by decide)) (fun _ hk => hk.2)) (fun _ h_ => h_.1))) hb); have n5_ := Aside0.mk (blk_below (bf_ BK247) hb); have n6_ := Aside0.mk (blk_below (bf_ BK248) hb); have n7_ := Aside0.mk (blk_below (bf_ BK254) hb); have n8_ := Aside0.mk (blk_below (bf_ BK260) hb); have n9_ := Aside0.mk (blk_below (bf_ BK266) hb); have n10_ := Aside0.mk (blk_below (bf_ BK273) hb); have n11_ := Aside0.mk (blk_below (bp_ (o := .cells #[.int .i64 t274, .slice Ao80 t275.length co80] 24 (0, 0)) BK279) hb); have n12_ := Aside0.mk (below_step bs_ hb); clear HO253 HO258 HO264 HO271 HO277 BK247 BK248 BK254 BK260 BK266 BK273 BK279 HB; have HO253 := n0_; have HO258 := n1_; have HO264 := n2_; have HO271 := n3_; have HO277 := n4_; have BK247 := n5_; have BK248 := n6_; have BK254 := n7_; have BK260 := n8_; have BK266 := n9_; have BK273 := n10_; have BK279 := n11_; have HB := n12_; clear n0_ n1_ n2_ n3_ n4_ n5_ n6_ n7_ n8_ n9_ n10_ n11_ n12_; (try clear hb); (try clear hb2); (try clear hk); (try clear hi); obtain ⟨hcz91_0, hcz91_1, hfz91_0, hfz91_1⟩ := blk2 BK247; obtain ⟨hcz92_0, hcz92_1, hfz92_0, hfz92_1⟩ := blk2 BK248) | ((with_reducible refine gate_callee (f := 17) rfl ?_); refine goesL_ (some 97) rfl rfl Try.func17 (by kernel_rfl) rfl #[.agg #[.int .i64 a0_0, .slice A0_1 l0_1.length c0_1], .int .i64 a3, .agg #[.int .i64 a1_0, .int .i64 a1_1], .int .i64 a4] rfl (by (try simp only [List.map_toArray, List.map_cons, List.map_nil]); first | done | rfl | (simp only [List.length_drop, List.length_take]; rfl)) ?_; (with_reducible refine (link_Swap.calls kj6 a0_0 _ _ l0_1 a3 a1_0 a1_1 a4 t281 t282 t285 _ ?side1 ?side2 A24.out).mono ?_); (case side1 => repeat (first | exact (Kd.C_below HR0_1.out HB.out) | (with_reducible refine Kd.C_alloc ?_ _) | (with_reducible refine Kd.C_drewN ?_ _) | (with_reducible refine Kd.C_drew ?_))); (case side2 => exact HC0_1.out); rintro e w93 ⟨v283, rfl, ho0, hb⟩; refine ⟨_, rfl, ?_⟩; have n0_ := Aside0.mk (Kd.R_elder' (rk_ HO253) (Kd.R_base ho0) hb); have n1_ := Aside0.mk (Kd.R_elder' (rk_ HO258) (Kd.R_base ho0) hb); have n2_ := Aside0.mk (Kd.R_elder' (rk_ HO264) (Kd.R_base ho0) hb); have n3_ := Aside0.mk (Kd.R_elder' (rk_ HO271) (Kd.R_base ho0) hb); have n4_ := Aside0.mk (Kd.R_elder' (rk_ HO277) (Kd.R_base ho0) hb); have n5_ := Aside0.mk (Kd.R_lower (Kd.R_newB (Kd.R_new' (Kd.R_new' (Kd.R_new' (Kd.R_new' (Kd.R_new' ho0 (Kd.R_lt (rk_ HO253))) (Kd.R_lt (rk_ HO258))) (Kd.R_lt (rk_ HO264))) (Kd.R_lt (rk_ HO271))) (Kd.R_lt (rk_ HO277))) (g := gb248) (o := .cells #[.int .i64 a1_0, .int .i64 a1_1] 26 (0, 0)) (by (with_reducible repeat (first | refine blk_drewN ?_ _ | refine blk_drew ?_ | refine blk_alloc ?_ _)); exact BK248.out)) (below_size bs_)); have n6_ := Aside0.mk (blk_below (bk_ BK247) hb); have n7_ := Aside0.mk (blk_below (bk_ BK248) hb); have n8_ := Aside0.mk (blk_below (bk_ BK254) hb); have n9_ := Aside0.mk (blk_below (bk_ BK260) hb); have n10_ := Aside0.mk (blk_below (bk_ BK266) hb); have n11_ := Aside0.mk (blk_below (bk_ BK273) hb); have n12_ := Aside0.mk (blk_below (bk_ BK279) hb); have n13_ := Aside0.mk (below_step bs_ hb); clear HO253 HO258 HO264 HO271 HO277 BK247 BK248 BK254 BK260 BK266 BK273 BK279 HB; have HO253 := n0_; have HO258 := n1_; have HO264 := n2_; have HO271 := n3_; have HO277 := n4_; have HO284 := n5_; have BK247 := n6_; have BK248 := n7_; have BK254 := n8_; have BK260 := n9_; have BK266 := n10_; have BK273 := n11_; have BK279 := n12_; have HB := n13_; clear n0_ n1_ n2_ n3_ n4_ n5_ n6_ n7_ n8_ n9_ n10_ n11_ n12_ n13_; (try clear hb); (try clear hb2); (try clear hk); (try clear hi); (try clear ho0); obtain ⟨Ao94, co94, eo94⟩ := Kd.R_slice HO284.out; subst eo94) | ((with_reducible refine gate_dst (N := 23) rfl ?_); (try (refine gate_guard (by rfl) ?_; dsimp only)); refine box_event ?hg (N := 23) ?hd (cs := #[.int .i64 0, .slice none 0 0]) (t := 24) ?hr ?_; (case hd => rfl); (case hg => rfl); (case hr => first | (go_simp; done) | (go_simp; rfl)); intro gb286 hg w95 hbox hb; have n0_ := Aside0.mk (Kd.R_below (rk_ HO253) hb); have n1_ := Aside0.mk (Kd.R_below (rk_ HO258) hb); have n2_ := Aside0.mk (Kd.R_below (rk_ HO264) hb); have n3_ := Aside0.mk (Kd.R_below (rk_ HO271) hb); have n4_ := Aside0.mk (Kd.R_below (rk_ HO277) hb); have n5_ := Aside0.mk (Kd.R_below (rk_ HO284) hb); have n6_ := Aside0.mk (blk_below (bk_ BK247) hb); have n7_ := Aside0.mk (blk_below (bk_ BK248) hb); have n8_ := Aside0.mk (blk_below (bk_ BK254) hb); have n9_ := Aside0.mk (blk_below (bk_ BK260) hb); have n10_ := Aside0.mk (blk_below (bk_ BK266) hb); have n11_ := Aside0.mk (blk_below (bk_ BK273) hb); have n12_ := Aside0.mk (blk_below (bk_ BK279) hb); have n13_ := Aside0.mk (below_step bs_ hb); have n14_ := Aside0.mk (hbox); have n15_ := Aside0.mk ((by rw [hg]; exact (below_size bs_) : w.heap.size ≤ gb286)); have n16_ := Aside0.mk ((by rw [hg]; exact (below_size bs_) : w.heap.size ≤ gb286)); have n17_ := Aside0.mk ((by rw [hg]; exact Nat.ne_of_lt (blk_lt (bk_ BK247)) : gb247 ≠ gb286)); have n18_ := Aside0.mk ((by rw [hg]; exact Nat.ne_of_gt (blk_lt (bk_ BK247)) : gb286 ≠ gb247)); have n19_ := Aside0.mk ((by rw [hg]; exact Nat.ne_of_lt (blk_lt (bk_ BK248)) : gb248 ≠ gb286)); have n20_ := Aside0.mk ((by rw [hg]; exact Nat.ne_of_gt (blk_lt (bk_ BK248)) : gb286 ≠ gb248)); have n21_ := Aside0.mk ((by rw [hg]; exact Nat.ne_of_lt (blk_lt (bk_ BK254)) : gb254 ≠ gb286)); have n22_ := Aside0.mk ((by rw [hg]; exact Nat.ne_of_gt (blk_lt (bk_ BK254)) : gb286 ≠ gb254)); have n23_ := Aside0.mk ((by rw [hg]; exact Nat.ne_of_lt (blk_lt (bk_ BK260)) : gb260 ≠ gb286)); have n24_ := Aside0.mk ((by rw [hg]; exact Nat.ne_of_gt (blk_lt (bk_ BK260)) : gb286 ≠ gb260)); have n25_ := Aside0.mk ((by rw [hg]; exact Nat.ne_of_lt (blk_lt (bk_ BK266)) : gb266 ≠ gb286)); have n26_ := Aside0.mk ((by rw [hg]; exact Nat.ne_of_gt (blk_lt (bk_ BK266)) : gb286 ≠ gb266)); have n27_ := Aside0.mk ((by rw [hg]; exact Nat.ne_of_lt (blk_lt (bk_ BK273)) : gb273 ≠ gb286)); have n28_ := Aside0.mk ((by rw [hg]; exact Nat.ne_of_gt (blk_lt (bk_ BK273)) : gb286 ≠ gb273)); have n29_ := Aside0.mk ((by rw [hg]; exact Nat.ne_of_lt (blk_lt (bk_ BK279)) : gb279 ≠ gb286)); have n30_ := Aside0.mk ((by rw [hg]; exact Nat.ne_of_gt (blk_lt (bk_ BK279)) : gb286 ≠ gb279)); clear HO253 HO258 HO264 HO271 HO277 HO284 BK247 BK248 BK254 BK260 BK266 BK273 BK279 HB; have HO253 := n0_; have HO258 := n1_; have HO264 := n2_; have HO271 := n3_; have HO277 := n4_; have HO284 := n5_; have BK247 := n6_; have BK248 := n7_; have BK254 := n8_; have BK260 := n9_; have BK266 := n10_; have BK273 := n11_; have BK279 := n12_; have HB := n13_; have BK286 := n14_; have GW286 := n15_; have GE286 := n16_; have NB247_286 := n17_; have NB286_247 := n18_; have NB248_286 := n19_; have NB286_248 := n20_; have NB254_286 := n21_; have NB286_254 := n22_; have NB260_286 := n23_; have NB286_260 := n24_; have NB266_286 := n25_; have NB286_266 := n26_; have NB273_286 := n27_; have NB286_273 := n28_; have NB279_286 := n29_; have NB286_279 := n30_; clear n0_ n1_ n2_ n3_ n4_ n5_ n6_ n7_ n8_ n9_ n10_ n11_ n12_ n13_ n14_ n15_ n16_ n17_ n18_ n19_ n20_ n21_ n22_ n23_ n24_ n25_ n26_ n27_ n28_ n29_ n30_; clear hb hbox hg; have hnb96 := NB286_247.out; have hnc96 := NB247_286.out; have hnb97 := NB286_248.out; have hnc97 := NB248_286.out; have hnb98 := NB286_254.out; have hnc98 := NB254_286.out; have hnb99 := NB286_260.out; have hnc99 := NB260_286.out; have hnb100 := NB286_266.out; have hnc100 := NB266_286.out; have hnb101 := NB286_273.out; have hnc101 := NB273_286.out; have hnb102 := NB286_279.out; have hnc102 := NB279_286.out; obtain ⟨hcz103_0, hcz103_1, hfz103_0, hfz103_1⟩ := blk2 BK286; obtain ⟨hcz104_0, hcz104_1, hfz104_0, hfz104_1⟩ := blk2 BK247; obtain ⟨hcz105_0, hcz105_1, hfz105_0, hfz105_1⟩ := blk2 BK248) | ((with_reducible refine gate_callee (f := 18) rfl ?_); refine goesL_ (some 105) rfl rfl Try.func18 (by kernel_rfl) rfl #[.agg #[.int .i64 a0_0, .slice A0_1 l0_1.length c0_1], .int .i64 a3, .agg #[.int .i64 a1_0, .int .i64 a1_1], .int .i64 a4] rfl (by (try simp only [List.map_toArray, List.map_cons, List.map_nil]); first | done | rfl | (simp only [List.length_drop, List.length_take]; rfl)) ?_; (with_reducible refine (drydockref16_Swap.calls kj6 a0_0 _ _ l0_1 a3 a1_0 a1_1 a4 t287 t288 t291 _ ?side1 ?side2 A25.out).mono ?_); (case side1 => exact Kd.C_below HR0_1.out bs_); (case side2 => exact HC0_1.out); rintro e w106 ⟨v289, rfl, ho0, hb⟩; refine ⟨_, rfl, ?_⟩; have n0_ := Aside0.mk (Kd.R_elder' (by (with_reducible repeat (first | apply Kd.R_alloc | apply Kd.R_drewN | apply Kd.R_drew)); exact (Kd.R_mono (far2 gb286 (Kd.R_types HO253.out BK286.out (by decide)) (fun _ hk => hk.2)) (fun _ h_ => h_.1))) (Kd.R_base ho0) hb); have n1_ := Aside0.mk (Kd.R_elder' (by (with_reducible repeat (first | apply Kd.R_alloc | apply Kd.R_drewN | apply Kd.R_drew)); exact (Kd.R_mono (far2 gb286 (Kd.R_types HO258.out BK286.out (by decide)) (fun _ hk => hk.2)) (fun _ h_ => h_.1))) (Kd.R_base ho0) hb); have n2_ := Aside0.mk (Kd.R_elder' (by (with_reducible repeat (first | apply Kd.R_alloc | apply Kd.R_drewN | apply Kd.R_drew)); exact (Kd.R_mono (far2 gb286 (Kd.R_types HO264.out BK286.out (by decide)) (fun _ hk => hk.2)) (fun _ h_ => h_.1))) (Kd.R_base ho0) hb); have n3_ := Aside0.mk (Kd.R_elder' (by (with_reducible repeat (first | apply Kd.R_alloc | apply Kd.R_drewN | apply Kd.R_drew)); exact (Kd.R_mono (far2 gb286 (Kd.R_types HO271.out BK286.out (by decide)) (fun _ hk => hk.2)) (fun _ h_ => h_.1))) (Kd.R_base ho0) hb); have n4_ := Aside0.mk (Kd.R_elder' (by (with_reducible repeat (first | apply Kd.R_alloc | apply Kd.R_drewN | apply Kd.R_drew)); exact (Kd.R_mono (far2 gb286 (Kd.R_types HO277.out BK286.out (by decide)) (fun _ hk => hk.2)) (fun _ h_ => h_.1))) (Kd.R_base ho0) hb); have n5_ := Aside0.mk (Kd.R_elder' (by (with_reducible repeat (first | apply Kd.R_alloc | apply Kd.R_drewN | apply Kd.R_drew)); exact (Kd.R_mono (far2 gb286 (Kd.R_types HO284.out BK286.out (by decide)) (fun _ hk => hk.2)) (fun _ h_ => h_.1))) (Kd.R_base ho0) hb); have n6_ := Aside0.mk (Kd.R_lower (Kd.R_newB (Kd.R_new' (Kd.R_new' (Kd.R_new' (Kd.R_new' (Kd.R_new' (Kd.R_new' ho0 (Kd.R_lt (by (with_reducible repeat (first | apply Kd.R_alloc | apply Kd.R_drewN | apply Kd.R_drew)); exact (Kd.R_mono (far2 gb286 (Kd.R_types HO253.out BK286.out (by decide)) (fun _ hk => hk.2)) (fun _ h_ => h_.1))))) (Kd.R_lt (by (with_reducible repeat (first | apply Kd.R_alloc | apply Kd.R_drewN | apply Kd.R_drew)); exact (Kd.R_mono (far2 gb286 (Kd.R_types HO258.out BK286.out (by decide)) (fun _ hk => hk.2)) (fun _ h_ => h_.1))))) (Kd.R_lt (by (with_reducible repeat (first | apply Kd.R_alloc | apply Kd.R_drewN | apply Kd.R_drew)); exact (Kd.R_mono (far2 gb286 (Kd.R_types HO264.out BK286.out (by decide)) (fun _ hk => hk.2)) (fun _ h_ => h_.1))))) (Kd.R_lt (by (with_reducible repeat (first | apply Kd.R_alloc | apply Kd.R_drewN | apply Kd.R_drew)); exact (Kd.R_mono (far2 gb286 (Kd.R_types HO271.out BK286.out (by decide)) (fun _ hk => hk.2)) (fun _ h_ => h_.1))))) (Kd.R_lt (by (with_reducible repeat (first | apply Kd.R_alloc | apply Kd.R_drewN | apply Kd.R_drew)); exact (Kd.R_mono (far2 gb286 (Kd.R_types HO277.out BK286.out (by decide)) (fun _ hk => hk.2)) (fun _ h_ => h_.1))))) (Kd.R_lt (by (with_reducible repeat (first | apply Kd.R_alloc | apply Kd.R_drewN | apply Kd.R_drew)); exact (Kd.R_mono (far2 gb286 (Kd.R_types HO284.out BK286.out (by decide)) (fun _ hk => hk.2)) (fun _ h_ => h_.1))))) (g := gb248) (o := .cells #[.int .i64 a1_0, .int .i64 a1_1] 26 (0, 0)) (bf_ BK248)) (below_size bs_)); have n7_ := Aside0.mk (blk_below (bf_ BK247) hb); have n8_ := Aside0.mk (blk_below (bf_ BK248) hb); have n9_ := Aside0.mk (blk_below (bf_ BK254) hb); have n10_ := Aside0.mk (blk_below (bf_ BK260) hb); have n11_ := Aside0.mk (blk_below (bf_ BK266) hb); have n12_ := Aside0.mk (blk_below (bf_ BK273) hb); have n13_ := Aside0.mk (blk_below (bf_ BK279) hb); have n14_ := Aside0.mk (blk_below (bp_ (o := .cells #[.int .i64 t281, .slice Ao94 t282.length co94] 24 (0, 0)) BK286) hb); have n15_ := Aside0.mk (below_step bs_ hb); clear HO253 HO258 HO264 HO271 HO277 HO284 BK247 BK248 BK254 BK260 BK266 BK273 BK279 BK286 HB; have HO253 := n0_; have HO258 := n1_; have HO264 := n2_; have HO271 := n3_; have HO277 := n4_; have HO284 := n5_; have HO290 := n6_; have BK247 := n7_; have BK248 := n8_; have BK254 := n9_; have BK260 := n10_; have BK266 := n11_; have BK273 := n12_; have BK279 := n13_; have BK286 := n14_; have HB := n15_; clear n0_ n1_ n2_ n3_ n4_ n5_ n6_ n7_ n8_ n9_ n10_ n11_ n12_ n13_ n14_ n15_; (try clear hb); (try clear hb2); (try clear hk); (try clear hi); (try clear ho0); obtain ⟨Ao107, co107, eo107⟩ := Kd.R_slice HO290.out; subst eo107) | ((with_reducible refine gate_dst (N := 25) rfl ?_); (try (refine gate_guard (by rfl) ?_; dsimp only)); refine box_event ?hg (N := 25) ?hd (cs := #[.int .i64 0, .slice none 0 0]) (t := 24) ?hr ?_; (case hd => rfl); (case hg => rfl); (case hr => first | (go_simp; done) | (go_simp; rfl)); intro gb292 hg w108 hbox hb; have n0_ := Aside0.mk (Kd.R_below (rk_ HO253) hb); have n1_ := Aside0.mk (Kd.R_below (rk_ HO258) hb); have n2_ := Aside0.mk (Kd.R_below (rk_ HO264) hb); have n3_ := Aside0.mk (Kd.R_below (rk_ HO271) hb); have n4_ := Aside0.mk (Kd.R_below (rk_ HO277) hb); have n5_ := Aside0.mk (Kd.R_below (rk_ HO284) hb); have n6_ := Aside0.mk (Kd.R_below (rk_ HO290) hb); have n7_ := Aside0.mk (blk_below (bk_ BK247) hb); have n8_ := Aside0.mk (blk_below (bk_ BK248) hb); have n9_ := Aside0.mk (blk_below (bk_ BK254) hb); have n10_ := Aside0.mk (blk_below (bk_ BK260) hb); have n11_ := Aside0.mk (blk_below (bk_ BK266) hb); have n12_ := Aside0.mk (blk_below (bk_ BK273) hb); have n13_ := Aside0.mk (blk_below (bk_ BK279) hb); have n14_ := Aside0.mk (blk_below (bk_ BK286) hb); have n15_ := Aside0.mk (below_step bs_ hb); have n16_ := Aside0.mk (hbox); have n17_ := Aside0.mk ((by rw [hg]; exact (below_size bs_) : w.heap.size ≤ gb292)); have n18_ := Aside0.mk ((by rw [hg]; exact (below_size bs_) : w.heap.size ≤ gb292)); have n19_ := Aside0.mk ((by rw [hg]; exact Nat.ne_of_lt (blk_lt (bk_ BK247)) : gb247 ≠ gb292)); have n20_ := Aside0.mk ((by rw [hg]; exact Nat.ne_of_gt (blk_lt (bk_ BK247)) : gb292 ≠ gb247)); have n21_ := Aside0.mk ((by rw [hg]; exact Nat.ne_of_lt (blk_lt (bk_ BK248)) : gb248 ≠ gb292)); have n22_ := Aside0.mk ((by rw [hg]; exact Nat.ne_of_gt (blk_lt (bk_ BK248)) : gb292 ≠ gb248)); have n23_ := Aside0.mk ((by rw [hg]; exact Nat.ne_of_lt (blk_lt (bk_ BK254)) : gb254 ≠ gb292)); have n24_ := Aside0.mk ((by rw [hg]; exact Nat.ne_of_gt (blk_lt (bk_ BK254)) : gb292 ≠ gb254)); have n25_ := Aside0.mk ((by rw [hg]; exact Nat.ne_of_lt (blk_lt (bk_ BK260)) : gb260 ≠ gb292)); have n26_ := Aside0.mk ((by rw [hg]; exact Nat.ne_of_gt (blk_lt (bk_ BK260)) : gb292 ≠ gb260)); have n27_ := Aside0.mk ((by rw [hg]; exact Nat.ne_of_lt (blk_lt (bk_ BK266)) : gb266 ≠ gb292)); have n28_ := Aside0.mk ((by rw [hg]; exact Nat.ne_of_gt (blk_lt (bk_ BK266)) : gb292 ≠ gb266)); have n29_ := Aside0.mk ((by rw [hg]; exact Nat.ne_of_lt (blk_lt (bk_ BK273)) : gb273 ≠ gb292)); have n30_ := Aside0.mk ((by rw [hg]; exact Nat.ne_of_gt (blk_lt (bk_ BK273)) : gb292 ≠ gb273)); have n31_ := Aside0.mk ((by rw [hg]; exact Nat.ne_of_lt (blk_lt (bk_ BK279)) : gb279 ≠ gb292)); have n32_ := Aside0.mk ((by rw [hg]; exact Nat.ne_of_gt (blk_lt (bk_ BK279)) : gb292 ≠ gb279)); have n33_ := Aside0.mk ((by rw [hg]; exact Nat.ne_of_lt (blk_lt (bk_ BK286)) : gb286 ≠ gb292)); have n34_ := Aside0.mk ((by rw [hg]; exact Nat.ne_of_gt (blk_lt (bk_ BK286)) : gb292 ≠ gb286)); clear HO253 HO258 HO264 HO271 HO277 HO284 HO290 BK247 BK248 BK254 BK260 BK266 BK273 BK279 BK286 HB; have HO253 := n0_; have HO258 := n1_; have HO264 := n2_; have HO271 := n3_; have HO277 := n4_; have HO284 := n5_; have HO290 := n6_; have BK247 := n7_; have BK248 := n8_; have BK254 := n9_; have BK260 := n10_; have BK266 := n11_; have BK273 := n12_; have BK279 := n13_; have BK286 := n14_; have HB := n15_; have BK292 := n16_; have GW292 := n17_; have GE292 := n18_; have NB247_292 := n19_; have NB292_247 := n20_; have NB248_292 := n21_; have NB292_248 := n22_; have NB254_292 := n23_; have NB292_254 := n24_; have NB260_292 := n25_; have NB292_260 := n26_; have NB266_292 := n27_; have NB292_266 := n28_; have NB273_292 := n29_; have NB292_273 := n30_; have NB279_292 := n31_; have NB292_279 := n32_; have NB286_292 := n33_; have NB292_286 := n34_; clear n0_ n1_ n2_ n3_ n4_ n5_ n6_ n7_ n8_ n9_ n10_ n11_ n12_ n13_ n14_ n15_ n16_ n17_ n18_ n19_ n20_ n21_ n22_ n23_ n24_ n25_ n26_ n27_ n28_ n29_ n30_ n31_ n32_ n33_ n34_; clear hb hbox hg; have hnb109 := NB292_247.out; have hnc109 := NB247_292.out; have hnb110 := NB292_248.out; have hnc110 := NB248_292.out; have hnb111 := NB292_254.out; have hnc111 := NB254_292.out; have hnb112 := NB292_260.out; have hnc112 := NB260_292.out; have hnb113 := NB292_266.out; have hnc113 := NB266_292.out; have hnb114 := NB292_273.out; have hnc114 := NB273_292.out; have hnb115 := NB292_279.out; have hnc115 := NB279_292.out; have hnb116 := NB292_286.out; have hnc116 := NB286_292.out; obtain ⟨hcz117_0, hcz117_1, hfz117_0, hfz117_1⟩ := blk2 BK292; obtain ⟨hcz118_0, hcz118_1, hfz118_0, hfz118_1⟩ := blk2 BK286) | ((with_reducible refine gate_callee (f := 14) rfl ?_); refine goesL_ (some 110) rfl rfl Try.func14 (by kernel_rfl) rfl #[.agg #[.int .i64 t281, .slice Ao94 t282.length co94], .agg #[.int .i64 t287, .slice Ao107 t288.length co107]] rfl (by (try simp only [List.map_toArray, List.map_cons, List.map_nil]); first | done | rfl | (simp only [List.length_drop, List.length_take]; rfl)) ?_; (with_reducible refine (drydockref16_Same.calls kj6 t281 _ _ t282 t287 _ _ t288 true _ ?side1 ?side2 ?side3 ?side4 A26.out).mono ?_); (case side1 => refine (Kd.R_reads' (e := 26) (base := w.heap.size) (ok := fun k_ => (((((((True ∧ some k_ ≠ (.slice Ao42 t251.length co42 : Value).ownBlock) ∧ some k_ ≠ (.slice Ao50 t256.length co50 : Value).ownBlock) ∧ some k_ ≠ (.slice Ao59 t262.length co59 : Value).ownBlock) ∧ some k_ ≠ (.slice Ao70 t269.length co70 : Value).ownBlock) ∧ some k_ ≠ (.slice Ao80 t275.length co80 : Value).ownBlock) ∧ k_ ≠ gb248) ∧ some k_ ≠ (.slice Ao107 t288.length co107 : Value).ownBlock)) (n := t282.length) (c := co94) ?_).2.2; exact (by (with_reducible repeat (first | apply Kd.R_alloc | apply Kd.R_drewN | apply Kd.R_drew)); exact (Kd.R_mono (far2 gb292 (Kd.R_types HO284.out BK292.out (by decide)) (fun _ hk => hk.2)) (fun _ h_ => h_.1)))); (case side2 => exact (Kd.R_reads' HO284.out).2.1); (case side3 => refine (Kd.R_reads' (e := 26) (base := w.heap.size) (ok := fun k_ => (((((((True ∧ some k_ ≠ (.slice Ao42 t251.length co42 : Value).ownBlock) ∧ some k_ ≠ (.slice Ao50 t256.length co50 : Value).ownBlock) ∧ some k_ ≠ (.slice Ao59 t262.length co59 : Value).ownBlock) ∧ some k_ ≠ (.slice Ao70 t269.length co70 : Value).ownBlock) ∧ some k_ ≠ (.slice Ao80 t275.length co80 : Value).ownBlock) ∧ some k_ ≠ (.slice Ao94 t282.length co94 : Value).ownBlock) ∧ k_ ≠ gb248)) (n := t288.length) (c := co107) ?_).2.2; exact (by (with_reducible repeat (first | apply Kd.R_alloc | apply Kd.R_drewN | apply Kd.R_drew)); exact (Kd.R_mono (far2 gb292 (Kd.R_types HO290.out BK292.out (by decide)) (fun _ hk => hk.2)) (fun _ h_ => h_.1)))); (case side4 => exact (Kd.R_reads' HO290.out).2.1); rintro e w119 ⟨rfl, hb⟩; refine ⟨_, rfl, ?_⟩; have n0_ := Aside0.mk (Kd.R_below (by (with_reducible repeat (first | apply Kd.R_alloc | apply Kd.R_drewN | apply Kd.R_drew)); exact (Kd.R_mono (far2 gb292 (Kd.R_types HO253.out BK292.out (by decide)) (fun _ hk => hk.2)) (fun _ h_ => h_.1))) hb); have n1_ := Aside0.mk (Kd.R_below (by (with_reducible repeat (first | apply Kd.R_alloc | apply Kd.R_drewN | apply Kd.R_drew)); exact (Kd.R_mono (far2 gb292 (Kd.R_types HO258.out BK292.out (by decide)) (fun _ hk => hk.2)) (fun _ h_ => h_.1))) hb); have n2_ := Aside0.mk (Kd.R_below (by (with_reducible repeat (first | apply Kd.R_alloc | apply Kd.R_drewN | apply Kd.R_drew)); exact (Kd.R_mono (far2 gb292 (Kd.R_types HO264.out BK292.out (by decide)) (fun _ hk => hk.2)) (fun _ h_ => h_.1))) hb); have n3_ := Aside0.mk (Kd.R_below (by (with_reducible repeat (first | apply Kd.R_alloc | apply Kd.R_drewN | apply Kd.R_drew)); exact (Kd.R_mono (far2 gb292 (Kd.R_types HO271.out BK292.out (by decide)) (fun _ hk => hk.2)) (fun _ h_ => h_.1))) hb); have n4_ := Aside0.mk (Kd.R_below (by (with_reducible repeat (first | apply Kd.R_alloc | apply Kd.R_drewN | apply Kd.R_drew)); exact (Kd.R_mono (far2 gb292 (Kd.R_types HO277.out BK292.out (by decide)) (fun _ hk => hk.2)) (fun _ h_ => h_.1))) hb); have n5_ := Aside0.mk (Kd.R_below (by (with_reducible repeat (first | apply Kd.R_alloc | apply Kd.R_drewN | apply Kd.R_drew)); exact (Kd.R_mono (far2 gb292 (Kd.R_types HO284.out BK292.out (by decide)) (fun _ hk => hk.2)) (fun _ h_ => h_.1))) hb); have n6_ := Aside0.mk (Kd.R_below (by (with_reducible repeat (first | apply Kd.R_alloc | apply Kd.R_drewN | apply Kd.R_drew)); exact (Kd.R_mono (far2 gb292 (Kd.R_types HO290.out BK292.out (by decide)) (fun _ hk => hk.2)) (fun _ h_ => h_.1))) hb); have n7_ := Aside0.mk (blk_below (bf_ BK247) hb); have n8_ := Aside0.mk (blk_below (bf_ BK248) hb); have n9_ := Aside0.mk (blk_below (bf_ BK254) hb); have n10_ := Aside0.mk (blk_below (bf_ BK260) hb); have n11_ := Aside0.mk (blk_below (bf_ BK266) hb); have n12_ := Aside0.mk (blk_below (bf_ BK273) hb); have n13_ := Aside0.mk (blk_below (bf_ BK279) hb); have n14_ := Aside0.mk (blk_below (bf_ BK286) hb); have n15_ := Aside0.mk (blk_below (bp_ (o := .cells #[.int .i64 t287, .slice Ao107 t288.length co107] 24 (0, 0)) BK292) hb); have n16_ := Aside0.mk (below_step bs_ hb); clear HO253 HO258 HO264 HO271 HO277 HO284 HO290 BK247 BK248 BK254 BK260 BK266 BK273 BK279 BK286 BK292 HB; have HO253 := n0_; have HO258 := n1_; have HO264 := n2_; have HO271 := n3_; have HO277 := n4_; have HO284 := n5_; have HO290 := n6_; have BK247 := n7_; have BK248 := n8_; have BK254 := n9_; have BK260 := n10_; have BK266 := n11_; have BK273 := n12_; have BK279 := n13_; have BK286 := n14_; have BK292 := n15_; have HB := n16_; clear n0_ n1_ n2_ n3_ n4_ n5_ n6_ n7_ n8_ n9_ n10_ n11_ n12_ n13_ n14_ n15_ n16_; (try clear hb); (try clear hb2); (try clear hk); (try clear hi); obtain ⟨hcz120_0, hcz120_1, hfz120_0, hfz120_1⟩ := blk2 BK247) | ((with_reducible refine gate_callee (f := 19) rfl ?_); refine goesL_ (some 119) rfl rfl Try.func19 (by kernel_rfl) rfl #[.agg #[.int .i64 a0_0, .slice A0_1 l0_1.length c0_1], .int .i64 a3] rfl (by (try simp only [List.map_toArray, List.map_cons, List.map_nil]); first | done | rfl | (simp only [List.length_drop, List.length_take]; rfl)) ?_; (with_reducible refine (link_At.calls kj6 a0_0 _ _ l0_1 a3 t294 t295 _ ?side1 ?side2 A28.out).mono ?_); (case side1 => repeat (first | exact (Kd.C_below HR0_1.out HB.out) | (with_reducible refine Kd.C_alloc ?_ _) | (with_reducible refine Kd.C_drewN ?_ _) | (with_reducible refine Kd.C_drew ?_))); (case side2 => exact HC0_1.out); rintro e w121 ⟨rfl, hb⟩; refine ⟨_, rfl, ?_⟩; have n0_ := Aside0.mk (Kd.R_below (rk_ HO253) hb); have n1_ := Aside0.mk (Kd.R_below (rk_ HO258) hb); have n2_ := Aside0.mk (Kd.R_below (rk_ HO264) hb); have n3_ := Aside0.mk (Kd.R_below (rk_ HO271) hb); have n4_ := Aside0.mk (Kd.R_below (rk_ HO277) hb); have n5_ := Aside0.mk (Kd.R_below (rk_ HO284) hb); have n6_ := Aside0.mk (Kd.R_below (rk_ HO290) hb); have n7_ := Aside0.mk (blk_below (bk_ BK247) hb); have n8_ := Aside0.mk (blk_below (bk_ BK248) hb); have n9_ := Aside0.mk (blk_below (bk_ BK254) hb); have n10_ := Aside0.mk (blk_below (bk_ BK260) hb); have n11_ := Aside0.mk (blk_below (bk_ BK266) hb); have n12_ := Aside0.mk (blk_below (bk_ BK273) hb); have n13_ := Aside0.mk (blk_below (bk_ BK279) hb); have n14_ := Aside0.mk (blk_below (bk_ BK286) hb); have n15_ := Aside0.mk (blk_below (bk_ BK292) hb); have n16_ := Aside0.mk (below_step bs_ hb); clear HO253 HO258 HO264 HO271 HO277 HO284 HO290 BK247 BK248 BK254 BK260 BK266 BK273 BK279 BK286 BK292 HB; have HO253 := n0_; have HO258 := n1_; have HO264 := n2_; have HO271 := n3_; have HO277 := n4_; have HO284 := n5_; have HO290 := n6_; have BK247 := n7_; have BK248 := n8_; have BK254 := n9_; have BK260 := n10_; have BK266 := n11_; have BK273 := n12_; have BK279 := n13_; have BK286 := n14_; have BK292 := n15_; have HB := n16_; clear n0_ n1_ n2_ n3_ n4_ n5_ n6_ n7_ n8_ n9_ n10_ n11_ n12_ n13_ n14_ n15_ n16_; (try clear hb); (try clear hb2); (try clear hk); (try clear hi); obtain ⟨hcz122_0, hcz122_1, hfz122_0, hfz122_1⟩ := blk2 BK247) | ((with_reducible refine gate_callee (f := 20) rfl ?_); refine goesL_ (some 125) rfl rfl Try.func20 (by kernel_rfl) rfl #[.agg #[.int .i64 a0_0, .slice A0_1 l0_1.length c0_1], .int .i64 a3] rfl (by (try simp only [List.map_toArray, List.map_cons, List.map_nil]); first | done | rfl | (simp only [List.length_drop, List.length_take]; rfl)) ?_; (with_reducible refine (drydockref16_At.calls kj6 a0_0 _ _ l0_1 a3 t296 t297 _ ?side1 ?side2 A29.out).mono ?_); (case side1 => repeat (first | exact (Kd.C_below HR0_1.out HB.out) | (with_reducible refine Kd.C_alloc ?_ _) | (with_reducible refine Kd.C_drewN ?_ _) | (with_reducible refine Kd.C_drew ?_))); (case side2 => exact HC0_1.out); rintro e w123 ⟨rfl, hb⟩; refine ⟨_, rfl, ?_⟩; have n0_ := Aside0.mk (Kd.R_below (rk_ HO253) hb); have n1_ := Aside0.mk (Kd.R_below (rk_ HO258) hb); have n2_ := Aside0.mk (Kd.R_below (rk_ HO264) hb); have n3_ := Aside0.mk (Kd.R_below (rk_ HO271) hb); have n4_ := Aside0.mk (Kd.R_below (rk_ HO277) hb); have n5_ := Aside0.mk (Kd.R_below (rk_ HO284) hb); have n6_ := Aside0.mk (Kd.R_below (rk_ HO290) hb); have n7_ := Aside0.mk (blk_below (bk_ BK247) hb); have n8_ := Aside0.mk (blk_below (bk_ BK248) hb); have n9_ := Aside0.mk (blk_below (bk_ BK254) hb); have n10_ := Aside0.mk (blk_below (bk_ BK260) hb); have n11_ := Aside0.mk (blk_below (bk_ BK266) hb); have n12_ := Aside0.mk (blk_below (bk_ BK273) hb); have n13_ := Aside0.mk (blk_below (bk_ BK279) hb); have n14_ := Aside0.mk (blk_below (bk_ BK286) hb); have n15_ := Aside0.mk (blk_below (bk_ BK292) hb); have n16_ := Aside0.mk (below_step bs_ hb); clear HO253 HO258 HO264 HO271 HO277 HO284 HO290 BK247 BK248 BK254 BK260 BK266 BK273 BK279 BK286 BK292 HB; have HO253 := n0_; have HO258 := n1_; have HO264 := n2_; have HO271 := n3_; have HO277 := n4_; have HO284 := n5_; have HO290 := n6_; have BK247 := n7_; have BK248 := n8_; have BK254 := n9_; have BK260 := n10_; have BK266 := n11_; have BK273 := n12_; have BK279 := n13_; have BK286 := n14_; have BK292 := n15_; have HB := n16_; clear n0_ n1_ n2_ n3_ n4_ n5_ n6_ n7_ n8_ n9_ n10_ n11_ n12_ n13_ n14_ n15_ n16_; (try clear hb); (try clear hb2); (try clear hk); (try clear hi)))
             have n0_ := Aside0.mk (Kd.R_drew HO253.out)
             have n1_ := Aside0.mk (Kd.R_drew HO258.out)
             have n2_ := Aside0.mk (Kd.R_drew HO264.out)
             have n3_ := Aside0.mk (Kd.R_drew HO271.out)
             have n4_ := Aside0.mk (Kd.R_drew HO277.out)
             have n5_ := Aside0.mk (Kd.R_drew HO284.out)
             have n6_ := Aside0.mk (Kd.R_drew HO290.out)
             have n7_ := Aside0.mk (blk_drew BK247.out)
             have n8_ := Aside0.mk (blk_drew BK248.out)
             have n9_ := Aside0.mk (blk_drew BK254.out)
             have n10_ := Aside0.mk (blk_drew BK260.out)
             have n11_ := Aside0.mk (blk_drew BK266.out)
             have n12_ := Aside0.mk (blk_drew BK273.out)
             have n13_ := Aside0.mk (blk_drew BK279.out)
             have n14_ := Aside0.mk (blk_drew BK286.out)
             have n15_ := Aside0.mk (blk_drew BK292.out)
             have n16_ := Aside0.mk (below_drew1 HB.out)
             clear HO253
             clear HO258
             clear HO264
             clear HO271
             clear HO277
             clear HO284
             clear HO290
             clear BK247
             clear BK248
             clear BK254
             clear BK260
             clear BK266
             clear BK273
             clear BK279
             clear BK286
             clear BK292
             clear HB
             have HO253 := n0_
             have HO258 := n1_
             have HO264 := n2_
             have HO271 := n3_
             have HO277 := n4_
             have HO284 := n5_
             have HO290 := n6_
             have BK247 := n7_
             have BK248 := n8_
             have BK254 := n9_
             have BK260 := n10_
             have BK266 := n11_
             have BK273 := n12_
             have BK279 := n13_
             have BK286 := n14_
             have BK292 := n15_
             have HB := n16_
             clear n0_ n1_ n2_ n3_ n4_ n5_ n6_ n7_ n8_ n9_ n10_ n11_ n12_ n13_ n14_ n15_ n16_
             refine start_ (n := 30) (S := fun w' => w'.cell? ⟨gb247, 0, none⟩ = some (.int .i64 a0_0) ∧ w'.cell? ⟨gb247, 1, none⟩ = some (.slice A0_1 l0_1.length c0_1) ∧ w'.cell? ⟨gb254, 0, none⟩ = some (.int .i64 t250) ∧ w'.cell? ⟨gb254, 1, none⟩ = some (.slice Ao42 t251.length co42)) (ds := []) #[false, false, false, false, false, false, false, false, false, false, false, false, false, false, false, false, false, false, false, false, false, false, false, false, false, false, false, false, false, false] (by kernel_rfl) rfl rfl ⟨(blk_cell BK247.out 0).trans rfl, (blk_cell BK247.out 1).trans rfl, (blk_cell BK254.out 0).trans rfl, (blk_cell BK254.out 1).trans rfl⟩ (fun hHeld => ?_); refine with_tabW drydocklaw16_LinkTells.tab16 drydocklaw16_LinkTells.bits16 (fun HT_ HW_ => ?_)
             generalize w123.drew = w124 at HO253 HO258 HO264 HO271 HO277 HO284 HO290 BK247 BK248 BK254 BK260 BK266 BK273 BK279 BK286 BK292 HB hHeld ⊢
             refine pv_ 0 (some 128) HT_ (h := ?_)
             refine pv_ 1 (some 129) HT_ (h := ?_)
             refine pv_ 2 (some 130) HT_ (h := ?_)
             refine pv_ 3 (some 131) HT_ (h := ?_)
             refine pv_ 4 (some 132) HT_ (h := ?_)
             refine pv_ 5 (some 133) HT_ (h := ?_)
             refine pv_ 6 (some 134) HT_ (h := ?_)
             refine pv_ 7 (some 135) HT_ (h := ?_)
             refine pv_ 8 (some 136) HT_ (h := ?_)
             refine pv_ 9 (some 137) HT_ (h := ?_)
             refine pv_ 10 (some 138) HT_ (h := ?_)
             refine pv_ 11 (some 139) HT_ (h := ?_)
             refine pv_ 12 (some 140) HT_ (h := ?_)
             refine pv_ 13 (some 141) HT_ (h := ?_)
             refine pv_ 14 (some 142) HT_ (h := ?_)
             refine pv_ 15 (some 143) HT_ (h := ?_)
             refine pv_ 16 (some 144) HT_ (h := ?_)
             refine pv_ 17 (some 145) HT_ (h := ?_)
             refine tk_ 18 (some 146) HT_ HW_ hHeld (h := ?_)
             refine tk_ 19 (some 147) HT_ HW_ hHeld (h := ?_)
             refine one_ (i := 20) (N := some 148) #[true, true, true, true, true, true, true, true, true, true, true, true, true, true, true, true, true, true, true, true, true, false, false, false, false, false, false, false, false, false] rfl rfl (one_of HT_.out (by kernel_rfl)) (by decide) (fun K hK => ?_)
             refine goes_ Try.func14 (by kernel_rfl) rfl #[.agg #[.int .i64 a0_0, .slice A0_1 l0_1.length c0_1], .agg #[.int .i64 t250, .slice Ao42 t251.length co42]] (by rfl) rfl rfl (by (try simp only [List.map_toArray, List.map_cons, List.map_nil]); first | done | rfl | (simp only [List.length_drop, List.length_take]; rfl)) ?_
             with_reducible refine (drydockref16_Same.calls kj6 a0_0 _ _ l0_1 t250 _ _ t251 true _ ?side1 ?side2 ?side3 ?side4 A35.out).mono ?_
             (case side1 => repeat (first | exact (Kd.C_below HR0_1.out HB.out) | (with_reducible refine Kd.C_alloc ?_ _) | (with_reducible refine Kd.C_drewN ?_ _) | (with_reducible refine Kd.C_drew ?_)))
             (case side2 => exact HC0_1.out)
             (case side3 => repeat (first | exact (Kd.R_reads' HO253.out).2.2 | (with_reducible refine Kd.C_alloc ?_ _) | (with_reducible refine Kd.C_drewN ?_ _) | (with_reducible refine Kd.C_drew ?_)))
             (case side4 => exact (Kd.R_reads' HO253.out).2.1)
             rintro e w125 ⟨rfl, hb⟩
             refine ⟨_, rfl, ?_⟩
             have n0_ := Aside0.mk (Kd.R_below (rk_ HO253) hb)
             have n1_ := Aside0.mk (Kd.R_below (rk_ HO258) hb)
             have n2_ := Aside0.mk (Kd.R_below (rk_ HO264) hb)
             have n3_ := Aside0.mk (Kd.R_below (rk_ HO271) hb)
             have n4_ := Aside0.mk (Kd.R_below (rk_ HO277) hb)
             have n5_ := Aside0.mk (Kd.R_below (rk_ HO284) hb)
             have n6_ := Aside0.mk (Kd.R_below (rk_ HO290) hb)
             have n7_ := Aside0.mk (blk_below (bk_ BK247) hb)
             have n8_ := Aside0.mk (blk_below (bk_ BK248) hb)
             have n9_ := Aside0.mk (blk_below (bk_ BK254) hb)
             have n10_ := Aside0.mk (blk_below (bk_ BK260) hb)
             have n11_ := Aside0.mk (blk_below (bk_ BK266) hb)
             have n12_ := Aside0.mk (blk_below (bk_ BK273) hb)
             have n13_ := Aside0.mk (blk_below (bk_ BK279) hb)
             have n14_ := Aside0.mk (blk_below (bk_ BK286) hb)
             have n15_ := Aside0.mk (blk_below (bk_ BK292) hb)
             have n16_ := Aside0.mk (below_step bs_ hb)
             clear HO253
             clear HO258
             clear HO264
             clear HO271
             clear HO277
             clear HO284
             clear HO290
             clear BK247
             clear BK248
             clear BK254
             clear BK260
             clear BK266
             clear BK273
             clear BK279
             clear BK286
             clear BK292
             clear HB
             have HO253 := n0_
             have HO258 := n1_
             have HO264 := n2_
             have HO271 := n3_
             have HO277 := n4_
             have HO284 := n5_
             have HO290 := n6_
             have BK247 := n7_
             have BK248 := n8_
             have BK254 := n9_
             have BK260 := n10_
             have BK266 := n11_
             have BK273 := n12_
             have BK279 := n13_
             have BK286 := n14_
             have BK292 := n15_
             have HB := n16_
             clear n0_ n1_ n2_ n3_ n4_ n5_ n6_ n7_ n8_ n9_ n10_ n11_ n12_ n13_ n14_ n15_ n16_
             (try clear hb)
             (try clear hb2)
             (try clear hk)
             (try clear hi)
             refine hK.out _ _ ⟨(blk_cell BK247.out 0).trans rfl, (blk_cell BK247.out 1).trans rfl, (blk_cell BK254.out 0).trans rfl, (blk_cell BK254.out 1).trans rfl⟩ (fun hHeld => ?_)
             clear hK K
             refine norm_ (a' := ?_) ?_ ?_
             rotate_left
             ·show Act.put _ (some 148) _ = _
              simp only [Act.put, List.setIfInBounds_toArray, List.set_cons_zero, List.set_cons_succ, i64_w, i32_w]
              rfl
             refine pv_ 21 (some 149) HT_ (h := ?_)
             refine pv_ 22 (some 150) HT_ (h := ?_)
             refine tk_ 23 (some 151) HT_ HW_ hHeld (h := ?_)
             refine tk_ 25 (some 153) HT_ HW_ hHeld (h := ?_)
             refine one_ (i := 24) (N := some 152) #[true, true, true, true, true, true, true, true, true, true, true, true, true, true, true, true, true, true, true, true, true, true, true, true, true, true, false, false, false, false] rfl rfl (one_of HT_.out (by kernel_rfl)) (by decide) (fun K hK => ?_)
             refine goes_ Try.func21 (by kernel_rfl) rfl #[.agg #[.int .i64 a0_0, .slice A0_1 l0_1.length c0_1]] (by rfl) rfl rfl (by (try simp only [List.map_toArray, List.map_cons, List.map_nil]); first | done | rfl | (simp only [List.length_drop, List.length_take]; rfl)) ?_
             with_reducible refine (link_May.calls kj6 a0_0 _ _ l0_1 t299 _ ?side1 ?side2 A37.out).mono ?_
             (case side1 => repeat (first | exact (Kd.C_below HR0_1.out HB.out) | (with_reducible refine Kd.C_alloc ?_ _) | (with_reducible refine Kd.C_drewN ?_ _) | (with_reducible refine Kd.C_drew ?_)))
             (case side2 => exact HC0_1.out)
             rintro e w126 ⟨rfl, hb⟩
             refine ⟨_, rfl, ?_⟩
             have n0_ := Aside0.mk (Kd.R_below (rk_ HO253) hb)
             have n1_ := Aside0.mk (Kd.R_below (rk_ HO258) hb)
             have n2_ := Aside0.mk (Kd.R_below (rk_ HO264) hb)
             have n3_ := Aside0.mk (Kd.R_below (rk_ HO271) hb)
             have n4_ := Aside0.mk (Kd.R_below (rk_ HO277) hb)
             have n5_ := Aside0.mk (Kd.R_below (rk_ HO284) hb)
             have n6_ := Aside0.mk (Kd.R_below (rk_ HO290) hb)
             have n7_ := Aside0.mk (blk_below (bk_ BK247) hb)
             have n8_ := Aside0.mk (blk_below (bk_ BK248) hb)
             have n9_ := Aside0.mk (blk_below (bk_ BK254) hb)
             have n10_ := Aside0.mk (blk_below (bk_ BK260) hb)
             have n11_ := Aside0.mk (blk_below (bk_ BK266) hb)
             have n12_ := Aside0.mk (blk_below (bk_ BK273) hb)
             have n13_ := Aside0.mk (blk_below (bk_ BK279) hb)
             have n14_ := Aside0.mk (blk_below (bk_ BK286) hb)
             have n15_ := Aside0.mk (blk_below (bk_ BK292) hb)
             have n16_ := Aside0.mk (below_step bs_ hb)
             clear HO253
             clear HO258
             clear HO264
             clear HO271
             clear HO277
             clear HO284
             clear HO290
             clear BK247
             clear BK248
             clear BK254
             clear BK260
             clear BK266
             clear BK273
             clear BK279
             clear BK286
             clear BK292
             clear HB
             have HO253 := n0_
             have HO258 := n1_
             have HO264 := n2_
             have HO271 := n3_
             have HO277 := n4_
             have HO284 := n5_
             have HO290 := n6_
             have BK247 := n7_
             have BK248 := n8_
             have BK254 := n9_
             have BK260 := n10_
             have BK266 := n11_
             have BK273 := n12_
             have BK279 := n13_
             have BK286 := n14_
             have BK292 := n15_
             have HB := n16_
             clear n0_ n1_ n2_ n3_ n4_ n5_ n6_ n7_ n8_ n9_ n10_ n11_ n12_ n13_ n14_ n15_ n16_
             (try clear hb)
             (try clear hb2)
             (try clear hk)
             (try clear hi)
             refine hK.out _ _ ⟨(blk_cell BK247.out 0).trans rfl, (blk_cell BK247.out 1).trans rfl, (blk_cell BK254.out 0).trans rfl, (blk_cell BK254.out 1).trans rfl⟩ (fun hHeld => ?_)
             clear hK K
             refine norm_ (a' := ?_) ?_ ?_
             rotate_left
             ·show Act.put _ (some 152) _ = _
              simp only [Act.put, List.setIfInBounds_toArray, List.set_cons_zero, List.set_cons_succ, i64_w, i32_w]
              rfl
             refine one_ (i := 26) (N := some 154) #[true, true, true, true, true, true, true, true, true, true, true, true, true, true, true, true, true, true, true, true, true, true, true, true, true, true, true, false, false, false] rfl rfl (one_of HT_.out (by kernel_rfl)) (by decide) (fun K hK => ?_)
             refine goes_ Try.func22 (by kernel_rfl) rfl #[.agg #[.int .i64 a0_0, .slice A0_1 l0_1.length c0_1]] (by rfl) rfl rfl (by (try simp only [List.map_toArray, List.map_cons, List.map_nil]); first | done | rfl | (simp only [List.length_drop, List.length_take]; rfl)) ?_
             with_reducible refine (drydockref16_May.calls kj6 a0_0 _ _ l0_1 t300 _ ?side1 ?side2 A38.out).mono ?_
             (case side1 => repeat (first | exact (Kd.C_below HR0_1.out HB.out) | (with_reducible refine Kd.C_alloc ?_ _) | (with_reducible refine Kd.C_drewN ?_ _) | (with_reducible refine Kd.C_drew ?_)))
             (case side2 => exact HC0_1.out)
             rintro e w127 ⟨rfl, hb⟩
             refine ⟨_, rfl, ?_⟩
             have n0_ := Aside0.mk (Kd.R_below (rk_ HO253) hb)
             have n1_ := Aside0.mk (Kd.R_below (rk_ HO258) hb)
             have n2_ := Aside0.mk (Kd.R_below (rk_ HO264) hb)
             have n3_ := Aside0.mk (Kd.R_below (rk_ HO271) hb)
             have n4_ := Aside0.mk (Kd.R_below (rk_ HO277) hb)
             have n5_ := Aside0.mk (Kd.R_below (rk_ HO284) hb)
             have n6_ := Aside0.mk (Kd.R_below (rk_ HO290) hb)
             have n7_ := Aside0.mk (blk_below (bk_ BK247) hb)
             have n8_ := Aside0.mk (blk_below (bk_ BK248) hb)
             have n9_ := Aside0.mk (blk_below (bk_ BK254) hb)
             have n10_ := Aside0.mk (blk_below (bk_ BK260) hb)
             have n11_ := Aside0.mk (blk_below (bk_ BK266) hb)
             have n12_ := Aside0.mk (blk_below (bk_ BK273) hb)
             have n13_ := Aside0.mk (blk_below (bk_ BK279) hb)
             have n14_ := Aside0.mk (blk_below (bk_ BK286) hb)
             have n15_ := Aside0.mk (blk_below (bk_ BK292) hb)
             have n16_ := Aside0.mk (below_step bs_ hb)
             clear HO253
             clear HO258
             clear HO264
             clear HO271
             clear HO277
             clear HO284
             clear HO290
             clear BK247
             clear BK248
             clear BK254
             clear BK260
             clear BK266
             clear BK273
             clear BK279
             clear BK286
             clear BK292
             clear HB
             have HO253 := n0_
             have HO258 := n1_
             have HO264 := n2_
             have HO271 := n3_
             have HO277 := n4_
             have HO284 := n5_
             have HO290 := n6_
             have BK247 := n7_
             have BK248 := n8_
             have BK254 := n9_
             have BK260 := n10_
             have BK266 := n11_
             have BK273 := n12_
             have BK279 := n13_
             have BK286 := n14_
             have BK292 := n15_
             have HB := n16_
             clear n0_ n1_ n2_ n3_ n4_ n5_ n6_ n7_ n8_ n9_ n10_ n11_ n12_ n13_ n14_ n15_ n16_
             (try clear hb)
             (try clear hb2)
             (try clear hk)
             (try clear hi)
             refine hK.out _ _ ⟨(blk_cell BK247.out 0).trans rfl, (blk_cell BK247.out 1).trans rfl, (blk_cell BK254.out 0).trans rfl, (blk_cell BK254.out 1).trans rfl⟩ (fun hHeld => ?_)
             clear hK K
             refine norm_ (a' := ?_) ?_ ?_
             rotate_left
             ·show Act.put _ (some 154) _ = _
              simp only [Act.put, List.setIfInBounds_toArray, List.set_cons_zero, List.set_cons_succ, i64_w, i32_w]
              rfl
             refine pv_ 27 (some 155) HT_ (h := ?_)
             refine pv_ 28 (some 156) HT_ (h := ?_)
             refine pv_ 29 (some 10) HT_ (h := ?_)
             refine done_ (done_of HT_.out (by kernel_rfl)) ?_
             try go_wp2
             go_ret
             exact ⟨by first | rfl | (simp [errW_none, errW_some] <;> rfl) | (simp [*, errW_none, errW_some] <;> rfl), by repeat (first | (with_reducible first | exact HB.out | apply below_alloc | apply pw_below_drewN | apply below_drew1 | refine below_set ?_ GE247.out | refine below_set ?_ GE248.out | refine below_set ?_ GE254.out | refine below_set ?_ GE260.out | refine below_set ?_ GE266.out | refine below_set ?_ GE273.out | refine below_set ?_ GE279.out | refine below_set ?_ GE286.out | refine below_set ?_ GE292.out) | exact HB.out)⟩
            ·replace c36 := Bool.eq_false_iff.mpr c36
             subst c36
             have H1 : (none) = some r := by rw [if_neg (show ¬ (false = true) by decide)] at H; exact H
             clear H
             have H := H1
             clear H1
             exact absurd H (by simp)
           ·rw [if_neg c34] at H
            have c34b0 : (t295 == t297) = false := by simpa using c34
            (try (have c34b1 : decide (t295 = t297) = false := by simpa using c34))
            (try (have c34b2 : (t295 == t297) = false := by simpa using c34))
            (try (have c34b3 : ¬ (t295 = t297) := by simpa using c34))
            clear c34
            exact absurd H (by simp)
          ·rw [if_neg c33] at H
           have c33b0 : (t294 == t296) = false := beq_eq_false_iff_ne.mpr c33
           have c33b1 : (t294 != t296) = true := bne_iff_ne.mpr c33
           exact absurd H (by simp)
         ·rw [if_neg c32] at H
          have c32b0 : (t285 == t291) = false := beq_eq_false_iff_ne.mpr c32
          have c32b1 : (t285 != t291) = true := bne_iff_ne.mpr c32
          exact absurd H (by simp)
        ·rw [if_neg c31] at H
         have c31b0 : (t272 == t278) = false := beq_eq_false_iff_ne.mpr c31
         have c31b1 : (t272 != t278) = true := bne_iff_ne.mpr c31
         exact absurd H (by simp)
       ·rw [if_neg c30] at H
        have c30b0 : (t259 == t265) = false := beq_eq_false_iff_ne.mpr c30
        have c30b1 : (t259 != t265) = true := bne_iff_ne.mpr c30
        exact absurd H (by simp)
      ·replace c27 := Bool.eq_false_iff.mpr c27
       subst c27
       have H1 : (none) = some r := by rw [if_neg (show ¬ (false = true) by decide)] at H; exact H
       clear H
       have H := H1
       clear H1
       exact absurd H (by simp)
     ·replace c23 := Bool.eq_false_iff.mpr c23
      subst c23
      have H1 : (none) = some r := by rw [if_neg (show ¬ (false = true) by decide)] at H; exact H
      clear H
      have H := H1
      clear H1
      exact absurd H (by simp)
    ·replace c19 := Bool.eq_false_iff.mpr c19
     subst c19
     have H1 : (none) = some r := by rw [if_neg (show ¬ (false = true) by decide)] at H; exact H
     clear H
     have H := H1
     clear H1
     exact absurd H (by simp)

end Go.Proofs.Ytoehingbhmaidaa.P
