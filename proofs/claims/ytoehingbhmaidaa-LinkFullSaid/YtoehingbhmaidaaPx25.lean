-- Written by a program of this session over the kit's print of the translation. Lean checks it.
import Derived.Test.YtoehingbhmaidaaPx0
import Derived.Test.YtoehingbhmaidaaPx7
import Derived.Test.YtoehingbhmaidaaPx8
import Derived.Test.YtoehingbhmaidaaHDetach
import Derived.Test.YtoehingbhmaidaaSel
namespace Go.Proofs.Ytoehingbhmaidaa.P
open Go.RowKit Go.Proofs.YtoehingbhmaidaaW.PrintWords Go.Proofs.YtoehingbhmaidaaW.PrintLast Go.Proofs.YtoehingbhmaidaaW.PrintMore
attribute [local go_sem] max2_int min2_int max_two min_two max_three min_three max_four min_four   -- for this text's walks alone
set_option linter.unusedVariables false
set_option linter.unusedSimpArgs false

/-! ### drydocklaw16_LinkFull: function 9 -/
mutual
def drydocklaw16_LinkFull.l0 : Nat → Int → Bool → Int → Int → Int → Int → Int → Int → Int → Option (Bool)
  | 0, _, _, _, _, _, _, _, _, _ => none
  | k + 1, x1, x5, x7, x410000, x410001, x410002, x410003, x410004, x412000 => if x7 < 5 then (drydocklaw16_LinkFull.l1 k x1 x5 x7 0 x410000 x410001 x410002 x410003 x410004 x412000) else (if x5 = true then (if x1 < 0 then (drydocklaw16_LinkFull.j2 k x1 x5 true x410000 x410001 x410002 x410003 x410004 x412000) else (drydocklaw16_LinkFull.j2 k x1 x5 (decide (x1 > 1000000)) x410000 x410001 x410002 x410003 x410004 x412000)) else (drydocklaw16_LinkFull.j2 k x1 x5 true x410000 x410001 x410002 x410003 x410004 x412000))
def drydocklaw16_LinkFull.l1 : Nat → Int → Bool → Int → Int → Int → Int → Int → Int → Int → Int → Option (Bool)
  | 0, _, _, _, _, _, _, _, _, _, _ => none
  | k + 1, x1, x5, x7, x8, x410000, x410001, x410002, x410003, x410004, x412000 => if x8 < x7 then (if 0 ≤ x7 then (if x7 < 5 then (if 0 ≤ x8 then (if x8 < 5 then (if (sel5I x410000 x410001 x410002 x410003 x410004 x7) = (sel5I x410000 x410001 x410002 x410003 x410004 x8) then (some x5) else (drydocklaw16_LinkFull.l1 k x1 x5 x7 (wrap64 (x8 + 1)) x410000 x410001 x410002 x410003 x410004 x412000)) else (none)) else (none)) else (none)) else (none)) else (if 0 ≤ x7 then (if x7 < 5 then (if (sel5I x410000 x410001 x410002 x410003 x410004 x7) < 1 then (some x5) else (drydocklaw16_LinkFull.l0 k x1 x5 (wrap64 (x7 + 1)) x410000 x410001 x410002 x410003 x410004 x412000)) else (none)) else (none))
def drydocklaw16_LinkFull.j2 : Nat → Int → Bool → Bool → Int → Int → Int → Int → Int → Int → Option (Bool)
  | 0, _, _, _, _, _, _, _, _, _ => none
  | k + 1, x1, x5, x51, x410000, x410001, x410002, x410003, x410004, x412000 => if x51 = true then (some x5) else (drydocklaw16_LinkFull.l2 k x1 0 x410000 x410001 x410002 x410003 x410004 x412000 ([] : List (S26)))
def drydocklaw16_LinkFull.l2 : Nat → Int → Int → Int → Int → Int → Int → Int → Int → List (S26) → Option (Bool)
  | 0, _, _, _, _, _, _, _, _, _ => none
  | k + 1, x1, x9, x410000, x410001, x410002, x410003, x410004, x412000, x412001 => if x9 < 4 then (if 0 ≤ x9 then (if x9 < 5 then ((link_Attach.f k x412000 x412001 (sel5I x410000 x410001 x410002 x410003 x410004 x9) 0 1 0 (wrap64 (x1 + x9))).bind fun bt412 => (if bt412.2.2 = 0 then (if (bt412.2.1.length : Int) = (wrap64 (x9 + 1)) then (if x9 < (bt412.2.1.length : Int) then (if ((rd_T26 bt412.2.1 x9).f0) = (sel5I x410000 x410001 x410002 x410003 x410004 x9) then (drydocklaw16_LinkFull.l2 k x1 (wrap64 (x9 + 1)) x410000 x410001 x410002 x410003 x410004 bt412.1 bt412.2.1) else (none)) else (none)) else (none)) else (none))) else (none)) else (none)) else ((link_Attach.f k x412000 x412001 x410004 0 0 0 (wrap64 (x1 + 4))).bind fun bt419 => (drydocklaw16_LinkFull.l3 k x1 bt419.2.2 0 x410000 x410001 x410002 x410003 x410004 x412000 x412001))
def drydocklaw16_LinkFull.l3 : Nat → Int → Int → Int → Int → Int → Int → Int → Int → Int → List (S26) → Option (Bool)
  | 0, _, _, _, _, _, _, _, _, _, _ => none
  | k + 1, x1, x13, x14, x410000, x410001, x410002, x410003, x410004, x412000, x412001 => if x14 < 4 then (if 0 ≤ x14 then (if x14 < 5 then ((link_Detach.f x412000 x412001 (sel5I x410000 x410001 x410002 x410003 x410004 x14) (wrap64 ((wrap64 (x1 + 4)) + x14))).bind fun bt425 => (if bt425.2.2 = 0 then (drydocklaw16_LinkFull.l3 k x1 x13 (wrap64 (x14 + 1)) x410000 x410001 x410002 x410003 x410004 bt425.1 bt425.2.1) else (none))) else (none)) else (none)) else (if x13 = 4 then (if (x412001.length : Int) = 0 then (some (x412000 == (wrap64 (x1 + 8)))) else (none)) else (none))
end
def drydocklaw16_LinkFull.f (k : Nat) (a0_0 : Int) (a0_1 : Int) (a0_2 : Int) (a0_3 : Int) (a0_4 : Int) (a1 : Int) : Option (Bool) := (drydocklaw16_awake.f k).bind fun t410 => (drydocklaw16_LinkFull.l0 k a1 t410 0 a0_0 a0_1 a0_2 a0_3 a0_4 a1)
theorem drydocklaw16_LinkFull.mono_l : ∀ k, (∀ y0 y1 y2 y3 y4 y5 y6 y7 y8, LeO (drydocklaw16_LinkFull.l0 k y0 y1 y2 y3 y4 y5 y6 y7 y8) (drydocklaw16_LinkFull.l0 (k + 1) y0 y1 y2 y3 y4 y5 y6 y7 y8)) ∧ (∀ y0 y1 y2 y3 y4 y5 y6 y7 y8 y9, LeO (drydocklaw16_LinkFull.l1 k y0 y1 y2 y3 y4 y5 y6 y7 y8 y9) (drydocklaw16_LinkFull.l1 (k + 1) y0 y1 y2 y3 y4 y5 y6 y7 y8 y9)) ∧ (∀ y0 y1 y2 y3 y4 y5 y6 y7 y8, LeO (drydocklaw16_LinkFull.j2 k y0 y1 y2 y3 y4 y5 y6 y7 y8) (drydocklaw16_LinkFull.j2 (k + 1) y0 y1 y2 y3 y4 y5 y6 y7 y8)) ∧ (∀ y0 y1 y2 y3 y4 y5 y6 y7 y8, LeO (drydocklaw16_LinkFull.l2 k y0 y1 y2 y3 y4 y5 y6 y7 y8) (drydocklaw16_LinkFull.l2 (k + 1) y0 y1 y2 y3 y4 y5 y6 y7 y8)) ∧ (∀ y0 y1 y2 y3 y4 y5 y6 y7 y8 y9, LeO (drydocklaw16_LinkFull.l3 k y0 y1 y2 y3 y4 y5 y6 y7 y8 y9) (drydocklaw16_LinkFull.l3 (k + 1) y0 y1 y2 y3 y4 y5 y6 y7 y8 y9))
  | 0 => ⟨fun _ _ _ _ _ _ _ _ _ r h => by simp [drydocklaw16_LinkFull.l0] at h, fun _ _ _ _ _ _ _ _ _ _ r h => by simp [drydocklaw16_LinkFull.l1] at h, fun _ _ _ _ _ _ _ _ _ r h => by simp [drydocklaw16_LinkFull.j2] at h, fun _ _ _ _ _ _ _ _ _ r h => by simp [drydocklaw16_LinkFull.l2] at h, fun _ _ _ _ _ _ _ _ _ _ r h => by simp [drydocklaw16_LinkFull.l3] at h⟩
  | k + 1 => by
    obtain ⟨ih0, ih1, ih2, ih3, ih4⟩ := drydocklaw16_LinkFull.mono_l k
    refine ⟨?_, ?_, ?_, ?_, ?_⟩
    · intro y0 y1 y2 y3 y4 y5 y6 y7 y8
      unfold drydocklaw16_LinkFull.l0
      repeat' first
      | (with_reducible exact ih0 _ _ _ _ _ _ _ _ _)
      | (with_reducible exact ih1 _ _ _ _ _ _ _ _ _ _)
      | (with_reducible exact ih2 _ _ _ _ _ _ _ _ _)
      | (with_reducible exact ih3 _ _ _ _ _ _ _ _ _)
      | (with_reducible exact ih4 _ _ _ _ _ _ _ _ _ _)
      | (with_reducible exact drydocklaw16_awake.mono _)
      | (with_reducible exact link_Attach.mono _ _ _ _ _ _ _ _)
      | (with_reducible exact LeO.refl _)
      | (with_reducible exact LeO.none _)
      | (with_reducible refine LeO.ite ?_ ?_)
      | (with_reducible refine LeO.bind ?_ (fun _ => ?_))
      | exact ih0 _ _ _ _ _ _ _ _ _
      | exact ih1 _ _ _ _ _ _ _ _ _ _
      | exact ih2 _ _ _ _ _ _ _ _ _
      | exact ih3 _ _ _ _ _ _ _ _ _
      | exact ih4 _ _ _ _ _ _ _ _ _ _
      | exact drydocklaw16_awake.mono _
      | exact link_Attach.mono _ _ _ _ _ _ _ _
      | exact LeO.none _
      | refine LeO.ite ?_ ?_
      | refine LeO.bind ?_ (fun _ => ?_)
    · intro y0 y1 y2 y3 y4 y5 y6 y7 y8 y9
      unfold drydocklaw16_LinkFull.l1
      repeat' first
      | (with_reducible exact ih0 _ _ _ _ _ _ _ _ _)
      | (with_reducible exact ih1 _ _ _ _ _ _ _ _ _ _)
      | (with_reducible exact ih2 _ _ _ _ _ _ _ _ _)
      | (with_reducible exact ih3 _ _ _ _ _ _ _ _ _)
      | (with_reducible exact ih4 _ _ _ _ _ _ _ _ _ _)
      | (with_reducible exact drydocklaw16_awake.mono _)
      | (with_reducible exact link_Attach.mono _ _ _ _ _ _ _ _)
      | (with_reducible exact LeO.refl _)
      | (with_reducible exact LeO.none _)
      | (with_reducible refine LeO.ite ?_ ?_)
      | (with_reducible refine LeO.bind ?_ (fun _ => ?_))
      | exact ih0 _ _ _ _ _ _ _ _ _
      | exact ih1 _ _ _ _ _ _ _ _ _ _
      | exact ih2 _ _ _ _ _ _ _ _ _
      | exact ih3 _ _ _ _ _ _ _ _ _
      | exact ih4 _ _ _ _ _ _ _ _ _ _
      | exact drydocklaw16_awake.mono _
      | exact link_Attach.mono _ _ _ _ _ _ _ _
      | exact LeO.none _
      | refine LeO.ite ?_ ?_
      | refine LeO.bind ?_ (fun _ => ?_)
    · intro y0 y1 y2 y3 y4 y5 y6 y7 y8
      unfold drydocklaw16_LinkFull.j2
      repeat' first
      | (with_reducible exact ih0 _ _ _ _ _ _ _ _ _)
      | (with_reducible exact ih1 _ _ _ _ _ _ _ _ _ _)
      | (with_reducible exact ih2 _ _ _ _ _ _ _ _ _)
      | (with_reducible exact ih3 _ _ _ _ _ _ _ _ _)
      | (with_reducible exact ih4 _ _ _ _ _ _ _ _ _ _)
      | (with_reducible exact drydocklaw16_awake.mono _)
      | (with_reducible exact link_Attach.mono _ _ _ _ _ _ _ _)
      | (with_reducible exact LeO.refl _)
      | (with_reducible exact LeO.none _)
      | (with_reducible refine LeO.ite ?_ ?_)
      | (with_reducible refine LeO.bind ?_ (fun _ => ?_))
      | exact ih0 _ _ _ _ _ _ _ _ _
      | exact ih1 _ _ _ _ _ _ _ _ _ _
      | exact ih2 _ _ _ _ _ _ _ _ _
      | exact ih3 _ _ _ _ _ _ _ _ _
      | exact ih4 _ _ _ _ _ _ _ _ _ _
      | exact drydocklaw16_awake.mono _
      | exact link_Attach.mono _ _ _ _ _ _ _ _
      | exact LeO.none _
      | refine LeO.ite ?_ ?_
      | refine LeO.bind ?_ (fun _ => ?_)
    · intro y0 y1 y2 y3 y4 y5 y6 y7 y8
      unfold drydocklaw16_LinkFull.l2
      repeat' first
      | (with_reducible exact ih0 _ _ _ _ _ _ _ _ _)
      | (with_reducible exact ih1 _ _ _ _ _ _ _ _ _ _)
      | (with_reducible exact ih2 _ _ _ _ _ _ _ _ _)
      | (with_reducible exact ih3 _ _ _ _ _ _ _ _ _)
      | (with_reducible exact ih4 _ _ _ _ _ _ _ _ _ _)
      | (with_reducible exact drydocklaw16_awake.mono _)
      | (with_reducible exact link_Attach.mono _ _ _ _ _ _ _ _)
      | (with_reducible exact LeO.refl _)
      | (with_reducible exact LeO.none _)
      | (with_reducible refine LeO.ite ?_ ?_)
      | (with_reducible refine LeO.bind ?_ (fun _ => ?_))
      | exact ih0 _ _ _ _ _ _ _ _ _
      | exact ih1 _ _ _ _ _ _ _ _ _ _
      | exact ih2 _ _ _ _ _ _ _ _ _
      | exact ih3 _ _ _ _ _ _ _ _ _
      | exact ih4 _ _ _ _ _ _ _ _ _ _
      | exact drydocklaw16_awake.mono _
      | exact link_Attach.mono _ _ _ _ _ _ _ _
      | exact LeO.none _
      | refine LeO.ite ?_ ?_
      | refine LeO.bind ?_ (fun _ => ?_)
    · intro y0 y1 y2 y3 y4 y5 y6 y7 y8 y9
      unfold drydocklaw16_LinkFull.l3
      repeat' first
      | (with_reducible exact ih0 _ _ _ _ _ _ _ _ _)
      | (with_reducible exact ih1 _ _ _ _ _ _ _ _ _ _)
      | (with_reducible exact ih2 _ _ _ _ _ _ _ _ _)
      | (with_reducible exact ih3 _ _ _ _ _ _ _ _ _)
      | (with_reducible exact ih4 _ _ _ _ _ _ _ _ _ _)
      | (with_reducible exact drydocklaw16_awake.mono _)
      | (with_reducible exact link_Attach.mono _ _ _ _ _ _ _ _)
      | (with_reducible exact LeO.refl _)
      | (with_reducible exact LeO.none _)
      | (with_reducible refine LeO.ite ?_ ?_)
      | (with_reducible refine LeO.bind ?_ (fun _ => ?_))
      | exact ih0 _ _ _ _ _ _ _ _ _
      | exact ih1 _ _ _ _ _ _ _ _ _ _
      | exact ih2 _ _ _ _ _ _ _ _ _
      | exact ih3 _ _ _ _ _ _ _ _ _
      | exact ih4 _ _ _ _ _ _ _ _ _ _
      | exact drydocklaw16_awake.mono _
      | exact link_Attach.mono _ _ _ _ _ _ _ _
      | exact LeO.none _
      | refine LeO.ite ?_ ?_
      | refine LeO.bind ?_ (fun _ => ?_)
theorem drydocklaw16_LinkFull.mono : ∀ a0 a1 a2 a3 a4 a5 k, LeO (drydocklaw16_LinkFull.f k a0 a1 a2 a3 a4 a5) (drydocklaw16_LinkFull.f (k + 1) a0 a1 a2 a3 a4 a5) := by
  intro a0 a1 a2 a3 a4 a5 k
  obtain ⟨ih0, ih1, ih2, ih3, ih4⟩ := drydocklaw16_LinkFull.mono_l k
  unfold drydocklaw16_LinkFull.f
  repeat' first
      | (with_reducible exact ih0 _ _ _ _ _ _ _ _ _)
      | (with_reducible exact ih1 _ _ _ _ _ _ _ _ _ _)
      | (with_reducible exact ih2 _ _ _ _ _ _ _ _ _)
      | (with_reducible exact ih3 _ _ _ _ _ _ _ _ _)
      | (with_reducible exact ih4 _ _ _ _ _ _ _ _ _ _)
      | (with_reducible exact drydocklaw16_awake.mono _)
      | (with_reducible exact link_Attach.mono _ _ _ _ _ _ _ _)
      | (with_reducible exact LeO.refl _)
      | (with_reducible exact LeO.none _)
      | (with_reducible refine LeO.ite ?_ ?_)
      | (with_reducible refine LeO.bind ?_ (fun _ => ?_))
      | exact ih0 _ _ _ _ _ _ _ _ _
      | exact ih1 _ _ _ _ _ _ _ _ _ _
      | exact ih2 _ _ _ _ _ _ _ _ _
      | exact ih3 _ _ _ _ _ _ _ _ _
      | exact ih4 _ _ _ _ _ _ _ _ _ _
      | exact drydocklaw16_awake.mono _
      | exact link_Attach.mono _ _ _ _ _ _ _ _
      | exact LeO.none _
      | refine LeO.ite ?_ ?_
      | refine LeO.bind ?_ (fun _ => ?_)
def drydocklaw16_LinkFull.T18 : Bool × List (List Nat × List Nat) := (true, [([], []), ([], []), ([1], [1]), ([2], [2]), ([3], [3]), ([], []), ([], []), ([5, 6], [5, 6]), ([0, 4, 7], [0, 4, 7]), ([8], [8]), ([9], [9]), ([9], [9]), ([], []), ([12, 10, 8, 0, 1, 2, 3, 4, 5, 6, 7, 8, 9, 10, 12], [10, 12]), ([11, 13, 0, 1, 2, 3, 4, 5, 6, 7, 8, 9, 10, 11, 12, 13], [11])])
def drydocklaw16_LinkFull.B18 : List Nat := [0, 0, 2, 6, 14, 0, 0, 96, 255, 511, 1023, 1023, 0, 6143, 16383]
theorem drydocklaw16_LinkFull.tab18 : rtab .any (opsOf Try.f9 18) = drydocklaw16_LinkFull.T18 := by kernel_rfl
theorem drydocklaw16_LinkFull.bits18 : waitsOk drydocklaw16_LinkFull.T18.2 drydocklaw16_LinkFull.B18 = true := by kernel_rfl
def drydocklaw16_LinkFull.T19 : Bool × List (List Nat × List Nat) := (true, [([], []), ([0], [0]), ([1], [1]), ([2], [2]), ([3, 2], [2, 3]), ([4, 2], [2, 4]), ([2], [2]), ([6, 2], [2, 6]), ([5, 7, 2], [2, 5, 7]), ([2, 8], [2, 8]), ([9, 2], [9]), ([10], [10]), ([11, 10], [10, 11]), ([10], [10]), ([12, 13, 10], [10, 12, 13]), ([14, 10], [10, 14]), ([15, 10], [10, 15]), ([10], [10]), ([17, 10], [10, 17]), ([18, 10], [10, 18]), ([16, 19, 10], [10, 16, 19]), ([10, 20], [10, 20])])
def drydocklaw16_LinkFull.B19 : List Nat := [0, 1, 3, 7, 15, 31, 7, 71, 255, 511, 1023, 2047, 4095, 2047, 16383, 32767, 65535, 2047, 133119, 395263, 1048575, 2097151]
theorem drydocklaw16_LinkFull.tab19 : rtab .any (opsOf Try.f9 19) = drydocklaw16_LinkFull.T19 := by kernel_rfl
theorem drydocklaw16_LinkFull.bits19 : waitsOk drydocklaw16_LinkFull.T19.2 drydocklaw16_LinkFull.B19 = true := by kernel_rfl
def drydocklaw16_LinkFull.T26 : Bool × List (List Nat × List Nat) := (true, [([], []), ([], []), ([1], [1]), ([2], [2]), ([], []), ([4], [4]), ([], []), ([5, 6], [5, 6]), ([0, 3, 7], [0, 3, 7]), ([8], [8]), ([9], [9]), ([9], [9]), ([], []), ([12, 10, 8, 0, 1, 2, 3, 4, 5, 6, 7, 8, 9, 10, 12], [10, 12]), ([11, 13, 0, 1, 2, 3, 4, 5, 6, 7, 8, 9, 10, 11, 12, 13], [11])])
def drydocklaw16_LinkFull.B26 : List Nat := [0, 0, 2, 6, 0, 16, 0, 112, 255, 511, 1023, 1023, 0, 6143, 16383]
theorem drydocklaw16_LinkFull.tab26 : rtab .any (opsOf Try.f9 26) = drydocklaw16_LinkFull.T26 := by kernel_rfl
theorem drydocklaw16_LinkFull.bits26 : waitsOk drydocklaw16_LinkFull.T26.2 drydocklaw16_LinkFull.B26 = true := by kernel_rfl
set_option maxHeartbeats 8000000 in
set_option maxRecDepth 100000 in
theorem drydocklaw16_LinkFull.calls (k : Nat) (a0_0 : Int) (a0_1 : Int) (a0_2 : Int) (a0_3 : Int) (a0_4 : Int) (a1 : Int) (r : Bool) (w : World) (h : drydocklaw16_LinkFull.f k a0_0 a0_1 a0_2 a0_3 a0_4 a1 = some r) :
    Calls Try.prog 9 #[.agg #[.int .i64 a0_0, .int .i64 a0_1, .int .i64 a0_2, .int .i64 a0_3, .int .i64 a0_4], .int .i64 a1] w fun e w' => e = .returned (.bool r) ∧ Below w.heap.size w w' := by
  have hu41 := Try.underlying41
  have hu24 := Try.underlying24
  have hu26 := Try.underlying26
  have HB := Aside0.mk (Below.refl w.heap.size w)
  have H : ((drydocklaw16_awake.f k).bind fun t410 => (drydocklaw16_LinkFull.l0 k a1 t410 0 a0_0 a0_1 a0_2 a0_3 a0_4 a1)) = some r := h
  clear h
  replace H := Option.bind_eq_some_iff.mp H
  obtain ⟨t410, A30, H⟩ := H
  replace H : (drydocklaw16_LinkFull.l0 k a1 t410 0 a0_0 a0_1 a0_2 a0_3 a0_4 a1) = some r := H
  have A3 := Aside0.mk A30
  clear A30
  have H' := Aside0.mk H
  clear H
  go_enter Try.func9, Try.ntmps9
  go_wp2_with (first | ((with_reducible refine gate_dst (N := 2) rfl ?_); (try (refine gate_guard (by rfl) ?_; dsimp only)); refine box_event ?hg (N := 2) ?hd (cs := #[.int .i64 a0_0, .int .i64 a0_1, .int .i64 a0_2, .int .i64 a0_3, .int .i64 a0_4]) (t := 41) ?hr ?_; (case hd => rfl); (case hg => rfl); (case hr => first | (go_simp; done) | (go_simp; rfl)); intro gb409 hg w4 hbox hb; have n0_ := Aside0.mk (below_step (by repeat (first | (with_reducible first | exact HB.out | apply below_alloc | apply pw_below_drewN | apply below_drew1) | exact HB.out)) hb); have n1_ := Aside0.mk (hbox); have n2_ := Aside0.mk ((by rw [hg]; exact (below_size (by repeat (first | (with_reducible first | exact HB.out | apply below_alloc | apply pw_below_drewN | apply below_drew1) | exact HB.out))) : w.heap.size ≤ gb409)); have n3_ := Aside0.mk ((by rw [hg]; exact (below_size (by repeat (first | (with_reducible first | exact HB.out | apply below_alloc | apply pw_below_drewN | apply below_drew1) | exact HB.out))) : w.heap.size ≤ gb409)); clear HB; have HB := n0_; have BK409 := n1_; have GW409 := n2_; have GE409 := n3_; clear n0_ n1_ n2_ n3_; clear hb hbox hg) | ((with_reducible refine gate_callee (f := 10) rfl ?_); refine goesL_ (some 17) rfl rfl Try.func10 (by kernel_rfl) rfl #[] rfl (by (try simp only [List.map_toArray, List.map_cons, List.map_nil]); first | done | rfl | (simp only [List.length_drop, List.length_take]; rfl)) ?_; (with_reducible refine (drydocklaw16_awake.calls k  t410 _ A3.out).mono ?_); rintro e w5 ⟨rfl, hb⟩; refine ⟨_, rfl, ?_⟩; have n0_ := Aside0.mk (blk_below (g := gb409) (o := .cells #[.int .i64 a0_0, .int .i64 a0_1, .int .i64 a0_2, .int .i64 a0_3, .int .i64 a0_4] 41 (0, 0)) (by (with_reducible repeat (first | refine blk_drewN ?_ _ | refine blk_drew ?_ | refine blk_alloc ?_ _)); exact BK409.out) hb); have n1_ := Aside0.mk (below_step (by repeat (first | (with_reducible first | exact HB.out | apply below_alloc | apply pw_below_drewN | apply below_drew1 | refine below_set ?_ GE409.out) | exact HB.out)) hb); clear BK409; clear HB; have BK409 := n0_; have HB := n1_; clear n0_ n1_; (try clear hb); (try clear hb2); (try clear hk); (try clear hi)) | ((with_reducible refine gate_dst (N := 6) rfl ?_); (try (refine gate_guard (by rfl) ?_; dsimp only)); refine box_event ?hg (N := 6) ?hd (cs := #[.int .i64 0, .slice none 0 0]) (t := 24) ?hr ?_; (case hd => rfl); (case hg => rfl); (case hr => first | (go_simp; done) | (go_simp; rfl)); intro gb411 hg w6 hbox hb; have n0_ := Aside0.mk (blk_below (g := gb409) (o := .cells #[.int .i64 a0_0, .int .i64 a0_1, .int .i64 a0_2, .int .i64 a0_3, .int .i64 a0_4] 41 (0, 0)) (by (with_reducible repeat (first | refine blk_drewN ?_ _ | refine blk_drew ?_ | refine blk_alloc ?_ _)); exact BK409.out) hb); have n1_ := Aside0.mk (below_step (by repeat (first | (with_reducible first | exact HB.out | apply below_alloc | apply pw_below_drewN | apply below_drew1 | refine below_set ?_ GE409.out) | exact HB.out)) hb); have n2_ := Aside0.mk (hbox); have n3_ := Aside0.mk ((by rw [hg]; exact (below_size (by repeat (first | (with_reducible first | exact HB.out | apply below_alloc | apply pw_below_drewN | apply below_drew1 | refine below_set ?_ GE409.out) | exact HB.out))) : w.heap.size ≤ gb411)); have n4_ := Aside0.mk ((by rw [hg]; exact (below_size (by repeat (first | (with_reducible first | exact HB.out | apply below_alloc | apply pw_below_drewN | apply below_drew1 | refine below_set ?_ GE409.out) | exact HB.out))) : w.heap.size ≤ gb411)); have n5_ := Aside0.mk ((by rw [hg]; exact Nat.ne_of_lt (blk_lt (g := gb409) (o := .cells #[.int .i64 a0_0, .int .i64 a0_1, .int .i64 a0_2, .int .i64 a0_3, .int .i64 a0_4] 41 (0, 0)) (by (with_reducible repeat (first | refine blk_drewN ?_ _ | refine blk_drew ?_ | refine blk_alloc ?_ _)); exact BK409.out)) : gb409 ≠ gb411)); have n6_ := Aside0.mk ((by rw [hg]; exact Nat.ne_of_gt (blk_lt (g := gb409) (o := .cells #[.int .i64 a0_0, .int .i64 a0_1, .int .i64 a0_2, .int .i64 a0_3, .int .i64 a0_4] 41 (0, 0)) (by (with_reducible repeat (first | refine blk_drewN ?_ _ | refine blk_drew ?_ | refine blk_alloc ?_ _)); exact BK409.out)) : gb411 ≠ gb409)); clear BK409; clear HB; have BK409 := n0_; have HB := n1_; have BK411 := n2_; have GW411 := n3_; have GE411 := n4_; have NB409_411 := n5_; have NB411_409 := n6_; clear n0_ n1_ n2_ n3_ n4_ n5_ n6_; clear hb hbox hg; have hnb7 := NB411_409.out; have hnc7 := NB409_411.out; have hcz8_0 : w6.cell? ⟨gb411, 0, none⟩ = some (.int .i64 0) := (blk_cell BK411.out 0).trans rfl; have hcz8_1 : w6.cell? ⟨gb411, 1, none⟩ = some (.slice none 0 0) := (blk_cell BK411.out 1).trans rfl; have hfz8_0 := blk_frozen BK411.out 0; have hfz8_1 := blk_frozen BK411.out 1))
  go_loopg [7] k (fun kq v7 w' => ∃ (x7_1 : Int), v7 = .int .i64 x7_1 ∧ Aside0 (drydocklaw16_LinkFull.l0 kq a1 t410 x7_1 a0_0 a0_1 a0_2 a0_3 a0_4 a1 = some r) ∧ Aside0 (kq ≤ k) ∧ Aside0 (w'.heap[gb409]? = some (.cells #[.int .i64 a0_0, .int .i64 a0_1, .int .i64 a0_2, .int .i64 a0_3, .int .i64 a0_4] 41 (0, 0))) ∧ Aside0 (w'.heap[gb411]? = some (.cells #[.int .i64 a1, (.slice none 0 0)] 24 (0, 0))) ∧ Aside0 (Below w.heap.size w w'))
  case atStart => exact ⟨(0), (by first | rfl | (simp; done) | (simp [*]; done) | (simp [*]; unfold wrap64; omega)), H', ⟨Nat.le_refl _⟩, ⟨by (with_reducible repeat (first | refine blk_drewN ?_ _ | refine blk_drew ?_ | refine blk_alloc ?_ _)); refine blk_far ?_ NB409_411.out _; (with_reducible repeat (first | refine blk_drewN ?_ _ | refine blk_drew ?_ | refine blk_alloc ?_ _)); refine blk_far ?_ NB409_411.out _; (with_reducible repeat (first | refine blk_drewN ?_ _ | refine blk_drew ?_ | refine blk_alloc ?_ _)); exact BK409.out⟩, ⟨by (with_reducible repeat (first | refine blk_drewN ?_ _ | refine blk_drew ?_ | refine blk_alloc ?_ _)); refine blk_put (cs := #[.int .i64 a1, .slice none 0 0]) ?_ 1 _ rfl; (with_reducible repeat (first | refine blk_drewN ?_ _ | refine blk_drew ?_ | refine blk_alloc ?_ _)); refine blk_put (cs := #[.int .i64 0, .slice none 0 0]) ?_ 0 _ rfl; (with_reducible repeat (first | refine blk_drewN ?_ _ | refine blk_drew ?_ | refine blk_alloc ?_ _)); exact BK411.out⟩, ⟨by repeat (first | (with_reducible first | exact HB.out | apply below_alloc | apply pw_below_drewN | apply below_drew1 | refine below_set ?_ GE409.out | refine below_set ?_ GE411.out) | exact HB.out)⟩⟩
  case round =>
    clear H'
    try clear c1
    try clear p2
    try clear p6
    try clear c7
    try clear hcz8_0
    try clear hcz8_1
    try clear hfz8_0
    try clear hfz8_1
    obtain ⟨x7_1, rfl, HA, HK1, BK409, BK411, HB⟩ := hrel
    cases gk with
    | zero => exact absurd HA.out (by simp [drydocklaw16_LinkFull.l0])
    | succ k1 =>
      have H := HA.out
      clear HA
      simp only [drydocklaw16_LinkFull.l0] at H
      by_cases c9 : x7_1 < 5
      · rw [if_pos c9] at H
        have c9b0 : decide (x7_1 < 5) = true := decide_eq_true c9
        clear c9
        have H' := Aside0.mk H
        clear H
        go_wp2
        go_loopg [8] k1 (fun kq v8 w' => ∃ (x8_2 : Int), v8 = .int .i64 x8_2 ∧ Aside0 (drydocklaw16_LinkFull.l1 kq a1 t410 x7_1 x8_2 a0_0 a0_1 a0_2 a0_3 a0_4 a1 = some r) ∧ Aside0 (kq ≤ k1) ∧ Aside0 (w'.heap[gb409]? = some (.cells #[.int .i64 a0_0, .int .i64 a0_1, .int .i64 a0_2, .int .i64 a0_3, .int .i64 a0_4] 41 (0, 0))) ∧ Aside0 (w'.heap[gb411]? = some (.cells #[.int .i64 a1, (.slice none 0 0)] 24 (0, 0))) ∧ Aside0 (Below w.heap.size w w'))
        case atStart => exact ⟨(0), (by first | rfl | (simp; done) | (simp [*]; done) | (simp [*]; unfold wrap64; omega)), H', ⟨Nat.le_refl _⟩, ⟨by (with_reducible repeat (first | refine blk_drewN ?_ _ | refine blk_drew ?_ | refine blk_alloc ?_ _)); exact BK409.out⟩, ⟨by (with_reducible repeat (first | refine blk_drewN ?_ _ | refine blk_drew ?_ | refine blk_alloc ?_ _)); exact BK411.out⟩, ⟨by repeat (first | (with_reducible first | exact HB.out | apply below_alloc | apply pw_below_drewN | apply below_drew1 | refine below_set ?_ GE409.out | refine below_set ?_ GE411.out) | exact HB.out)⟩⟩
        case round =>
          clear H'
          try clear c1
          try clear p2
          try clear p6
          try clear c7
          try clear c9
          try clear c9b0
          try clear hcz8_0
          try clear hcz8_1
          try clear hfz8_0
          try clear hfz8_1
          try clear p2
          try clear p6
          obtain ⟨x8_2, rfl, HA, HK2, BK409, BK411, HB⟩ := hrel
          cases gk with
          | zero => exact absurd HA.out (by simp [drydocklaw16_LinkFull.l1])
          | succ k2 =>
            have H := HA.out
            clear HA
            simp only [drydocklaw16_LinkFull.l1] at H
            by_cases c10 : x8_2 < x7_1
            · rw [if_pos c10] at H
              have c10b0 : decide (x8_2 < x7_1) = true := decide_eq_true c10
              clear c10
              by_cases c11 : 0 ≤ x7_1
              · rw [if_pos c11] at H
                have c11b0 : decide (0 ≤ x7_1) = true := decide_eq_true c11
                clear c11
                by_cases c12 : x7_1 < 5
                · rw [if_pos c12] at H
                  have c12b0 : decide (x7_1 < 5) = true := decide_eq_true c12
                  clear c12
                  by_cases c13 : 0 ≤ x8_2
                  · rw [if_pos c13] at H
                    have c13b0 : decide (0 ≤ x8_2) = true := decide_eq_true c13
                    clear c13
                    by_cases c14 : x8_2 < 5
                    · rw [if_pos c14] at H
                      have c14b0 : decide (x8_2 < 5) = true := decide_eq_true c14
                      clear c14
                      by_cases c15 : (sel5I a0_0 a0_1 a0_2 a0_3 a0_4 x7_1) = (sel5I a0_0 a0_1 a0_2 a0_3 a0_4 x8_2)
                      · rw [if_pos c15] at H
                        have c15b0 : ((sel5I a0_0 a0_1 a0_2 a0_3 a0_4 x7_1) == (sel5I a0_0 a0_1 a0_2 a0_3 a0_4 x8_2)) = true := beq_iff_eq.mpr c15
                        have c15b1 : ((sel5I a0_0 a0_1 a0_2 a0_3 a0_4 x7_1) != (sel5I a0_0 a0_1 a0_2 a0_3 a0_4 x8_2)) = false := bne_eq_false_iff_eq.mpr c15
                        clear c15
                        obtain rfl := Option.some.inj H
                        try go_wp2
                        have n0_ := Aside0.mk (blk_drew BK409.out)
                        have n1_ := Aside0.mk (blk_drew BK411.out)
                        have n2_ := Aside0.mk (below_drew1 HB.out)
                        clear BK409
                        clear BK411
                        clear HB
                        have BK409 := n0_
                        have BK411 := n1_
                        have HB := n2_
                        clear n0_ n1_ n2_
                        have pz17 : (0 ≤ (x7_1 : Int)) = True := eq_true (of_decide_eq_true (by first | (with_reducible assumption) | assumption))
                        have qz17 : ((x7_1 : Int) < 5) = True := eq_true (of_decide_eq_true (by first | (with_reducible assumption) | assumption))
                        have pz18 : (0 ≤ (x8_2 : Int)) = True := eq_true (of_decide_eq_true (by first | (with_reducible assumption) | assumption))
                        have qz18 : ((x8_2 : Int) < 5) = True := eq_true (of_decide_eq_true (by first | (with_reducible assumption) | assumption))
                        refine start_ (n := 7) (S := fun w' => w'.cell? ⟨gb409, 0, none⟩ = some (.int .i64 a0_0) ∧ w'.cell? ⟨gb409, 1, none⟩ = some (.int .i64 a0_1) ∧ w'.cell? ⟨gb409, 2, none⟩ = some (.int .i64 a0_2) ∧ w'.cell? ⟨gb409, 3, none⟩ = some (.int .i64 a0_3) ∧ w'.cell? ⟨gb409, 4, none⟩ = some (.int .i64 a0_4) ∧ w'.cell? ⟨gb409, (x7_1).toNat, none⟩ = some (.int .i64 (sel5I a0_0 a0_1 a0_2 a0_3 a0_4 x7_1)) ∧ w'.cell? ⟨gb409, (x8_2).toNat, none⟩ = some (.int .i64 (sel5I a0_0 a0_1 a0_2 a0_3 a0_4 x8_2))) (ds := []) #[false, false, false, false, false, false, false] (by kernel_rfl) rfl rfl ⟨(blk_cell BK409.out 0).trans rfl, (blk_cell BK409.out 1).trans rfl, (blk_cell BK409.out 2).trans rfl, (blk_cell BK409.out 3).trans rfl, (blk_cell BK409.out 4).trans rfl, (blk_sel5I0 BK409.out rfl rfl rfl rfl rfl (of_eq_true pz17) (of_eq_true qz17)), (blk_sel5I0 BK409.out rfl rfl rfl rfl rfl (of_eq_true pz18) (of_eq_true qz18))⟩ (fun hHeld => ?_)
                        generalize wr.drew = w16 at BK409 BK411 HB hHeld ⊢
                        refine pure_ (i := 0) (N := some 29) (v := ?_) (a' := ?_) #[true, false, false, false, false, false, false] rfl rfl (by kernel_rfl) (fun _ _ _ h => h) (Or.inl ⟨by rfl, ?_⟩) ?_ ?_
                        rotate_left
                        · intro w'
                          go_simp
                          with_reducible rfl
                        rotate_left
                        · simp only [Act.put, List.setIfInBounds_toArray, List.set_cons_zero, List.set_cons_succ, i64_w, i32_w]
                          rfl
                        refine pure_ (i := 1) (N := some 30) (v := ?_) (a' := ?_) #[true, true, false, false, false, false, false] rfl rfl (by kernel_rfl) (fun _ _ _ h => h) (Or.inl ⟨by rfl, ?_⟩) ?_ ?_
                        rotate_left
                        · intro w'
                          go_simp
                          with_reducible rfl
                        rotate_left
                        · simp only [Act.put, List.setIfInBounds_toArray, List.set_cons_zero, List.set_cons_succ, i64_w, i32_w]
                          rfl
                        refine pure_ (i := 3) (N := some 32) (v := ?_) (a' := ?_) #[true, true, false, true, false, false, false] rfl rfl (by kernel_rfl) (fun _ _ _ h => h) (Or.inl ⟨by rfl, ?_⟩) ?_ ?_
                        rotate_left
                        · intro w'
                          go_simp
                          with_reducible rfl
                        rotate_left
                        · simp only [Act.put, List.setIfInBounds_toArray, List.set_cons_zero, List.set_cons_succ, i64_w, i32_w]
                          rfl
                        refine pure_ (i := 4) (N := some 33) (v := ?_) (a' := ?_) #[true, true, false, true, true, false, false] rfl rfl (by kernel_rfl) (fun _ _ _ h => h) (Or.inl ⟨by rfl, ?_⟩) ?_ ?_
                        rotate_left
                        · intro w'
                          go_simp
                          with_reducible rfl
                        rotate_left
                        · simp only [Act.put, List.setIfInBounds_toArray, List.set_cons_zero, List.set_cons_succ, i64_w, i32_w]
                          rfl
                        refine take_ (i := 2) (N := some 31) (v := ?_) (a' := ?_) #[true, true, true, true, true, false, false] rfl rfl (by kernel_rfl) (fun _ _ _ h => h) (Or.inl ⟨by rfl, ?_⟩) hHeld ?_ ?_
                        rotate_left
                        · rintro w' ⟨s0, s1, s2, s3, s4, s5, s6⟩
                          go_simp
                          with_reducible rfl
                        rotate_left
                        · simp only [Act.put, List.setIfInBounds_toArray, List.set_cons_zero, List.set_cons_succ, i64_w, i32_w]
                          rfl
                        refine take_ (i := 5) (N := some 34) (v := ?_) (a' := ?_) #[true, true, true, true, true, true, false] rfl rfl (by kernel_rfl) (fun _ _ _ h => h) (Or.inl ⟨by rfl, ?_⟩) hHeld ?_ ?_
                        rotate_left
                        · rintro w' ⟨s0, s1, s2, s3, s4, s5, s6⟩
                          go_simp
                          with_reducible rfl
                        rotate_left
                        · simp only [Act.put, List.setIfInBounds_toArray, List.set_cons_zero, List.set_cons_succ, i64_w, i32_w]
                          rfl
                        refine pure_ (i := 6) (N := some 35) (v := ?_) (a' := ?_) #[true, true, true, true, true, true, true] rfl rfl (by kernel_rfl) (fun _ _ _ h => h) (Or.inl ⟨by rfl, ?_⟩) ?_ ?_
                        rotate_left
                        · intro w'
                          go_simp
                          with_reducible rfl
                        rotate_left
                        · simp only [Act.put, List.setIfInBounds_toArray, List.set_cons_zero, List.set_cons_succ, i64_w, i32_w]
                          rfl
                        refine done_ (by kernel_rfl) ?_
                        try go_wp2
                        go_ret
                        exact ⟨by first | rfl | (simp [errW_none, errW_some] <;> rfl) | (simp [*, errW_none, errW_some] <;> rfl), by repeat (first | (with_reducible first | exact HB.out | apply below_alloc | apply pw_below_drewN | apply below_drew1 | refine below_set ?_ GE409.out | refine below_set ?_ GE411.out) | exact HB.out)⟩
                      · rw [if_neg c15] at H
                        have c15b0 : ((sel5I a0_0 a0_1 a0_2 a0_3 a0_4 x7_1) == (sel5I a0_0 a0_1 a0_2 a0_3 a0_4 x8_2)) = false := beq_eq_false_iff_ne.mpr c15
                        have c15b1 : ((sel5I a0_0 a0_1 a0_2 a0_3 a0_4 x7_1) != (sel5I a0_0 a0_1 a0_2 a0_3 a0_4 x8_2)) = true := bne_iff_ne.mpr c15
                        have H' := Aside0.mk H
                        clear H
                        try go_wp2
                        have n0_ := Aside0.mk (blk_drew BK409.out)
                        have n1_ := Aside0.mk (blk_drew BK411.out)
                        have n2_ := Aside0.mk (below_drew1 HB.out)
                        clear BK409
                        clear BK411
                        clear HB
                        have BK409 := n0_
                        have BK411 := n1_
                        have HB := n2_
                        clear n0_ n1_ n2_
                        have pz20 : (0 ≤ (x7_1 : Int)) = True := eq_true (of_decide_eq_true (by first | (with_reducible assumption) | assumption))
                        have qz20 : ((x7_1 : Int) < 5) = True := eq_true (of_decide_eq_true (by first | (with_reducible assumption) | assumption))
                        have pz21 : (0 ≤ (x8_2 : Int)) = True := eq_true (of_decide_eq_true (by first | (with_reducible assumption) | assumption))
                        have qz21 : ((x8_2 : Int) < 5) = True := eq_true (of_decide_eq_true (by first | (with_reducible assumption) | assumption))
                        refine start_ (n := 7) (S := fun w' => w'.cell? ⟨gb409, 0, none⟩ = some (.int .i64 a0_0) ∧ w'.cell? ⟨gb409, 1, none⟩ = some (.int .i64 a0_1) ∧ w'.cell? ⟨gb409, 2, none⟩ = some (.int .i64 a0_2) ∧ w'.cell? ⟨gb409, 3, none⟩ = some (.int .i64 a0_3) ∧ w'.cell? ⟨gb409, 4, none⟩ = some (.int .i64 a0_4) ∧ w'.cell? ⟨gb409, (x7_1).toNat, none⟩ = some (.int .i64 (sel5I a0_0 a0_1 a0_2 a0_3 a0_4 x7_1)) ∧ w'.cell? ⟨gb409, (x8_2).toNat, none⟩ = some (.int .i64 (sel5I a0_0 a0_1 a0_2 a0_3 a0_4 x8_2))) (ds := []) #[false, false, false, false, false, false, false] (by kernel_rfl) rfl rfl ⟨(blk_cell BK409.out 0).trans rfl, (blk_cell BK409.out 1).trans rfl, (blk_cell BK409.out 2).trans rfl, (blk_cell BK409.out 3).trans rfl, (blk_cell BK409.out 4).trans rfl, (blk_sel5I0 BK409.out rfl rfl rfl rfl rfl (of_eq_true pz20) (of_eq_true qz20)), (blk_sel5I0 BK409.out rfl rfl rfl rfl rfl (of_eq_true pz21) (of_eq_true qz21))⟩ (fun hHeld => ?_)
                        generalize wr.drew = w19 at BK409 BK411 HB hHeld ⊢
                        refine pure_ (i := 0) (N := some 29) (v := ?_) (a' := ?_) #[true, false, false, false, false, false, false] rfl rfl (by kernel_rfl) (fun _ _ _ h => h) (Or.inl ⟨by rfl, ?_⟩) ?_ ?_
                        rotate_left
                        · intro w'
                          go_simp
                          with_reducible rfl
                        rotate_left
                        · simp only [Act.put, List.setIfInBounds_toArray, List.set_cons_zero, List.set_cons_succ, i64_w, i32_w]
                          rfl
                        refine pure_ (i := 1) (N := some 30) (v := ?_) (a' := ?_) #[true, true, false, false, false, false, false] rfl rfl (by kernel_rfl) (fun _ _ _ h => h) (Or.inl ⟨by rfl, ?_⟩) ?_ ?_
                        rotate_left
                        · intro w'
                          go_simp
                          with_reducible rfl
                        rotate_left
                        · simp only [Act.put, List.setIfInBounds_toArray, List.set_cons_zero, List.set_cons_succ, i64_w, i32_w]
                          rfl
                        refine pure_ (i := 3) (N := some 32) (v := ?_) (a' := ?_) #[true, true, false, true, false, false, false] rfl rfl (by kernel_rfl) (fun _ _ _ h => h) (Or.inl ⟨by rfl, ?_⟩) ?_ ?_
                        rotate_left
                        · intro w'
                          go_simp
                          with_reducible rfl
                        rotate_left
                        · simp only [Act.put, List.setIfInBounds_toArray, List.set_cons_zero, List.set_cons_succ, i64_w, i32_w]
                          rfl
                        refine pure_ (i := 4) (N := some 33) (v := ?_) (a' := ?_) #[true, true, false, true, true, false, false] rfl rfl (by kernel_rfl) (fun _ _ _ h => h) (Or.inl ⟨by rfl, ?_⟩) ?_ ?_
                        rotate_left
                        · intro w'
                          go_simp
                          with_reducible rfl
                        rotate_left
                        · simp only [Act.put, List.setIfInBounds_toArray, List.set_cons_zero, List.set_cons_succ, i64_w, i32_w]
                          rfl
                        refine take_ (i := 2) (N := some 31) (v := ?_) (a' := ?_) #[true, true, true, true, true, false, false] rfl rfl (by kernel_rfl) (fun _ _ _ h => h) (Or.inl ⟨by rfl, ?_⟩) hHeld ?_ ?_
                        rotate_left
                        · rintro w' ⟨s0, s1, s2, s3, s4, s5, s6⟩
                          go_simp
                          with_reducible rfl
                        rotate_left
                        · simp only [Act.put, List.setIfInBounds_toArray, List.set_cons_zero, List.set_cons_succ, i64_w, i32_w]
                          rfl
                        refine take_ (i := 5) (N := some 34) (v := ?_) (a' := ?_) #[true, true, true, true, true, true, false] rfl rfl (by kernel_rfl) (fun _ _ _ h => h) (Or.inl ⟨by rfl, ?_⟩) hHeld ?_ ?_
                        rotate_left
                        · rintro w' ⟨s0, s1, s2, s3, s4, s5, s6⟩
                          go_simp
                          with_reducible rfl
                        rotate_left
                        · simp only [Act.put, List.setIfInBounds_toArray, List.set_cons_zero, List.set_cons_succ, i64_w, i32_w]
                          rfl
                        refine pure_ (i := 6) (N := some 35) (v := ?_) (a' := ?_) #[true, true, true, true, true, true, true] rfl rfl (by kernel_rfl) (fun _ _ _ h => h) (Or.inl ⟨by rfl, ?_⟩) ?_ ?_
                        rotate_left
                        · intro w'
                          go_simp
                          with_reducible rfl
                        rotate_left
                        · simp only [Act.put, List.setIfInBounds_toArray, List.set_cons_zero, List.set_cons_succ, i64_w, i32_w]
                          rfl
                        refine done_ (by kernel_rfl) ?_
                        try go_wp2
                        go_roundg k2
                        case measure => have := HK1.out; have := HK2.out; omega
                        case rel => exact ⟨(wrap64 (x8_2 + 1)), (by first | rfl | (simp; done) | (simp [*]; done) | (simp [*]; unfold wrap64; omega)), H', ⟨by have := HK1.out; have := HK2.out; omega⟩, ⟨by (with_reducible repeat (first | refine blk_drewN ?_ _ | refine blk_drew ?_ | refine blk_alloc ?_ _)); exact BK409.out⟩, ⟨by (with_reducible repeat (first | refine blk_drewN ?_ _ | refine blk_drew ?_ | refine blk_alloc ?_ _)); exact BK411.out⟩, ⟨by repeat (first | (with_reducible first | exact HB.out | apply below_alloc | apply pw_below_drewN | apply below_drew1 | refine below_set ?_ GE409.out | refine below_set ?_ GE411.out) | exact HB.out)⟩⟩
                    · rw [if_neg c14] at H
                      exact absurd H (by simp)
                  · rw [if_neg c13] at H
                    exact absurd H (by simp)
                · rw [if_neg c12] at H
                  exact absurd H (by simp)
              · rw [if_neg c11] at H
                exact absurd H (by simp)
            · rw [if_neg c10] at H
              have c10b0 : decide (x8_2 < x7_1) = false := decide_eq_false c10
              clear c10
              by_cases c22 : 0 ≤ x7_1
              · rw [if_pos c22] at H
                have c22b0 : decide (0 ≤ x7_1) = true := decide_eq_true c22
                clear c22
                by_cases c23 : x7_1 < 5
                · rw [if_pos c23] at H
                  have c23b0 : decide (x7_1 < 5) = true := decide_eq_true c23
                  clear c23
                  by_cases c24 : (sel5I a0_0 a0_1 a0_2 a0_3 a0_4 x7_1) < 1
                  · rw [if_pos c24] at H
                    have c24b0 : decide ((sel5I a0_0 a0_1 a0_2 a0_3 a0_4 x7_1) < 1) = true := decide_eq_true c24
                    clear c24
                    obtain rfl := Option.some.inj H
                    have hnb25 := NB409_411.out
                    have hnc25 := NB411_409.out
                    have hcz26_0 : wr.cell? ⟨gb409, 0, none⟩ = some (.int .i64 a0_0) := (blk_cell BK409.out 0).trans rfl
                    have hcz26_1 : wr.cell? ⟨gb409, 1, none⟩ = some (.int .i64 a0_1) := (blk_cell BK409.out 1).trans rfl
                    have hcz26_2 : wr.cell? ⟨gb409, 2, none⟩ = some (.int .i64 a0_2) := (blk_cell BK409.out 2).trans rfl
                    have hcz26_3 : wr.cell? ⟨gb409, 3, none⟩ = some (.int .i64 a0_3) := (blk_cell BK409.out 3).trans rfl
                    have hcz26_4 : wr.cell? ⟨gb409, 4, none⟩ = some (.int .i64 a0_4) := (blk_cell BK409.out 4).trans rfl
                    have hfz26_0 := blk_frozen BK409.out 0
                    have hfz26_1 := blk_frozen BK409.out 1
                    have hfz26_2 := blk_frozen BK409.out 2
                    have hfz26_3 := blk_frozen BK409.out 3
                    have hfz26_4 := blk_frozen BK409.out 4
                    have pz27 : (0 ≤ (x7_1 : Int)) = True := eq_true (of_decide_eq_true (by first | (with_reducible assumption) | assumption))
                    have qz27 : ((x7_1 : Int) < 5) = True := eq_true (of_decide_eq_true (by first | (with_reducible assumption) | assumption))
                    have hcz27_v : wr.cell? ⟨gb409, (x7_1).toNat, none⟩ = some (.int .i64 (sel5I a0_0 a0_1 a0_2 a0_3 a0_4 x7_1)) := (blk_sel5I0 BK409.out rfl rfl rfl rfl rfl (of_eq_true pz27) (of_eq_true qz27))
                    go_wp2
                    go_ret
                    exact ⟨by first | rfl | (simp [errW_none, errW_some] <;> rfl) | (simp [*, errW_none, errW_some] <;> rfl), by repeat (first | (with_reducible first | exact HB.out | apply below_alloc | apply pw_below_drewN | apply below_drew1 | refine below_set ?_ GE409.out | refine below_set ?_ GE411.out) | exact HB.out)⟩
                  · rw [if_neg c24] at H
                    have c24b0 : decide ((sel5I a0_0 a0_1 a0_2 a0_3 a0_4 x7_1) < 1) = false := decide_eq_false c24
                    clear c24
                    have H' := Aside0.mk H
                    clear H
                    have hnb28 := NB409_411.out
                    have hnc28 := NB411_409.out
                    have hcz29_0 : wr.cell? ⟨gb409, 0, none⟩ = some (.int .i64 a0_0) := (blk_cell BK409.out 0).trans rfl
                    have hcz29_1 : wr.cell? ⟨gb409, 1, none⟩ = some (.int .i64 a0_1) := (blk_cell BK409.out 1).trans rfl
                    have hcz29_2 : wr.cell? ⟨gb409, 2, none⟩ = some (.int .i64 a0_2) := (blk_cell BK409.out 2).trans rfl
                    have hcz29_3 : wr.cell? ⟨gb409, 3, none⟩ = some (.int .i64 a0_3) := (blk_cell BK409.out 3).trans rfl
                    have hcz29_4 : wr.cell? ⟨gb409, 4, none⟩ = some (.int .i64 a0_4) := (blk_cell BK409.out 4).trans rfl
                    have hfz29_0 := blk_frozen BK409.out 0
                    have hfz29_1 := blk_frozen BK409.out 1
                    have hfz29_2 := blk_frozen BK409.out 2
                    have hfz29_3 := blk_frozen BK409.out 3
                    have hfz29_4 := blk_frozen BK409.out 4
                    have pz30 : (0 ≤ (x7_1 : Int)) = True := eq_true (of_decide_eq_true (by first | (with_reducible assumption) | assumption))
                    have qz30 : ((x7_1 : Int) < 5) = True := eq_true (of_decide_eq_true (by first | (with_reducible assumption) | assumption))
                    have hcz30_v : wr.cell? ⟨gb409, (x7_1).toNat, none⟩ = some (.int .i64 (sel5I a0_0 a0_1 a0_2 a0_3 a0_4 x7_1)) := (blk_sel5I0 BK409.out rfl rfl rfl rfl rfl (of_eq_true pz30) (of_eq_true qz30))
                    go_wp2
                    go_roundg k2
                    case measure => have := HK1.out; have := HK2.out; omega
                    case rel => exact ⟨(wrap64 (x7_1 + 1)), (by first | rfl | (simp; done) | (simp [*]; done) | (simp [*]; unfold wrap64; omega)), H', ⟨by have := HK1.out; have := HK2.out; omega⟩, ⟨by (with_reducible repeat (first | refine blk_drewN ?_ _ | refine blk_drew ?_ | refine blk_alloc ?_ _)); exact BK409.out⟩, ⟨by (with_reducible repeat (first | refine blk_drewN ?_ _ | refine blk_drew ?_ | refine blk_alloc ?_ _)); exact BK411.out⟩, ⟨by repeat (first | (with_reducible first | exact HB.out | apply below_alloc | apply pw_below_drewN | apply below_drew1 | refine below_set ?_ GE409.out | refine below_set ?_ GE411.out) | exact HB.out)⟩⟩
                · rw [if_neg c23] at H
                  exact absurd H (by simp)
              · rw [if_neg c22] at H
                exact absurd H (by simp)
      · rw [if_neg c9] at H
        have c9b0 : decide (x7_1 < 5) = false := decide_eq_false c9
        clear c9
        have HC31 := Aside0.mk H
        clear H
        go_upto_region 13 with (fail)
        go_cut [51] (fun v51 wc => ∃ (kq : Nat) (x51_30 : Bool), v51 = .bool x51_30 ∧ Aside0 (drydocklaw16_LinkFull.j2 kq a1 t410 x51_30 a0_0 a0_1 a0_2 a0_3 a0_4 a1 = some r) ∧ Aside0 (kq ≤ k1) ∧ Aside0 (wc.heap[gb409]? = some (.cells #[.int .i64 a0_0, .int .i64 a0_1, .int .i64 a0_2, .int .i64 a0_3, .int .i64 a0_4] 41 (0, 0))) ∧ Aside0 (wc.heap[gb411]? = some (.cells #[.int .i64 a1, (.slice none 0 0)] 24 (0, 0))) ∧ Aside0 (Below w.heap.size w wc))
        case first =>
          have H := HC31.out
          clear HC31
          by_cases c32 : t410 = true
          · subst c32
            have H1 : (if a1 < 0 then (drydocklaw16_LinkFull.j2 k1 a1 true true a0_0 a0_1 a0_2 a0_3 a0_4 a1) else (drydocklaw16_LinkFull.j2 k1 a1 true (decide (a1 > 1000000)) a0_0 a0_1 a0_2 a0_3 a0_4 a1)) = some r := by rw [if_pos rfl] at H; exact H
            clear H
            have H := H1
            clear H1
            by_cases c33 : a1 < 0
            · rw [if_pos c33] at H
              have c33b0 : decide (a1 < 0) = true := decide_eq_true c33
              clear c33
              (first | rw [c33b0] | (simp only [i64_w, i32_w]; rw [c33b0]) | skip)
              have H' := Aside0.mk H
              clear H
              go_wp2
              go_meet
              case rel => exact ⟨_, (true), (by first | rfl | (simp; done) | (simp [*]; done) | (simp [*]; unfold wrap64; omega)), H', ⟨by have := HK1.out; first | omega | exact Nat.le_refl _⟩, ⟨by (with_reducible repeat (first | refine blk_drewN ?_ _ | refine blk_drew ?_ | refine blk_alloc ?_ _)); exact BK409.out⟩, ⟨by (with_reducible repeat (first | refine blk_drewN ?_ _ | refine blk_drew ?_ | refine blk_alloc ?_ _)); exact BK411.out⟩, ⟨by repeat (first | (with_reducible first | exact HB.out | apply below_alloc | apply pw_below_drewN | apply below_drew1 | refine below_set ?_ GE409.out | refine below_set ?_ GE411.out) | exact HB.out)⟩⟩
            · rw [if_neg c33] at H
              have c33b0 : decide (a1 < 0) = false := decide_eq_false c33
              clear c33
              (first | rw [c33b0] | (simp only [i64_w, i32_w]; rw [c33b0]) | skip)
              have H' := Aside0.mk H
              clear H
              go_wp2
              go_meet
              case rel => exact ⟨_, (decide (a1 > 1000000)), (by first | rfl | (simp; done) | (simp [*]; done) | (simp [*]; unfold wrap64; omega)), H', ⟨by have := HK1.out; first | omega | exact Nat.le_refl _⟩, ⟨by (with_reducible repeat (first | refine blk_drewN ?_ _ | refine blk_drew ?_ | refine blk_alloc ?_ _)); exact BK409.out⟩, ⟨by (with_reducible repeat (first | refine blk_drewN ?_ _ | refine blk_drew ?_ | refine blk_alloc ?_ _)); exact BK411.out⟩, ⟨by repeat (first | (with_reducible first | exact HB.out | apply below_alloc | apply pw_below_drewN | apply below_drew1 | refine below_set ?_ GE409.out | refine below_set ?_ GE411.out) | exact HB.out)⟩⟩
          · replace c32 := Bool.eq_false_iff.mpr c32
            subst c32
            have H1 : (drydocklaw16_LinkFull.j2 k1 a1 false true a0_0 a0_1 a0_2 a0_3 a0_4 a1) = some r := by rw [if_neg (show ¬ (false = true) by decide)] at H; exact H
            clear H
            have H := H1
            clear H1
            have H' := Aside0.mk H
            clear H
            go_wp2
            go_meet
            case rel => exact ⟨_, (true), (by first | rfl | (simp; done) | (simp [*]; done) | (simp [*]; unfold wrap64; omega)), H', ⟨by have := HK1.out; first | omega | exact Nat.le_refl _⟩, ⟨by (with_reducible repeat (first | refine blk_drewN ?_ _ | refine blk_drew ?_ | refine blk_alloc ?_ _)); exact BK409.out⟩, ⟨by (with_reducible repeat (first | refine blk_drewN ?_ _ | refine blk_drew ?_ | refine blk_alloc ?_ _)); exact BK411.out⟩, ⟨by repeat (first | (with_reducible first | exact HB.out | apply below_alloc | apply pw_below_drewN | apply below_drew1 | refine below_set ?_ GE409.out | refine below_set ?_ GE411.out) | exact HB.out)⟩⟩
        case rest =>
          clear HC31
          try clear c1
          try clear c2
          try clear p2
          try clear c3
          try clear p6
          try clear c7
          try clear c9
          try clear c9b0
          try clear c10
          try clear c10b0
          try clear c11
          try clear c11b0
          try clear c12
          try clear c12b0
          try clear c13
          try clear c13b0
          try clear c14
          try clear c14b0
          try clear c15
          try clear c15b0
          try clear c15b1
          try clear c22
          try clear c22b0
          try clear c23
          try clear c23b0
          try clear c24
          try clear c24b0
          try clear c25
          try clear c28
          try clear c32
          try clear c33
          try clear c33b0
          try clear hcz26_0
          try clear hcz26_1
          try clear hcz26_2
          try clear hcz26_3
          try clear hcz26_4
          try clear hcz29_0
          try clear hcz29_1
          try clear hcz29_2
          try clear hcz29_3
          try clear hcz29_4
          try clear hcz8_0
          try clear hcz8_1
          try clear hfz26_0
          try clear hfz26_1
          try clear hfz26_2
          try clear hfz26_3
          try clear hfz26_4
          try clear hfz29_0
          try clear hfz29_1
          try clear hfz29_2
          try clear hfz29_3
          try clear hfz29_4
          try clear hfz8_0
          try clear hfz8_1
          try clear p2
          try clear p6
          obtain ⟨kq, x51_30, rfl, HA, HJ30, BK409, BK411, HB⟩ := hcut
          cases kq with
          | zero => exact absurd HA.out (by simp [drydocklaw16_LinkFull.j2])
          | succ kj30 =>
            have H := HA.out
            clear HA
            simp only [drydocklaw16_LinkFull.j2] at H
            by_cases c34 : x51_30 = true
            · subst c34
              have H1 : (some t410) = some r := by rw [if_pos rfl] at H; exact H
              clear H
              have H := H1
              clear H1
              obtain rfl := Option.some.inj H
              go_wp2
              go_ret
              exact ⟨by first | rfl | (simp [errW_none, errW_some] <;> rfl) | (simp [*, errW_none, errW_some] <;> rfl), by repeat (first | (with_reducible first | exact HB.out | apply below_alloc | apply pw_below_drewN | apply below_drew1 | refine below_set ?_ GE409.out | refine below_set ?_ GE411.out) | exact HB.out)⟩
            · replace c34 := Bool.eq_false_iff.mpr c34
              subst c34
              have H1 : (drydocklaw16_LinkFull.l2 kj30 a1 0 a0_0 a0_1 a0_2 a0_3 a0_4 a1 ([] : List (S26))) = some r := by rw [if_neg (show ¬ (false = true) by decide)] at H; exact H
              clear H
              have H := H1
              clear H1
              have H' := Aside0.mk H
              clear H
              go_wp2
              go_loopg [9] kj30 (fun kq v9 w' => ∃ (x9_3 : Int) (x412000_3 : Int) (x412001_3 : List (S26)) (u412001 : Value), v9 = .int .i64 x9_3 ∧ Aside0 (drydocklaw16_LinkFull.l2 kq a1 x9_3 a0_0 a0_1 a0_2 a0_3 a0_4 x412000_3 x412001_3 = some r) ∧ Aside0 (kq ≤ kj30) ∧ Aside0 (Kd.R k26 26 w' w.heap.size (fun _ => True) u412001 x412001_3) ∧ Aside0 (w'.heap[gb409]? = some (.cells #[.int .i64 a0_0, .int .i64 a0_1, .int .i64 a0_2, .int .i64 a0_3, .int .i64 a0_4] 41 (0, 0))) ∧ Aside0 (w'.heap[gb411]? = some (.cells #[.int .i64 x412000_3, u412001] 24 (0, 0))) ∧ Aside0 (Below w.heap.size w w'))
              case atStart => exact ⟨(0), (a1), (([] : List (S26))), (.slice none 0 0), (by first | rfl | (simp; done) | (simp [*]; done) | (simp [*]; unfold wrap64; omega)), H', ⟨Nat.le_refl _⟩, ⟨by first | exact Kd.R_nil _ _ _ _ _ | exact Kd.N_nil _ _ _ _ _ | exact Kd.V_nil _ _ _ _ _ | exact Kd.Q_nil _ _ _ _ _ | exact Kd.S_nil _ _ _ _ _⟩, ⟨by (with_reducible repeat (first | refine blk_drewN ?_ _ | refine blk_drew ?_ | refine blk_alloc ?_ _)); exact BK409.out⟩, ⟨by (with_reducible repeat (first | refine blk_drewN ?_ _ | refine blk_drew ?_ | refine blk_alloc ?_ _)); exact BK411.out⟩, ⟨by repeat (first | (with_reducible first | exact HB.out | apply below_alloc | apply pw_below_drewN | apply below_drew1 | refine below_set ?_ GE409.out | refine below_set ?_ GE411.out) | exact HB.out)⟩⟩
              case round =>
                clear H'
                try clear c1
                try clear c2
                try clear p2
                try clear c3
                try clear p6
                try clear c7
                try clear c9
                try clear c9b0
                try clear c10
                try clear c10b0
                try clear c11
                try clear c11b0
                try clear c12
                try clear c12b0
                try clear c13
                try clear c13b0
                try clear c14
                try clear c14b0
                try clear c15
                try clear c15b0
                try clear c15b1
                try clear c22
                try clear c22b0
                try clear c23
                try clear c23b0
                try clear c24
                try clear c24b0
                try clear c25
                try clear c28
                try clear c32
                try clear c33
                try clear c33b0
                try clear c34
                try clear hcz26_0
                try clear hcz26_1
                try clear hcz26_2
                try clear hcz26_3
                try clear hcz26_4
                try clear hcz29_0
                try clear hcz29_1
                try clear hcz29_2
                try clear hcz29_3
                try clear hcz29_4
                try clear hcz8_0
                try clear hcz8_1
                try clear hfz26_0
                try clear hfz26_1
                try clear hfz26_2
                try clear hfz26_3
                try clear hfz26_4
                try clear hfz29_0
                try clear hfz29_1
                try clear hfz29_2
                try clear hfz29_3
                try clear hfz29_4
                try clear hfz8_0
                try clear hfz8_1
                try clear p2
                try clear p6
                obtain ⟨x9_3, x412000_3, x412001_3, u412001, rfl, HA, HK3, HO_412001, BK409, BK411, HB⟩ := hrel
                cases gk with
                | zero => exact absurd HA.out (by simp [drydocklaw16_LinkFull.l2])
                | succ k3 =>
                  have H := HA.out
                  clear HA
                  simp only [drydocklaw16_LinkFull.l2] at H
                  by_cases c35 : x9_3 < 4
                  · rw [if_pos c35] at H
                    have c35b0 : decide (x9_3 < 4) = true := decide_eq_true c35
                    clear c35
                    by_cases c36 : 0 ≤ x9_3
                    · rw [if_pos c36] at H
                      have c36b0 : decide (0 ≤ x9_3) = true := decide_eq_true c36
                      clear c36
                      by_cases c37 : x9_3 < 5
                      · rw [if_pos c37] at H
                        have c37b0 : decide (x9_3 < 5) = true := decide_eq_true c37
                        clear c37
                        replace H := Option.bind_eq_some_iff.mp H
                        obtain ⟨⟨t412, t413, t416⟩, A380, H⟩ := H
                        replace H : (if t416 = 0 then (if (t413.length : Int) = (wrap64 (x9_3 + 1)) then (if x9_3 < (t413.length : Int) then (if ((rd_T26 t413 x9_3).f0) = (sel5I a0_0 a0_1 a0_2 a0_3 a0_4 x9_3) then (drydocklaw16_LinkFull.l2 k3 a1 (wrap64 (x9_3 + 1)) a0_0 a0_1 a0_2 a0_3 a0_4 t412 t413) else (none)) else (none)) else (none)) else (none)) = some r := H
                        have A38 := Aside0.mk A380
                        clear A380
                        by_cases c39 : t416 = 0
                        · rw [if_pos c39] at H
                          have c39b0 : (t416 == 0) = true := beq_iff_eq.mpr c39
                          have c39b1 : (t416 != 0) = false := bne_eq_false_iff_eq.mpr c39
                          clear c39
                          by_cases c40 : (t413.length : Int) = (wrap64 (x9_3 + 1))
                          · rw [if_pos c40] at H
                            have c40b0 : ((t413.length : Int) == (wrap64 (x9_3 + 1))) = true := beq_iff_eq.mpr c40
                            have c40b1 : ((t413.length : Int) != (wrap64 (x9_3 + 1))) = false := bne_eq_false_iff_eq.mpr c40
                            clear c40
                            by_cases c41 : x9_3 < (t413.length : Int)
                            · rw [if_pos c41] at H
                              have c41b0 : decide (x9_3 < (t413.length : Int)) = true := decide_eq_true c41
                              clear c41
                              by_cases c42 : ((rd_T26 t413 x9_3).f0) = (sel5I a0_0 a0_1 a0_2 a0_3 a0_4 x9_3)
                              · rw [if_pos c42] at H
                                have c42b0 : (((rd_T26 t413 x9_3).f0) == (sel5I a0_0 a0_1 a0_2 a0_3 a0_4 x9_3)) = true := beq_iff_eq.mpr c42
                                have c42b1 : (((rd_T26 t413 x9_3).f0) != (sel5I a0_0 a0_1 a0_2 a0_3 a0_4 x9_3)) = false := bne_eq_false_iff_eq.mpr c42
                                clear c42
                                have H' := Aside0.mk H
                                clear H
                                obtain ⟨Ao43, co43, eo43⟩ := Kd.R_slice HO_412001.out
                                subst eo43
                                try go_wp2
                                have n0_ := Aside0.mk (Kd.R_drew HO_412001.out)
                                have n1_ := Aside0.mk (blk_drew BK409.out)
                                have n2_ := Aside0.mk (blk_drew BK411.out)
                                have n3_ := Aside0.mk (below_drew1 HB.out)
                                clear HO_412001
                                clear BK409
                                clear BK411
                                clear HB
                                have HO_412001 := n0_
                                have BK409 := n1_
                                have BK411 := n2_
                                have HB := n3_
                                clear n0_ n1_ n2_ n3_
                                have pz45 : (0 ≤ (x9_3 : Int)) = True := eq_true (of_decide_eq_true (by first | (with_reducible assumption) | assumption))
                                have qz45 : ((x9_3 : Int) < 5) = True := eq_true (of_decide_eq_true (by first | (with_reducible assumption) | assumption))
                                refine start_ (n := 15) (S := fun w' => w'.cell? ⟨gb411, 0, none⟩ = some (.int .i64 x412000_3) ∧ w'.cell? ⟨gb411, 1, none⟩ = some (.slice Ao43 x412001_3.length co43) ∧ w'.cell? ⟨gb409, 0, none⟩ = some (.int .i64 a0_0) ∧ w'.cell? ⟨gb409, 1, none⟩ = some (.int .i64 a0_1) ∧ w'.cell? ⟨gb409, 2, none⟩ = some (.int .i64 a0_2) ∧ w'.cell? ⟨gb409, 3, none⟩ = some (.int .i64 a0_3) ∧ w'.cell? ⟨gb409, 4, none⟩ = some (.int .i64 a0_4) ∧ w'.cell? ⟨gb409, (x9_3).toNat, none⟩ = some (.int .i64 (sel5I a0_0 a0_1 a0_2 a0_3 a0_4 x9_3))) (ds := []) #[false, false, false, false, false, false, false, false, false, false, false, false, false, false, false] (by kernel_rfl) rfl rfl ⟨(blk_cell BK411.out 0).trans rfl, (blk_cell BK411.out 1).trans rfl, (blk_cell BK409.out 0).trans rfl, (blk_cell BK409.out 1).trans rfl, (blk_cell BK409.out 2).trans rfl, (blk_cell BK409.out 3).trans rfl, (blk_cell BK409.out 4).trans rfl, (blk_sel5I0 BK409.out rfl rfl rfl rfl rfl (of_eq_true pz45) (of_eq_true qz45))⟩ (fun hHeld => ?_); refine with_tabW drydocklaw16_LinkFull.tab18 drydocklaw16_LinkFull.bits18 (fun HT_ HW_ => ?_)
                                generalize wr.drew = w44 at HO_412001 BK409 BK411 HB hHeld ⊢
                                refine pure_ (i := 1) (N := some 59) (v := ?_) (a' := ?_) #[false, true, false, false, false, false, false, false, false, false, false, false, false, false, false] rfl rfl (any_of HT_.out (by kernel_rfl)) (fun _ _ _ h => h) (Or.inl ⟨by rfl, ?_⟩) ?_ ?_
                                rotate_left
                                · intro w'
                                  go_simp
                                  with_reducible rfl
                                rotate_left
                                · simp only [Act.put, List.setIfInBounds_toArray, List.set_cons_zero, List.set_cons_succ, i64_w, i32_w]
                                  rfl
                                refine pure_ (i := 2) (N := some 60) (v := ?_) (a' := ?_) #[false, true, true, false, false, false, false, false, false, false, false, false, false, false, false] rfl rfl (any_of HT_.out (by kernel_rfl)) (fun _ _ _ h => h) (Or.inl ⟨by rfl, ?_⟩) ?_ ?_
                                rotate_left
                                · intro w'
                                  go_simp
                                  with_reducible rfl
                                rotate_left
                                · simp only [Act.put, List.setIfInBounds_toArray, List.set_cons_zero, List.set_cons_succ, i64_w, i32_w]
                                  rfl
                                refine pure_ (i := 5) (N := some 63) (v := ?_) (a' := ?_) #[false, true, true, false, false, true, false, false, false, false, false, false, false, false, false] rfl rfl (any_of HT_.out (by kernel_rfl)) (fun _ _ _ h => h) (Or.inl ⟨by rfl, ?_⟩) ?_ ?_
                                rotate_left
                                · intro w'
                                  go_simp
                                  with_reducible rfl
                                rotate_left
                                · simp only [Act.put, List.setIfInBounds_toArray, List.set_cons_zero, List.set_cons_succ, i64_w, i32_w]
                                  rfl
                                refine pure_ (i := 6) (N := some 64) (v := ?_) (a' := ?_) #[false, true, true, false, false, true, true, false, false, false, false, false, false, false, false] rfl rfl (any_of HT_.out (by kernel_rfl)) (fun _ _ _ h => h) (Or.inl ⟨by rfl, ?_⟩) ?_ ?_
                                rotate_left
                                · intro w'
                                  go_simp
                                  with_reducible rfl
                                rotate_left
                                · simp only [Act.put, List.setIfInBounds_toArray, List.set_cons_zero, List.set_cons_succ, i64_w, i32_w]
                                  rfl
                                refine pure_ (i := 7) (N := some 65) (v := ?_) (a' := ?_) #[false, true, true, false, false, true, true, true, false, false, false, false, false, false, false] rfl rfl (any_of HT_.out (by kernel_rfl)) (fun _ _ _ h => h) (Or.inl ⟨by rfl, ?_⟩) ?_ ?_
                                rotate_left
                                · intro w'
                                  go_simp
                                  with_reducible rfl
                                rotate_left
                                · simp only [Act.put, List.setIfInBounds_toArray, List.set_cons_zero, List.set_cons_succ, i64_w, i32_w]
                                  rfl
                                refine take_ (i := 0) (N := some 58) (v := ?_) (a' := ?_) #[true, true, true, false, false, true, true, true, false, false, false, false, false, false, false] rfl rfl (take_ofW HT_.out HW_.out (by kernel_rfl)) (fun _ _ _ h => h) (Or.inl ⟨by rfl, ?_⟩) hHeld ?_ ?_
                                rotate_left
                                · rintro w' ⟨s0, s1, s2, s3, s4, s5, s6, s7⟩
                                  go_simp
                                  with_reducible rfl
                                rotate_left
                                · simp only [Act.put, List.setIfInBounds_toArray, List.set_cons_zero, List.set_cons_succ, i64_w, i32_w]
                                  rfl
                                refine take_ (i := 3) (N := some 61) (v := ?_) (a' := ?_) #[true, true, true, true, false, true, true, true, false, false, false, false, false, false, false] rfl rfl (take_ofW HT_.out HW_.out (by kernel_rfl)) (fun _ _ _ h => h) (Or.inl ⟨by rfl, ?_⟩) hHeld ?_ ?_
                                rotate_left
                                · rintro w' ⟨s0, s1, s2, s3, s4, s5, s6, s7⟩
                                  go_simp
                                  with_reducible rfl
                                rotate_left
                                · simp only [Act.put, List.setIfInBounds_toArray, List.set_cons_zero, List.set_cons_succ, i64_w, i32_w]
                                  rfl
                                refine pure_ (i := 4) (N := some 62) (v := ?_) (a' := ?_) #[true, true, true, true, true, true, true, true, false, false, false, false, false, false, false] rfl rfl (any_of HT_.out (by kernel_rfl)) (fun _ _ _ h => h) (Or.inl ⟨by rfl, ?_⟩) ?_ ?_
                                rotate_left
                                · intro w'
                                  go_simp
                                  with_reducible rfl
                                rotate_left
                                · simp only [Act.put, List.setIfInBounds_toArray, List.set_cons_zero, List.set_cons_succ, i64_w, i32_w]
                                  rfl
                                refine join_ (σ := Value × Nat) 2 #[true, true, true, true, true, true, true, true, true, true, true, true, true, false, false] (fun s_ => [(66, .tuple #[.agg #[.int .i64 t412, s_.1], .int .i64 t416]), (10, .pointer (some ⟨s_.2, 0, none⟩)), (57, .tuple #[.agg #[.int .i64 t412, s_.1], .int .i64 t416]), (67, .agg #[.int .i64 t412, s_.1]), (68, .int .i64 t416)]) (fun s_ w' => (w'.cell? ⟨gb411, 0, none⟩ = some (.int .i64 x412000_3) ∧ w'.cell? ⟨gb411, 1, none⟩ = some (.slice Ao43 x412001_3.length co43) ∧ w'.cell? ⟨gb409, 0, none⟩ = some (.int .i64 a0_0) ∧ w'.cell? ⟨gb409, 1, none⟩ = some (.int .i64 a0_1) ∧ w'.cell? ⟨gb409, 2, none⟩ = some (.int .i64 a0_2) ∧ w'.cell? ⟨gb409, 3, none⟩ = some (.int .i64 a0_3) ∧ w'.cell? ⟨gb409, 4, none⟩ = some (.int .i64 a0_4) ∧ w'.cell? ⟨gb409, (x9_3).toNat, none⟩ = some (.int .i64 (sel5I a0_0 a0_1 a0_2 a0_3 a0_4 x9_3))) ∧ (Kd.R k26 26 w' w.heap.size (fun k_ => some k_ ≠ (.slice Ao43 x412001_3.length co43 : Value).ownBlock) s_.1 t413) ∧ (Kd.R k26 26 w' w.heap.size (fun k_ => some k_ ≠ (s_.1 : Value).ownBlock) (.slice Ao43 x412001_3.length co43) x412001_3) ∧ (w'.heap[gb409]? = some (.cells #[.int .i64 a0_0, .int .i64 a0_1, .int .i64 a0_2, .int .i64 a0_3, .int .i64 a0_4] 41 (0, 0))) ∧ (w'.heap[gb411]? = some (.cells #[.int .i64 x412000_3, .slice Ao43 x412001_3.length co43] 24 (0, 0))) ∧ (w'.heap[s_.2]? = some (.cells #[.int .i64 0, .slice none 0 0] 24 (0, 0))) ∧ (w.heap.size ≤ s_.2) ∧ (w.heap.size ≤ s_.2) ∧ (gb409 ≠ s_.2) ∧ (s_.2 ≠ gb409) ∧ (gb411 ≠ s_.2) ∧ (s_.2 ≠ gb411) ∧ (Below w.heap.size w w')) ?_ ?_
                                rotate_left
                                · intro hCont
                                  refine two_ (i := 8) (j := 12) (Ni := some 66) (Nj := some 10) #[true, true, true, true, true, true, true, true, true, false, false, false, false, false, false] #[true, true, true, true, true, true, true, true, false, false, false, false, true, false, false] rfl rfl rfl rfl (two_of HT_.out (by kernel_rfl)) (by decide) (by decide) (fun K hK => ?_) (fun K hK => ?_)
                                  · skip
                                    refine goes_ Try.func12 (by kernel_rfl) rfl #[.agg #[.int .i64 x412000_3, .slice Ao43 x412001_3.length co43], .agg #[.int .i64 (sel5I a0_0 a0_1 a0_2 a0_3 a0_4 x9_3), .int .i64 0], .int .i64 1, .int .i64 0, .int .i64 (wrap64 (a1 + x9_3))] (by rfl) rfl rfl (by (try simp only [List.map_toArray, List.map_cons, List.map_nil]); first | done | rfl | (simp only [List.length_drop, List.length_take]; rfl)) ?_
                                    with_reducible refine (link_Attach.calls k3 x412000_3 _ _ x412001_3 (sel5I a0_0 a0_1 a0_2 a0_3 a0_4 x9_3) 0 1 0 (wrap64 (a1 + x9_3)) t412 t413 t416 _ ?side1 ?side2 A38.out).mono ?_
                                    (case side1 => repeat (first | exact (Kd.R_reads' HO_412001.out).2.2 | (with_reducible refine Kd.C_alloc ?_ _) | (with_reducible refine Kd.C_drewN ?_ _) | (with_reducible refine Kd.C_drew ?_)))
                                    (case side2 => exact (Kd.R_reads' HO_412001.out).2.1)
                                    rintro e w46 ⟨v414, rfl, ho0, hb⟩
                                    refine ⟨_, rfl, ?_⟩
                                    have n0_ := Aside0.mk (Kd.R_elder' (by (with_reducible repeat (first | apply Kd.R_alloc | apply Kd.R_drewN | apply Kd.R_drew)); exact HO_412001.out) (Kd.R_base ho0) hb)
                                    have n1_ := Aside0.mk (Kd.R_lower (Kd.R_new' ho0 (Kd.R_lt (by (with_reducible repeat (first | apply Kd.R_alloc | apply Kd.R_drewN | apply Kd.R_drew)); exact HO_412001.out))) (below_size (by repeat (first | (with_reducible first | exact HB.out | apply below_alloc | apply pw_below_drewN | apply below_drew1 | refine below_set ?_ GE409.out | refine below_set ?_ GE411.out) | exact HB.out))))
                                    have n2_ := Aside0.mk (blk_below (g := gb409) (o := .cells #[.int .i64 a0_0, .int .i64 a0_1, .int .i64 a0_2, .int .i64 a0_3, .int .i64 a0_4] 41 (0, 0)) (by (with_reducible repeat (first | refine blk_drewN ?_ _ | refine blk_drew ?_ | refine blk_alloc ?_ _)); exact BK409.out) hb)
                                    have n3_ := Aside0.mk (blk_below (g := gb411) (o := .cells #[.int .i64 x412000_3, .slice Ao43 x412001_3.length co43] 24 (0, 0)) (by (with_reducible repeat (first | refine blk_drewN ?_ _ | refine blk_drew ?_ | refine blk_alloc ?_ _)); exact BK411.out) hb)
                                    have n4_ := Aside0.mk (below_step (by repeat (first | (with_reducible first | exact HB.out | apply below_alloc | apply pw_below_drewN | apply below_drew1 | refine below_set ?_ GE409.out | refine below_set ?_ GE411.out) | exact HB.out)) hb)
                                    clear HO_412001
                                    clear BK409
                                    clear BK411
                                    clear HB
                                    have HO_412001 := n0_
                                    have HO415 := n1_
                                    have BK409 := n2_
                                    have BK411 := n3_
                                    have HB := n4_
                                    clear n0_ n1_ n2_ n3_ n4_
                                    (try clear hb)
                                    (try clear hb2)
                                    (try clear hk)
                                    (try clear hi)
                                    (try clear ho0)
                                    refine hK.out _ _ ⟨(blk_cell BK411.out 0).trans rfl, (blk_cell BK411.out 1).trans rfl, (blk_cell BK409.out 0).trans rfl, (blk_cell BK409.out 1).trans rfl, (blk_cell BK409.out 2).trans rfl, (blk_cell BK409.out 3).trans rfl, (blk_cell BK409.out 4).trans rfl, (blk_sel5I0 BK409.out rfl rfl rfl rfl rfl (of_eq_true pz45) (of_eq_true qz45))⟩ (fun hHeld => ?_)
                                    clear hK K
                                    refine norm_ (a' := ?_) ?_ ?_
                                    rotate_left
                                    · show Act.put _ (some 66) _ = _
                                      simp only [Act.put, List.setIfInBounds_toArray, List.set_cons_zero, List.set_cons_succ, i64_w, i32_w]
                                      rfl
                                    refine pure_ (i := 9) (N := some 57) (v := ?_) (a' := ?_) #[true, true, true, true, true, true, true, true, true, true, false, false, false, false, false] rfl rfl (any_of HT_.out (by kernel_rfl)) (fun _ _ _ h => h) (Or.inl ⟨by rfl, ?_⟩) ?_ ?_
                                    rotate_left
                                    · intro w'
                                      go_simp
                                      with_reducible rfl
                                    rotate_left
                                    · simp only [Act.put, List.setIfInBounds_toArray, List.set_cons_zero, List.set_cons_succ, i64_w, i32_w]
                                      rfl
                                    refine pure_ (i := 10) (N := some 67) (v := ?_) (a' := ?_) #[true, true, true, true, true, true, true, true, true, true, true, false, false, false, false] rfl rfl (any_of HT_.out (by kernel_rfl)) (fun _ _ _ h => h) (Or.inl ⟨by rfl, ?_⟩) ?_ ?_
                                    rotate_left
                                    · intro w'
                                      go_simp
                                      with_reducible rfl
                                    rotate_left
                                    · simp only [Act.put, List.setIfInBounds_toArray, List.set_cons_zero, List.set_cons_succ, i64_w, i32_w]
                                      rfl
                                    refine pure_ (i := 11) (N := some 68) (v := ?_) (a' := ?_) #[true, true, true, true, true, true, true, true, true, true, true, true, false, false, false] rfl rfl (any_of HT_.out (by kernel_rfl)) (fun _ _ _ h => h) (Or.inl ⟨by rfl, ?_⟩) ?_ ?_
                                    rotate_left
                                    · intro w'
                                      go_simp
                                      with_reducible rfl
                                    rotate_left
                                    · simp only [Act.put, List.setIfInBounds_toArray, List.set_cons_zero, List.set_cons_succ, i64_w, i32_w]
                                      rfl
                                    refine one_ (i := 12) (N := some 10) #[true, true, true, true, true, true, true, true, true, true, true, true, true, false, false] rfl rfl (one_of HT_.out (by kernel_rfl)) (by decide) (fun K hK => ?_)
                                    refine box_step ?hg (N := 10) ?hd (cs := #[.int .i64 0, .slice none 0 0]) (t := 24) ?hr ?_; (case hd => rfl); (case hg => rfl); (case hr => first | (go_simp; done) | (go_simp; rfl))
                                    intro gb417 hg w47 hbox hb
                                    have n0_ := Aside0.mk (Kd.R_below (by (with_reducible repeat (first | apply Kd.R_alloc | apply Kd.R_drewN | apply Kd.R_drew)); exact HO_412001.out) hb)
                                    have n1_ := Aside0.mk (Kd.R_below (by (with_reducible repeat (first | apply Kd.R_alloc | apply Kd.R_drewN | apply Kd.R_drew)); exact HO415.out) hb)
                                    have n2_ := Aside0.mk (blk_below (g := gb409) (o := .cells #[.int .i64 a0_0, .int .i64 a0_1, .int .i64 a0_2, .int .i64 a0_3, .int .i64 a0_4] 41 (0, 0)) (by (with_reducible repeat (first | refine blk_drewN ?_ _ | refine blk_drew ?_ | refine blk_alloc ?_ _)); exact BK409.out) hb)
                                    have n3_ := Aside0.mk (blk_below (g := gb411) (o := .cells #[.int .i64 x412000_3, .slice Ao43 x412001_3.length co43] 24 (0, 0)) (by (with_reducible repeat (first | refine blk_drewN ?_ _ | refine blk_drew ?_ | refine blk_alloc ?_ _)); exact BK411.out) hb)
                                    have n4_ := Aside0.mk (below_step (by repeat (first | (with_reducible first | exact HB.out | apply below_alloc | apply pw_below_drewN | apply below_drew1 | refine below_set ?_ GE409.out | refine below_set ?_ GE411.out) | exact HB.out)) hb)
                                    have n5_ := Aside0.mk (hbox)
                                    have n6_ := Aside0.mk ((by rw [hg]; exact (below_size (by repeat (first | (with_reducible first | exact HB.out | apply below_alloc | apply pw_below_drewN | apply below_drew1 | refine below_set ?_ GE409.out | refine below_set ?_ GE411.out) | exact HB.out))) : w.heap.size ≤ gb417))
                                    have n7_ := Aside0.mk ((by rw [hg]; exact (below_size (by repeat (first | (with_reducible first | exact HB.out | apply below_alloc | apply pw_below_drewN | apply below_drew1 | refine below_set ?_ GE409.out | refine below_set ?_ GE411.out) | exact HB.out))) : w.heap.size ≤ gb417))
                                    have n8_ := Aside0.mk ((by rw [hg]; exact Nat.ne_of_lt (blk_lt (g := gb409) (o := .cells #[.int .i64 a0_0, .int .i64 a0_1, .int .i64 a0_2, .int .i64 a0_3, .int .i64 a0_4] 41 (0, 0)) (by (with_reducible repeat (first | refine blk_drewN ?_ _ | refine blk_drew ?_ | refine blk_alloc ?_ _)); exact BK409.out)) : gb409 ≠ gb417))
                                    have n9_ := Aside0.mk ((by rw [hg]; exact Nat.ne_of_gt (blk_lt (g := gb409) (o := .cells #[.int .i64 a0_0, .int .i64 a0_1, .int .i64 a0_2, .int .i64 a0_3, .int .i64 a0_4] 41 (0, 0)) (by (with_reducible repeat (first | refine blk_drewN ?_ _ | refine blk_drew ?_ | refine blk_alloc ?_ _)); exact BK409.out)) : gb417 ≠ gb409))
                                    have n10_ := Aside0.mk ((by rw [hg]; exact Nat.ne_of_lt (blk_lt (g := gb411) (o := .cells #[.int .i64 x412000_3, .slice Ao43 x412001_3.length co43] 24 (0, 0)) (by (with_reducible repeat (first | refine blk_drewN ?_ _ | refine blk_drew ?_ | refine blk_alloc ?_ _)); exact BK411.out)) : gb411 ≠ gb417))
                                    have n11_ := Aside0.mk ((by rw [hg]; exact Nat.ne_of_gt (blk_lt (g := gb411) (o := .cells #[.int .i64 x412000_3, .slice Ao43 x412001_3.length co43] 24 (0, 0)) (by (with_reducible repeat (first | refine blk_drewN ?_ _ | refine blk_drew ?_ | refine blk_alloc ?_ _)); exact BK411.out)) : gb417 ≠ gb411))
                                    clear HO_412001
                                    clear HO415
                                    clear BK409
                                    clear BK411
                                    clear HB
                                    have HO_412001 := n0_
                                    have HO415 := n1_
                                    have BK409 := n2_
                                    have BK411 := n3_
                                    have HB := n4_
                                    have BK417 := n5_
                                    have GW417 := n6_
                                    have GE417 := n7_
                                    have NB409_417 := n8_
                                    have NB417_409 := n9_
                                    have NB411_417 := n10_
                                    have NB417_411 := n11_
                                    clear n0_ n1_ n2_ n3_ n4_ n5_ n6_ n7_ n8_ n9_ n10_ n11_
                                    clear hb hbox hg
                                    refine hK.out _ _ ⟨(blk_cell BK411.out 0).trans rfl, (blk_cell BK411.out 1).trans rfl, (blk_cell BK409.out 0).trans rfl, (blk_cell BK409.out 1).trans rfl, (blk_cell BK409.out 2).trans rfl, (blk_cell BK409.out 3).trans rfl, (blk_cell BK409.out 4).trans rfl, (blk_sel5I0 BK409.out rfl rfl rfl rfl rfl (of_eq_true pz45) (of_eq_true qz45))⟩ (fun hHeld => ?_)
                                    clear hK K
                                    refine norm_ (a' := ?_) ?_ ?_
                                    rotate_left
                                    · show Act.put _ (some 10) _ = _
                                      simp only [Act.put, List.setIfInBounds_toArray, List.set_cons_zero, List.set_cons_succ, i64_w, i32_w]
                                      rfl
                                    exact norm_ (by simp only [putAll, Act.put, List.setIfInBounds_toArray, List.set_cons_zero, List.set_cons_succ]) (hCont (v414, gb417) _ ⟨hHeld, (by (with_reducible repeat (first | apply Kd.R_alloc | apply Kd.R_drewN | apply Kd.R_drew)); exact Kd.R_mono HO415.out (fun _ hk => hk.2)), (by (with_reducible repeat (first | apply Kd.R_alloc | apply Kd.R_drewN | apply Kd.R_drew)); exact Kd.R_mono HO_412001.out (fun _ hk => hk.2)), (by (with_reducible repeat (first | refine blk_drewN ?_ _ | refine blk_drew ?_ | refine blk_alloc ?_ _)); exact BK409.out), (by (with_reducible repeat (first | refine blk_drewN ?_ _ | refine blk_drew ?_ | refine blk_alloc ?_ _)); exact BK411.out), (by (with_reducible repeat (first | refine blk_drewN ?_ _ | refine blk_drew ?_ | refine blk_alloc ?_ _)); exact BK417.out), GW417.out, GE417.out, NB409_417.out, NB417_409.out, NB411_417.out, NB417_411.out, (by repeat (first | (with_reducible first | exact HB.out | apply below_alloc | apply pw_below_drewN | apply below_drew1 | refine below_set ?_ GE409.out | refine below_set ?_ GE411.out | refine below_set ?_ GE417.out) | exact HB.out))⟩)
                                  · skip
                                    refine box_step ?hg (N := 10) ?hd (cs := #[.int .i64 0, .slice none 0 0]) (t := 24) ?hr ?_; (case hd => rfl); (case hg => rfl); (case hr => first | (go_simp; done) | (go_simp; rfl))
                                    intro gb417 hg w46 hbox hb
                                    have n0_ := Aside0.mk (Kd.R_below (by (with_reducible repeat (first | apply Kd.R_alloc | apply Kd.R_drewN | apply Kd.R_drew)); exact HO_412001.out) hb)
                                    have n1_ := Aside0.mk (blk_below (g := gb409) (o := .cells #[.int .i64 a0_0, .int .i64 a0_1, .int .i64 a0_2, .int .i64 a0_3, .int .i64 a0_4] 41 (0, 0)) (by (with_reducible repeat (first | refine blk_drewN ?_ _ | refine blk_drew ?_ | refine blk_alloc ?_ _)); exact BK409.out) hb)
                                    have n2_ := Aside0.mk (blk_below (g := gb411) (o := .cells #[.int .i64 x412000_3, .slice Ao43 x412001_3.length co43] 24 (0, 0)) (by (with_reducible repeat (first | refine blk_drewN ?_ _ | refine blk_drew ?_ | refine blk_alloc ?_ _)); exact BK411.out) hb)
                                    have n3_ := Aside0.mk (below_step (by repeat (first | (with_reducible first | exact HB.out | apply below_alloc | apply pw_below_drewN | apply below_drew1 | refine below_set ?_ GE409.out | refine below_set ?_ GE411.out) | exact HB.out)) hb)
                                    have n4_ := Aside0.mk (hbox)
                                    have n5_ := Aside0.mk ((by rw [hg]; exact (below_size (by repeat (first | (with_reducible first | exact HB.out | apply below_alloc | apply pw_below_drewN | apply below_drew1 | refine below_set ?_ GE409.out | refine below_set ?_ GE411.out) | exact HB.out))) : w.heap.size ≤ gb417))
                                    have n6_ := Aside0.mk ((by rw [hg]; exact (below_size (by repeat (first | (with_reducible first | exact HB.out | apply below_alloc | apply pw_below_drewN | apply below_drew1 | refine below_set ?_ GE409.out | refine below_set ?_ GE411.out) | exact HB.out))) : w.heap.size ≤ gb417))
                                    have n7_ := Aside0.mk ((by rw [hg]; exact Nat.ne_of_lt (blk_lt (g := gb409) (o := .cells #[.int .i64 a0_0, .int .i64 a0_1, .int .i64 a0_2, .int .i64 a0_3, .int .i64 a0_4] 41 (0, 0)) (by (with_reducible repeat (first | refine blk_drewN ?_ _ | refine blk_drew ?_ | refine blk_alloc ?_ _)); exact BK409.out)) : gb409 ≠ gb417))
                                    have n8_ := Aside0.mk ((by rw [hg]; exact Nat.ne_of_gt (blk_lt (g := gb409) (o := .cells #[.int .i64 a0_0, .int .i64 a0_1, .int .i64 a0_2, .int .i64 a0_3, .int .i64 a0_4] 41 (0, 0)) (by (with_reducible repeat (first | refine blk_drewN ?_ _ | refine blk_drew ?_ | refine blk_alloc ?_ _)); exact BK409.out)) : gb417 ≠ gb409))
                                    have n9_ := Aside0.mk ((by rw [hg]; exact Nat.ne_of_lt (blk_lt (g := gb411) (o := .cells #[.int .i64 x412000_3, .slice Ao43 x412001_3.length co43] 24 (0, 0)) (by (with_reducible repeat (first | refine blk_drewN ?_ _ | refine blk_drew ?_ | refine blk_alloc ?_ _)); exact BK411.out)) : gb411 ≠ gb417))
                                    have n10_ := Aside0.mk ((by rw [hg]; exact Nat.ne_of_gt (blk_lt (g := gb411) (o := .cells #[.int .i64 x412000_3, .slice Ao43 x412001_3.length co43] 24 (0, 0)) (by (with_reducible repeat (first | refine blk_drewN ?_ _ | refine blk_drew ?_ | refine blk_alloc ?_ _)); exact BK411.out)) : gb417 ≠ gb411))
                                    clear HO_412001
                                    clear BK409
                                    clear BK411
                                    clear HB
                                    have HO_412001 := n0_
                                    have BK409 := n1_
                                    have BK411 := n2_
                                    have HB := n3_
                                    have BK417 := n4_
                                    have GW417 := n5_
                                    have GE417 := n6_
                                    have NB409_417 := n7_
                                    have NB417_409 := n8_
                                    have NB411_417 := n9_
                                    have NB417_411 := n10_
                                    clear n0_ n1_ n2_ n3_ n4_ n5_ n6_ n7_ n8_ n9_ n10_
                                    clear hb hbox hg
                                    refine hK.out _ _ ⟨(blk_cell BK411.out 0).trans rfl, (blk_cell BK411.out 1).trans rfl, (blk_cell BK409.out 0).trans rfl, (blk_cell BK409.out 1).trans rfl, (blk_cell BK409.out 2).trans rfl, (blk_cell BK409.out 3).trans rfl, (blk_cell BK409.out 4).trans rfl, (blk_sel5I0 BK409.out rfl rfl rfl rfl rfl (of_eq_true pz45) (of_eq_true qz45))⟩ (fun hHeld => ?_)
                                    clear hK K
                                    refine norm_ (a' := ?_) ?_ ?_
                                    rotate_left
                                    · show Act.put _ (some 10) _ = _
                                      simp only [Act.put, List.setIfInBounds_toArray, List.set_cons_zero, List.set_cons_succ, i64_w, i32_w]
                                      rfl
                                    refine one_ (i := 8) (N := some 66) #[true, true, true, true, true, true, true, true, true, false, false, false, true, false, false] rfl rfl (one_of HT_.out (by kernel_rfl)) (by decide) (fun K hK => ?_)
                                    refine goes_ Try.func12 (by kernel_rfl) rfl #[.agg #[.int .i64 x412000_3, .slice Ao43 x412001_3.length co43], .agg #[.int .i64 (sel5I a0_0 a0_1 a0_2 a0_3 a0_4 x9_3), .int .i64 0], .int .i64 1, .int .i64 0, .int .i64 (wrap64 (a1 + x9_3))] (by rfl) rfl rfl (by (try simp only [List.map_toArray, List.map_cons, List.map_nil]); first | done | rfl | (simp only [List.length_drop, List.length_take]; rfl)) ?_
                                    with_reducible refine (link_Attach.calls k3 x412000_3 _ _ x412001_3 (sel5I a0_0 a0_1 a0_2 a0_3 a0_4 x9_3) 0 1 0 (wrap64 (a1 + x9_3)) t412 t413 t416 _ ?side1 ?side2 A38.out).mono ?_
                                    (case side1 => repeat (first | exact (Kd.R_reads' HO_412001.out).2.2 | (with_reducible refine Kd.C_alloc ?_ _) | (with_reducible refine Kd.C_drewN ?_ _) | (with_reducible refine Kd.C_drew ?_)))
                                    (case side2 => exact (Kd.R_reads' HO_412001.out).2.1)
                                    rintro e w47 ⟨v414, rfl, ho0, hb⟩
                                    refine ⟨_, rfl, ?_⟩
                                    have n0_ := Aside0.mk (Kd.R_elder' (by (with_reducible repeat (first | apply Kd.R_alloc | apply Kd.R_drewN | apply Kd.R_drew)); exact HO_412001.out) (Kd.R_base ho0) hb)
                                    have n1_ := Aside0.mk (Kd.R_lower (Kd.R_new' ho0 (Kd.R_lt (by (with_reducible repeat (first | apply Kd.R_alloc | apply Kd.R_drewN | apply Kd.R_drew)); exact HO_412001.out))) (below_size (by repeat (first | (with_reducible first | exact HB.out | apply below_alloc | apply pw_below_drewN | apply below_drew1 | refine below_set ?_ GE409.out | refine below_set ?_ GE411.out | refine below_set ?_ GE417.out) | exact HB.out))))
                                    have n2_ := Aside0.mk (blk_below (g := gb409) (o := .cells #[.int .i64 a0_0, .int .i64 a0_1, .int .i64 a0_2, .int .i64 a0_3, .int .i64 a0_4] 41 (0, 0)) (by (with_reducible repeat (first | refine blk_drewN ?_ _ | refine blk_drew ?_ | refine blk_alloc ?_ _)); exact BK409.out) hb)
                                    have n3_ := Aside0.mk (blk_below (g := gb411) (o := .cells #[.int .i64 x412000_3, .slice Ao43 x412001_3.length co43] 24 (0, 0)) (by (with_reducible repeat (first | refine blk_drewN ?_ _ | refine blk_drew ?_ | refine blk_alloc ?_ _)); exact BK411.out) hb)
                                    have n4_ := Aside0.mk (blk_below (g := gb417) (o := .cells #[.int .i64 0, .slice none 0 0] 24 (0, 0)) (by (with_reducible repeat (first | refine blk_drewN ?_ _ | refine blk_drew ?_ | refine blk_alloc ?_ _)); exact BK417.out) hb)
                                    have n5_ := Aside0.mk (below_step (by repeat (first | (with_reducible first | exact HB.out | apply below_alloc | apply pw_below_drewN | apply below_drew1 | refine below_set ?_ GE409.out | refine below_set ?_ GE411.out | refine below_set ?_ GE417.out) | exact HB.out)) hb)
                                    clear HO_412001
                                    clear BK409
                                    clear BK411
                                    clear BK417
                                    clear HB
                                    have HO_412001 := n0_
                                    have HO415 := n1_
                                    have BK409 := n2_
                                    have BK411 := n3_
                                    have BK417 := n4_
                                    have HB := n5_
                                    clear n0_ n1_ n2_ n3_ n4_ n5_
                                    (try clear hb)
                                    (try clear hb2)
                                    (try clear hk)
                                    (try clear hi)
                                    (try clear ho0)
                                    refine hK.out _ _ ⟨(blk_cell BK411.out 0).trans rfl, (blk_cell BK411.out 1).trans rfl, (blk_cell BK409.out 0).trans rfl, (blk_cell BK409.out 1).trans rfl, (blk_cell BK409.out 2).trans rfl, (blk_cell BK409.out 3).trans rfl, (blk_cell BK409.out 4).trans rfl, (blk_sel5I0 BK409.out rfl rfl rfl rfl rfl (of_eq_true pz45) (of_eq_true qz45))⟩ (fun hHeld => ?_)
                                    clear hK K
                                    refine norm_ (a' := ?_) ?_ ?_
                                    rotate_left
                                    · show Act.put _ (some 66) _ = _
                                      simp only [Act.put, List.setIfInBounds_toArray, List.set_cons_zero, List.set_cons_succ, i64_w, i32_w]
                                      rfl
                                    refine pure_ (i := 9) (N := some 57) (v := ?_) (a' := ?_) #[true, true, true, true, true, true, true, true, true, true, false, false, true, false, false] rfl rfl (any_of HT_.out (by kernel_rfl)) (fun _ _ _ h => h) (Or.inl ⟨by rfl, ?_⟩) ?_ ?_
                                    rotate_left
                                    · intro w'
                                      go_simp
                                      with_reducible rfl
                                    rotate_left
                                    · simp only [Act.put, List.setIfInBounds_toArray, List.set_cons_zero, List.set_cons_succ, i64_w, i32_w]
                                      rfl
                                    refine pure_ (i := 10) (N := some 67) (v := ?_) (a' := ?_) #[true, true, true, true, true, true, true, true, true, true, true, false, true, false, false] rfl rfl (any_of HT_.out (by kernel_rfl)) (fun _ _ _ h => h) (Or.inl ⟨by rfl, ?_⟩) ?_ ?_
                                    rotate_left
                                    · intro w'
                                      go_simp
                                      with_reducible rfl
                                    rotate_left
                                    · simp only [Act.put, List.setIfInBounds_toArray, List.set_cons_zero, List.set_cons_succ, i64_w, i32_w]
                                      rfl
                                    refine pure_ (i := 11) (N := some 68) (v := ?_) (a' := ?_) #[true, true, true, true, true, true, true, true, true, true, true, true, true, false, false] rfl rfl (any_of HT_.out (by kernel_rfl)) (fun _ _ _ h => h) (Or.inl ⟨by rfl, ?_⟩) ?_ ?_
                                    rotate_left
                                    · intro w'
                                      go_simp
                                      with_reducible rfl
                                    rotate_left
                                    · simp only [Act.put, List.setIfInBounds_toArray, List.set_cons_zero, List.set_cons_succ, i64_w, i32_w]
                                      rfl
                                    exact norm_ (by simp only [putAll, Act.put, List.setIfInBounds_toArray, List.set_cons_zero, List.set_cons_succ]) (hCont (v414, gb417) _ ⟨hHeld, (by (with_reducible repeat (first | apply Kd.R_alloc | apply Kd.R_drewN | apply Kd.R_drew)); exact Kd.R_mono HO415.out (fun _ hk => hk.2)), (by (with_reducible repeat (first | apply Kd.R_alloc | apply Kd.R_drewN | apply Kd.R_drew)); exact Kd.R_mono HO_412001.out (fun _ hk => hk.2)), (by (with_reducible repeat (first | refine blk_drewN ?_ _ | refine blk_drew ?_ | refine blk_alloc ?_ _)); exact BK409.out), (by (with_reducible repeat (first | refine blk_drewN ?_ _ | refine blk_drew ?_ | refine blk_alloc ?_ _)); exact BK411.out), (by (with_reducible repeat (first | refine blk_drewN ?_ _ | refine blk_drew ?_ | refine blk_alloc ?_ _)); exact BK417.out), GW417.out, GE417.out, NB409_417.out, NB417_409.out, NB411_417.out, NB417_411.out, (by repeat (first | (with_reducible first | exact HB.out | apply below_alloc | apply pw_below_drewN | apply below_drew1 | refine below_set ?_ GE409.out | refine below_set ?_ GE411.out | refine below_set ?_ GE417.out) | exact HB.out))⟩)
                                rintro ⟨v414, gb417⟩ w48 ⟨hS_, h0_, h1_, h2_, h3_, h4_, h5_, h6_, h7_, h8_, h9_, h10_, h11_⟩
                                have n0_ : Aside0 (Kd.R k26 26 w48 w.heap.size (fun k_ => some k_ ≠ (.slice Ao43 x412001_3.length co43 : Value).ownBlock) v414 t413) := ⟨h0_⟩
                                have n1_ : Aside0 (Kd.R k26 26 w48 w.heap.size (fun k_ => some k_ ≠ (v414 : Value).ownBlock) (.slice Ao43 x412001_3.length co43) x412001_3) := ⟨h1_⟩
                                have n2_ : Aside0 (w48.heap[gb409]? = some (.cells #[.int .i64 a0_0, .int .i64 a0_1, .int .i64 a0_2, .int .i64 a0_3, .int .i64 a0_4] 41 (0, 0))) := ⟨h2_⟩
                                have n3_ : Aside0 (w48.heap[gb411]? = some (.cells #[.int .i64 x412000_3, .slice Ao43 x412001_3.length co43] 24 (0, 0))) := ⟨h3_⟩
                                have n4_ : Aside0 (w48.heap[gb417]? = some (.cells #[.int .i64 0, .slice none 0 0] 24 (0, 0))) := ⟨h4_⟩
                                have n5_ : Aside0 (w.heap.size ≤ gb417) := ⟨h5_⟩
                                have n6_ : Aside0 (w.heap.size ≤ gb417) := ⟨h6_⟩
                                have n7_ : Aside0 (gb409 ≠ gb417) := ⟨h7_⟩
                                have n8_ : Aside0 (gb417 ≠ gb409) := ⟨h8_⟩
                                have n9_ : Aside0 (gb411 ≠ gb417) := ⟨h9_⟩
                                have n10_ : Aside0 (gb417 ≠ gb411) := ⟨h10_⟩
                                have n11_ : Aside0 (Below w.heap.size w w48) := ⟨h11_⟩
                                clear HO_412001
                                clear BK409
                                clear BK411
                                clear HB
                                clear h0_ h1_ h2_ h3_ h4_ h5_ h6_ h7_ h8_ h9_ h10_ h11_
                                have HO415 := n0_
                                have HO_412001 := n1_
                                have BK409 := n2_
                                have BK411 := n3_
                                have BK417 := n4_
                                have GW417 := n5_
                                have GE417 := n6_
                                have NB409_417 := n7_
                                have NB417_409 := n8_
                                have NB411_417 := n9_
                                have NB417_411 := n10_
                                have HB := n11_
                                clear n0_ n1_ n2_ n3_ n4_ n5_ n6_ n7_ n8_ n9_ n10_ n11_
                                have hHeld : w48.cell? ⟨gb411, 0, none⟩ = some (.int .i64 x412000_3) ∧ w48.cell? ⟨gb411, 1, none⟩ = some (.slice Ao43 x412001_3.length co43) ∧ w48.cell? ⟨gb409, 0, none⟩ = some (.int .i64 a0_0) ∧ w48.cell? ⟨gb409, 1, none⟩ = some (.int .i64 a0_1) ∧ w48.cell? ⟨gb409, 2, none⟩ = some (.int .i64 a0_2) ∧ w48.cell? ⟨gb409, 3, none⟩ = some (.int .i64 a0_3) ∧ w48.cell? ⟨gb409, 4, none⟩ = some (.int .i64 a0_4) ∧ w48.cell? ⟨gb409, (x9_3).toNat, none⟩ = some (.int .i64 (sel5I a0_0 a0_1 a0_2 a0_3 a0_4 x9_3)) := hS_
                                obtain ⟨Ao50, co50, eo50⟩ := Kd.R_slice HO415.out
                                (first | subst eo50 | (injection eo50 with f1_ f2_ f3_; have f4_ := f1_.symm; have f5_ := f3_.symm; clear f1_ f2_ f3_; subst f4_; subst f5_))
                                refine norm_ (a' := ?_) ?_ ?_
                                rotate_left
                                · simp only [putAll, Act.put, List.setIfInBounds_toArray, List.set_cons_zero, List.set_cons_succ]
                                  rfl
                                refine one_ (i := 13) (N := none) #[true, true, true, true, true, true, true, true, true, true, true, true, true, true, false] rfl rfl (one_of HT_.out (by kernel_rfl)) (by decide) (fun K hK => ?_)
                                have hs49 : w48.cell? ⟨gb417, 0, none⟩ = some (.int .i64 0) := (blk_cell BK417.out 0).trans rfl
                                have hfs49 := blk_frozen BK417.out 0
                                have hns49_0 := NB409_417.out
                                have hns49_1 := NB411_417.out
                                have hms49_0 := NB417_409.out
                                have hms49_1 := NB417_411.out
                                have hs51 : w48.cell? ⟨gb417, 1, none⟩ = some (.slice none 0 0) := (blk_cell BK417.out 1).trans rfl
                                have hfs51 := blk_frozen BK417.out 1
                                have hns51_0 := NB409_417.out
                                have hns51_1 := NB411_417.out
                                have hms51_0 := NB417_409.out
                                have hms51_1 := NB417_411.out
                                refine skip_ (w1 := ?_) (by rfl) rfl ?_ ?_
                                rotate_left
                                · go_simp
                                  rfl
                                refine hK.out _ _ ⟨((cell_far (p := ⟨gb417, _, none⟩) NB411_417.out _).trans (((cell_far (p := ⟨gb417, _, none⟩) NB411_417.out _).trans (hHeld.1)))), ((cell_far (p := ⟨gb417, _, none⟩) NB411_417.out _).trans (((cell_far (p := ⟨gb417, _, none⟩) NB411_417.out _).trans (hHeld.2.1)))), ((cell_far (p := ⟨gb417, _, none⟩) NB409_417.out _).trans (((cell_far (p := ⟨gb417, _, none⟩) NB409_417.out _).trans (hHeld.2.2.1)))), ((cell_far (p := ⟨gb417, _, none⟩) NB409_417.out _).trans (((cell_far (p := ⟨gb417, _, none⟩) NB409_417.out _).trans (hHeld.2.2.2.1)))), ((cell_far (p := ⟨gb417, _, none⟩) NB409_417.out _).trans (((cell_far (p := ⟨gb417, _, none⟩) NB409_417.out _).trans (hHeld.2.2.2.2.1)))), ((cell_far (p := ⟨gb417, _, none⟩) NB409_417.out _).trans (((cell_far (p := ⟨gb417, _, none⟩) NB409_417.out _).trans (hHeld.2.2.2.2.2.1)))), ((cell_far (p := ⟨gb417, _, none⟩) NB409_417.out _).trans (((cell_far (p := ⟨gb417, _, none⟩) NB409_417.out _).trans (hHeld.2.2.2.2.2.2.1)))), ((cell_far (p := ⟨gb417, _, none⟩) NB409_417.out _).trans (((cell_far (p := ⟨gb417, _, none⟩) NB409_417.out _).trans (hHeld.2.2.2.2.2.2.2))))⟩ (fun hHeld => ?_)
                                clear hK K
                                refine pure_ (i := 14) (N := some 11) (v := ?_) (a' := ?_) #[true, true, true, true, true, true, true, true, true, true, true, true, true, true, true] rfl rfl (any_of HT_.out (by kernel_rfl)) (fun _ _ _ h => h) (Or.inl ⟨by rfl, ?_⟩) ?_ ?_
                                rotate_left
                                · intro w'
                                  go_simp
                                  with_reducible rfl
                                rotate_left
                                · simp only [Act.put, List.setIfInBounds_toArray, List.set_cons_zero, List.set_cons_succ, i64_w, i32_w]
                                  rfl
                                refine done_ (done_of HT_.out (by kernel_rfl)) ?_
                                try go_wp2
                                have n0_ : Aside0 (Kd.R k26 26 ((w48.setCell ⟨gb417, 0, none⟩ (.int .i64 t412)).setCell ⟨gb417, 1, none⟩ (.slice Ao50 t413.length co50)) w.heap.size (fun k_ => some k_ ≠ (.slice Ao50 t413.length co50 : Value).ownBlock) (.slice Ao43 x412001_3.length co43) x412001_3) := ⟨by (with_reducible repeat (first | apply Kd.R_alloc | apply Kd.R_drewN | apply Kd.R_drew)); exact Kd.R_mono (Kd.R_far (p := ⟨gb417, 1, none⟩) (Kd.R_far (p := ⟨gb417, 0, none⟩) (Kd.R_types HO_412001.out BK417.out (by decide)) (fun _ hk => hk.2) (.int .i64 t412)) (fun _ hk => hk.2) (.slice Ao50 t413.length co50)) (fun _ hk => hk.1)⟩
                                have n1_ : Aside0 (Kd.R k26 26 ((w48.setCell ⟨gb417, 0, none⟩ (.int .i64 t412)).setCell ⟨gb417, 1, none⟩ (.slice Ao50 t413.length co50)) w.heap.size (fun k_ => some k_ ≠ (.slice Ao43 x412001_3.length co43 : Value).ownBlock) (.slice Ao50 t413.length co50) t413) := ⟨by (with_reducible repeat (first | apply Kd.R_alloc | apply Kd.R_drewN | apply Kd.R_drew)); exact Kd.R_mono (Kd.R_far (p := ⟨gb417, 1, none⟩) (Kd.R_far (p := ⟨gb417, 0, none⟩) (Kd.R_types HO415.out BK417.out (by decide)) (fun _ hk => hk.2) (.int .i64 t412)) (fun _ hk => hk.2) (.slice Ao50 t413.length co50)) (fun _ hk => hk.1)⟩
                                have n2_ : Aside0 (((w48.setCell ⟨gb417, 0, none⟩ (.int .i64 t412)).setCell ⟨gb417, 1, none⟩ (.slice Ao50 t413.length co50)).heap[gb409]? = some (.cells #[.int .i64 a0_0, .int .i64 a0_1, .int .i64 a0_2, .int .i64 a0_3, .int .i64 a0_4] 41 (0, 0))) := ⟨by (with_reducible repeat (first | refine blk_drewN ?_ _ | refine blk_drew ?_ | refine blk_alloc ?_ _)); refine blk_far ?_ NB409_417.out _; (with_reducible repeat (first | refine blk_drewN ?_ _ | refine blk_drew ?_ | refine blk_alloc ?_ _)); refine blk_far ?_ NB409_417.out _; (with_reducible repeat (first | refine blk_drewN ?_ _ | refine blk_drew ?_ | refine blk_alloc ?_ _)); exact BK409.out⟩
                                have n3_ : Aside0 (((w48.setCell ⟨gb417, 0, none⟩ (.int .i64 t412)).setCell ⟨gb417, 1, none⟩ (.slice Ao50 t413.length co50)).heap[gb411]? = some (.cells #[.int .i64 x412000_3, .slice Ao43 x412001_3.length co43] 24 (0, 0))) := ⟨by (with_reducible repeat (first | refine blk_drewN ?_ _ | refine blk_drew ?_ | refine blk_alloc ?_ _)); refine blk_far ?_ NB411_417.out _; (with_reducible repeat (first | refine blk_drewN ?_ _ | refine blk_drew ?_ | refine blk_alloc ?_ _)); refine blk_far ?_ NB411_417.out _; (with_reducible repeat (first | refine blk_drewN ?_ _ | refine blk_drew ?_ | refine blk_alloc ?_ _)); exact BK411.out⟩
                                have n4_ : Aside0 (((w48.setCell ⟨gb417, 0, none⟩ (.int .i64 t412)).setCell ⟨gb417, 1, none⟩ (.slice Ao50 t413.length co50)).heap[gb417]? = some (.cells #[.int .i64 t412, .slice Ao50 t413.length co50] 24 (0, 0))) := ⟨by (with_reducible repeat (first | refine blk_drewN ?_ _ | refine blk_drew ?_ | refine blk_alloc ?_ _)); refine blk_put (cs := #[.int .i64 t412, .slice none 0 0]) ?_ 1 _ rfl; (with_reducible repeat (first | refine blk_drewN ?_ _ | refine blk_drew ?_ | refine blk_alloc ?_ _)); refine blk_put (cs := #[.int .i64 0, .slice none 0 0]) ?_ 0 _ rfl; (with_reducible repeat (first | refine blk_drewN ?_ _ | refine blk_drew ?_ | refine blk_alloc ?_ _)); exact BK417.out⟩
                                have n5_ : Aside0 (Below w.heap.size w ((w48.setCell ⟨gb417, 0, none⟩ (.int .i64 t412)).setCell ⟨gb417, 1, none⟩ (.slice Ao50 t413.length co50))) := ⟨by repeat (first | (with_reducible first | exact HB.out | apply below_alloc | apply pw_below_drewN | apply below_drew1 | refine below_set ?_ GE409.out | refine below_set ?_ GE411.out | refine below_set ?_ GE417.out) | exact HB.out)⟩
                                (try clear HO_412001)
                                (try clear HO415)
                                (try clear BK409)
                                (try clear BK411)
                                (try clear BK417)
                                (try clear HB)
                                generalize ((w48.setCell ⟨gb417, 0, none⟩ (.int .i64 t412)).setCell ⟨gb417, 1, none⟩ (.slice Ao50 t413.length co50)) = w52 at n0_ n1_ n2_ n3_ n4_ n5_ ⊢
                                have HO_412001 := n0_
                                have HO415 := n1_
                                have BK409 := n2_
                                have BK411 := n3_
                                have BK417 := n4_
                                have HB := n5_
                                clear n0_ n1_ n2_ n3_ n4_ n5_
                                have n0_ := Aside0.mk (Kd.R_drew HO_412001.out)
                                have n1_ := Aside0.mk (Kd.R_drew HO415.out)
                                have n2_ := Aside0.mk (blk_drew BK409.out)
                                have n3_ := Aside0.mk (blk_drew BK411.out)
                                have n4_ := Aside0.mk (blk_drew BK417.out)
                                have n5_ := Aside0.mk (below_drew1 HB.out)
                                clear HO_412001
                                clear HO415
                                clear BK409
                                clear BK411
                                clear BK417
                                clear HB
                                have HO_412001 := n0_
                                have HO415 := n1_
                                have BK409 := n2_
                                have BK411 := n3_
                                have BK417 := n4_
                                have HB := n5_
                                clear n0_ n1_ n2_ n3_ n4_ n5_
                                have p418 : 0 ≤ (x9_3 : Int) := of_decide_eq_true (by first | (with_reducible assumption) | assumption)
                                have q418 : x9_3 < (t413.length : Int) := of_decide_eq_true (by first | (with_reducible assumption) | assumption)
                                obtain ⟨ad418, e418, hx418_0, hx418_1⟩ := at_T26 (Kd.R_reads' HO415.out).2.2 x9_3 p418 q418
                                cases e418
                                replace p418 := eq_true p418
                                replace q418 := eq_true q418
                                have pz54 : (0 ≤ (x9_3 : Int)) = True := eq_true (of_decide_eq_true (by first | (with_reducible assumption) | assumption))
                                have qz54 : ((x9_3 : Int) < 5) = True := eq_true (of_decide_eq_true (by first | (with_reducible assumption) | assumption))
                                refine start_ (n := 22) (S := fun w' => w'.cell? ⟨gb417, 0, none⟩ = some (.int .i64 t412) ∧ w'.cell? ⟨gb417, 1, none⟩ = some (.slice (some ad418) t413.length co50) ∧ w'.cell? ⟨gb409, 0, none⟩ = some (.int .i64 a0_0) ∧ w'.cell? ⟨gb409, 1, none⟩ = some (.int .i64 a0_1) ∧ w'.cell? ⟨gb409, 2, none⟩ = some (.int .i64 a0_2) ∧ w'.cell? ⟨gb409, 3, none⟩ = some (.int .i64 a0_3) ∧ w'.cell? ⟨gb409, 4, none⟩ = some (.int .i64 a0_4) ∧ w'.cell? (ad418.add ((x9_3).toNat * 2)) = some (.int .i64 ((rd_T26 t413 x9_3).f0)) ∧ w'.cell? ⟨(ad418.add ((x9_3).toNat * 2)).block, (ad418.add ((x9_3).toNat * 2)).off + 1, none⟩ = some (.int .i64 ((rd_T26 t413 x9_3).f1)) ∧ w'.cell? ⟨gb409, (x9_3).toNat, none⟩ = some (.int .i64 (sel5I a0_0 a0_1 a0_2 a0_3 a0_4 x9_3))) (ds := []) #[false, false, false, false, false, false, false, false, false, false, false, false, false, false, false, false, false, false, false, false, false, false] (by kernel_rfl) rfl rfl ⟨(blk_cell BK417.out 0).trans rfl, (blk_cell BK417.out 1).trans rfl, (blk_cell BK409.out 0).trans rfl, (blk_cell BK409.out 1).trans rfl, (blk_cell BK409.out 2).trans rfl, (blk_cell BK409.out 3).trans rfl, (blk_cell BK409.out 4).trans rfl, hx418_0, hx418_1, (blk_sel5I0 BK409.out rfl rfl rfl rfl rfl (of_eq_true pz54) (of_eq_true qz54))⟩ (fun hHeld => ?_); refine with_tabW drydocklaw16_LinkFull.tab19 drydocklaw16_LinkFull.bits19 (fun HT_ HW_ => ?_)
                                generalize w52.drew = w53 at HO_412001 HO415 BK409 BK411 BK417 HB hx418_0 hx418_1 hHeld ⊢
                                refine pure_ (i := 0) (N := some 69) (v := ?_) (a' := ?_) #[true, false, false, false, false, false, false, false, false, false, false, false, false, false, false, false, false, false, false, false, false, false] rfl rfl (any_of HT_.out (by kernel_rfl)) (fun _ _ _ h => h) (Or.inl ⟨by rfl, ?_⟩) ?_ ?_
                                rotate_left
                                · intro w'
                                  go_simp
                                  with_reducible rfl
                                rotate_left
                                · simp only [Act.put, List.setIfInBounds_toArray, List.set_cons_zero, List.set_cons_succ, i64_w, i32_w]
                                  rfl
                                refine pure_ (i := 1) (N := some 70) (v := ?_) (a' := ?_) #[true, true, false, false, false, false, false, false, false, false, false, false, false, false, false, false, false, false, false, false, false, false] rfl rfl (any_of HT_.out (by kernel_rfl)) (fun _ _ _ h => h) (Or.inl ⟨by rfl, ?_⟩) ?_ ?_
                                rotate_left
                                · intro w'
                                  go_simp
                                  with_reducible rfl
                                rotate_left
                                · simp only [Act.put, List.setIfInBounds_toArray, List.set_cons_zero, List.set_cons_succ, i64_w, i32_w]
                                  rfl
                                refine pure_ (i := 2) (N := some 71) (v := ?_) (a' := ?_) #[true, true, true, false, false, false, false, false, false, false, false, false, false, false, false, false, false, false, false, false, false, false] rfl rfl (any_of HT_.out (by kernel_rfl)) (fun _ _ _ h => h) (Or.inl ⟨by rfl, ?_⟩) ?_ ?_
                                rotate_left
                                · intro w'
                                  go_simp
                                  with_reducible rfl
                                rotate_left
                                · simp only [Act.put, List.setIfInBounds_toArray, List.set_cons_zero, List.set_cons_succ, i64_w, i32_w]
                                  rfl
                                refine pure_ (i := 3) (N := some 72) (v := ?_) (a' := ?_) #[true, true, true, true, false, false, false, false, false, false, false, false, false, false, false, false, false, false, false, false, false, false] rfl rfl (any_of HT_.out (by kernel_rfl)) (fun _ _ _ h => h) (Or.inl ⟨by rfl, ?_⟩) ?_ ?_
                                rotate_left
                                · intro w'
                                  go_simp
                                  with_reducible rfl
                                rotate_left
                                · simp only [Act.put, List.setIfInBounds_toArray, List.set_cons_zero, List.set_cons_succ, i64_w, i32_w]
                                  rfl
                                refine pure_ (i := 6) (N := some 75) (v := ?_) (a' := ?_) #[true, true, true, true, false, false, true, false, false, false, false, false, false, false, false, false, false, false, false, false, false, false] rfl rfl (any_of HT_.out (by kernel_rfl)) (fun _ _ _ h => h) (Or.inl ⟨by rfl, ?_⟩) ?_ ?_
                                rotate_left
                                · intro w'
                                  go_simp
                                  with_reducible rfl
                                rotate_left
                                · simp only [Act.put, List.setIfInBounds_toArray, List.set_cons_zero, List.set_cons_succ, i64_w, i32_w]
                                  rfl
                                refine pure_ (i := 7) (N := some 76) (v := ?_) (a' := ?_) #[true, true, true, true, false, false, true, true, false, false, false, false, false, false, false, false, false, false, false, false, false, false] rfl rfl (any_of HT_.out (by kernel_rfl)) (fun _ _ _ h => h) (Or.inl ⟨by rfl, ?_⟩) ?_ ?_
                                rotate_left
                                · intro w'
                                  go_simp
                                  with_reducible rfl
                                rotate_left
                                · simp only [Act.put, List.setIfInBounds_toArray, List.set_cons_zero, List.set_cons_succ, i64_w, i32_w]
                                  rfl
                                refine take_ (i := 4) (N := some 73) (v := ?_) (a' := ?_) #[true, true, true, true, true, false, true, true, false, false, false, false, false, false, false, false, false, false, false, false, false, false] rfl rfl (take_ofW HT_.out HW_.out (by kernel_rfl)) (fun _ _ _ h => h) (Or.inl ⟨by rfl, ?_⟩) hHeld ?_ ?_
                                rotate_left
                                · rintro w' ⟨s0, s1, s2, s3, s4, s5, s6, s7, s8, s9⟩
                                  go_simp
                                  with_reducible rfl
                                rotate_left
                                · simp only [Act.put, List.setIfInBounds_toArray, List.set_cons_zero, List.set_cons_succ, i64_w, i32_w]
                                  rfl
                                refine pure_ (i := 5) (N := some 74) (v := ?_) (a' := ?_) #[true, true, true, true, true, true, true, true, false, false, false, false, false, false, false, false, false, false, false, false, false, false] rfl rfl (any_of HT_.out (by kernel_rfl)) (fun _ _ _ h => h) (Or.inl ⟨by rfl, ?_⟩) ?_ ?_
                                rotate_left
                                · intro w'
                                  go_simp
                                  with_reducible rfl
                                rotate_left
                                · simp only [Act.put, List.setIfInBounds_toArray, List.set_cons_zero, List.set_cons_succ, i64_w, i32_w]
                                  rfl
                                refine pure_ (i := 8) (N := some 77) (v := ?_) (a' := ?_) #[true, true, true, true, true, true, true, true, true, false, false, false, false, false, false, false, false, false, false, false, false, false] rfl rfl (any_of HT_.out (by kernel_rfl)) (fun _ _ _ h => h) (Or.inl ⟨by rfl, ?_⟩) ?_ ?_
                                rotate_left
                                · intro w'
                                  go_simp
                                  with_reducible rfl
                                rotate_left
                                · simp only [Act.put, List.setIfInBounds_toArray, List.set_cons_zero, List.set_cons_succ, i64_w, i32_w]
                                  rfl
                                refine pure_ (i := 9) (N := some 78) (v := ?_) (a' := ?_) #[true, true, true, true, true, true, true, true, true, true, false, false, false, false, false, false, false, false, false, false, false, false] rfl rfl (any_of HT_.out (by kernel_rfl)) (fun _ _ _ h => h) (Or.inl ⟨by rfl, ?_⟩) ?_ ?_
                                rotate_left
                                · intro w'
                                  go_simp
                                  with_reducible rfl
                                rotate_left
                                · simp only [Act.put, List.setIfInBounds_toArray, List.set_cons_zero, List.set_cons_succ, i64_w, i32_w]
                                  rfl
                                refine pure_ (i := 10) (N := some 79) (v := ?_) (a' := ?_) #[true, true, true, true, true, true, true, true, true, true, true, false, false, false, false, false, false, false, false, false, false, false] rfl rfl (any_of HT_.out (by kernel_rfl)) (fun _ _ _ h => h) (Or.inl ⟨by rfl, ?_⟩) ?_ ?_
                                rotate_left
                                · intro w'
                                  go_simp
                                  with_reducible rfl
                                rotate_left
                                · simp only [Act.put, List.setIfInBounds_toArray, List.set_cons_zero, List.set_cons_succ, i64_w, i32_w]
                                  rfl
                                refine pure_ (i := 11) (N := some 80) (v := ?_) (a' := ?_) #[true, true, true, true, true, true, true, true, true, true, true, true, false, false, false, false, false, false, false, false, false, false] rfl rfl (any_of HT_.out (by kernel_rfl)) (fun _ _ _ h => h) (Or.inl ⟨by rfl, ?_⟩) ?_ ?_
                                rotate_left
                                · intro w'
                                  go_simp
                                  with_reducible rfl
                                rotate_left
                                · simp only [Act.put, List.setIfInBounds_toArray, List.set_cons_zero, List.set_cons_succ, i64_w, i32_w]
                                  rfl
                                refine pure_ (i := 13) (N := some 82) (v := ?_) (a' := ?_) #[true, true, true, true, true, true, true, true, true, true, true, true, false, true, false, false, false, false, false, false, false, false] rfl rfl (any_of HT_.out (by kernel_rfl)) (fun _ _ _ h => h) (Or.inl ⟨by rfl, ?_⟩) ?_ ?_
                                rotate_left
                                · intro w'
                                  go_simp
                                  with_reducible rfl
                                rotate_left
                                · simp only [Act.put, List.setIfInBounds_toArray, List.set_cons_zero, List.set_cons_succ, i64_w, i32_w]
                                  rfl
                                refine pure_ (i := 17) (N := some 86) (v := ?_) (a' := ?_) #[true, true, true, true, true, true, true, true, true, true, true, true, false, true, false, false, false, true, false, false, false, false] rfl rfl (any_of HT_.out (by kernel_rfl)) (fun _ _ _ h => h) (Or.inl ⟨by rfl, ?_⟩) ?_ ?_
                                rotate_left
                                · intro w'
                                  go_simp
                                  with_reducible rfl
                                rotate_left
                                · simp only [Act.put, List.setIfInBounds_toArray, List.set_cons_zero, List.set_cons_succ, i64_w, i32_w]
                                  rfl
                                refine pure_ (i := 18) (N := some 87) (v := ?_) (a' := ?_) #[true, true, true, true, true, true, true, true, true, true, true, true, false, true, false, false, false, true, true, false, false, false] rfl rfl (any_of HT_.out (by kernel_rfl)) (fun _ _ _ h => h) (Or.inl ⟨by rfl, ?_⟩) ?_ ?_
                                rotate_left
                                · intro w'
                                  go_simp
                                  with_reducible rfl
                                rotate_left
                                · simp only [Act.put, List.setIfInBounds_toArray, List.set_cons_zero, List.set_cons_succ, i64_w, i32_w]
                                  rfl
                                refine take_ (i := 12) (N := some 81) (v := ?_) (a' := ?_) #[true, true, true, true, true, true, true, true, true, true, true, true, true, true, false, false, false, true, true, false, false, false] rfl rfl (take_ofW HT_.out HW_.out (by kernel_rfl)) (fun _ _ _ h => h) (Or.inl ⟨by rfl, ?_⟩) hHeld ?_ ?_
                                rotate_left
                                · rintro w' ⟨s0, s1, s2, s3, s4, s5, s6, s7, s8, s9⟩
                                  go_simp
                                  with_reducible rfl
                                rotate_left
                                · simp only [Act.put, List.setIfInBounds_toArray, List.set_cons_zero, List.set_cons_succ, i64_w, i32_w]
                                  rfl
                                refine pure_ (i := 14) (N := some 83) (v := ?_) (a' := ?_) #[true, true, true, true, true, true, true, true, true, true, true, true, true, true, true, false, false, true, true, false, false, false] rfl rfl (any_of HT_.out (by kernel_rfl)) (fun _ _ _ h => h) (Or.inl ⟨by rfl, ?_⟩) ?_ ?_
                                rotate_left
                                · intro w'
                                  go_simp
                                  with_reducible rfl
                                rotate_left
                                · simp only [Act.put, List.setIfInBounds_toArray, List.set_cons_zero, List.set_cons_succ, i64_w, i32_w]
                                  rfl
                                refine pure_ (i := 15) (N := some 84) (v := ?_) (a' := ?_) #[true, true, true, true, true, true, true, true, true, true, true, true, true, true, true, true, false, true, true, false, false, false] rfl rfl (any_of HT_.out (by kernel_rfl)) (fun _ _ _ h => h) (Or.inl ⟨by rfl, ?_⟩) ?_ ?_
                                rotate_left
                                · intro w'
                                  go_simp
                                  with_reducible rfl
                                rotate_left
                                · simp only [Act.put, List.setIfInBounds_toArray, List.set_cons_zero, List.set_cons_succ, i64_w, i32_w]
                                  rfl
                                refine take_ (i := 16) (N := some 85) (v := ?_) (a' := ?_) #[true, true, true, true, true, true, true, true, true, true, true, true, true, true, true, true, true, true, true, false, false, false] rfl rfl (take_ofW HT_.out HW_.out (by kernel_rfl)) (fun _ _ _ h => h) (Or.inl ⟨by rfl, ?_⟩) hHeld ?_ ?_
                                rotate_left
                                · rintro w' ⟨s0, s1, s2, s3, s4, s5, s6, s7, s8, s9⟩
                                  go_simp
                                  with_reducible rfl
                                rotate_left
                                · simp only [Act.put, List.setIfInBounds_toArray, List.set_cons_zero, List.set_cons_succ, i64_w, i32_w]
                                  rfl
                                refine take_ (i := 19) (N := some 88) (v := ?_) (a' := ?_) #[true, true, true, true, true, true, true, true, true, true, true, true, true, true, true, true, true, true, true, true, false, false] rfl rfl (take_ofW HT_.out HW_.out (by kernel_rfl)) (fun _ _ _ h => h) (Or.inl ⟨by rfl, ?_⟩) hHeld ?_ ?_
                                rotate_left
                                · rintro w' ⟨s0, s1, s2, s3, s4, s5, s6, s7, s8, s9⟩
                                  go_simp
                                  with_reducible rfl
                                rotate_left
                                · simp only [Act.put, List.setIfInBounds_toArray, List.set_cons_zero, List.set_cons_succ, i64_w, i32_w]
                                  rfl
                                refine pure_ (i := 20) (N := some 89) (v := ?_) (a' := ?_) #[true, true, true, true, true, true, true, true, true, true, true, true, true, true, true, true, true, true, true, true, true, false] rfl rfl (any_of HT_.out (by kernel_rfl)) (fun _ _ _ h => h) (Or.inl ⟨by rfl, ?_⟩) ?_ ?_
                                rotate_left
                                · intro w'
                                  go_simp
                                  with_reducible rfl
                                rotate_left
                                · simp only [Act.put, List.setIfInBounds_toArray, List.set_cons_zero, List.set_cons_succ, i64_w, i32_w]
                                  rfl
                                refine pure_ (i := 21) (N := some 90) (v := ?_) (a' := ?_) #[true, true, true, true, true, true, true, true, true, true, true, true, true, true, true, true, true, true, true, true, true, true] rfl rfl (any_of HT_.out (by kernel_rfl)) (fun _ _ _ h => h) (Or.inl ⟨by rfl, ?_⟩) ?_ ?_
                                rotate_left
                                · intro w'
                                  go_simp
                                  with_reducible rfl
                                rotate_left
                                · simp only [Act.put, List.setIfInBounds_toArray, List.set_cons_zero, List.set_cons_succ, i64_w, i32_w]
                                  rfl
                                refine done_ (done_of HT_.out (by kernel_rfl)) ?_
                                have hnb55 := NB417_409.out
                                have hnc55 := NB409_417.out
                                have hnb56 := NB417_411.out
                                have hnc56 := NB411_417.out
                                have hcz57_0 : w53.cell? ⟨gb417, 0, none⟩ = some (.int .i64 t412) := (blk_cell BK417.out 0).trans rfl
                                have hcz57_1 : w53.cell? ⟨gb417, 1, none⟩ = some (.slice (some ad418) t413.length co50) := (blk_cell BK417.out 1).trans rfl
                                have hfz57_0 := blk_frozen BK417.out 0
                                have hfz57_1 := blk_frozen BK417.out 1
                                have hnb58 := NB411_409.out
                                have hnc58 := NB409_411.out
                                have hcz59_0 : w53.cell? ⟨gb411, 0, none⟩ = some (.int .i64 x412000_3) := (blk_cell BK411.out 0).trans rfl
                                have hcz59_1 : w53.cell? ⟨gb411, 1, none⟩ = some (.slice Ao43 x412001_3.length co43) := (blk_cell BK411.out 1).trans rfl
                                have hfz59_0 := blk_frozen BK411.out 0
                                have hfz59_1 := blk_frozen BK411.out 1
                                try go_wp2
                                go_roundg k3
                                case measure => have := HK1.out; have := HJ30.out; have := HK3.out; omega
                                case rel => exact ⟨(wrap64 (x9_3 + 1)), (t412), (t413), (.slice (some ad418) t413.length co50), (by first | rfl | (simp; done) | (simp [*]; done) | (simp [*]; unfold wrap64; omega)), H', ⟨by have := HK1.out; have := HJ30.out; have := HK3.out; omega⟩, ⟨by (with_reducible repeat (first | apply Kd.R_alloc | apply Kd.R_drewN | apply Kd.R_drew)); exact Kd.R_mono (Kd.R_far (p := ⟨gb411, 1, none⟩) (Kd.R_far (p := ⟨gb411, 0, none⟩) (Kd.R_types HO415.out BK411.out (by decide)) (fun _ hk => hk.2) (.int .i64 t412)) (fun _ hk => hk.2) (.slice (some ad418) t413.length co50)) (fun _ hk => trivial)⟩, ⟨by (with_reducible repeat (first | refine blk_drewN ?_ _ | refine blk_drew ?_ | refine blk_alloc ?_ _)); refine blk_far ?_ NB409_411.out _; (with_reducible repeat (first | refine blk_drewN ?_ _ | refine blk_drew ?_ | refine blk_alloc ?_ _)); refine blk_far ?_ NB409_411.out _; (with_reducible repeat (first | refine blk_drewN ?_ _ | refine blk_drew ?_ | refine blk_alloc ?_ _)); exact BK409.out⟩, ⟨by (with_reducible repeat (first | refine blk_drewN ?_ _ | refine blk_drew ?_ | refine blk_alloc ?_ _)); refine blk_put (cs := #[.int .i64 t412, .slice Ao43 x412001_3.length co43]) ?_ 1 _ rfl; (with_reducible repeat (first | refine blk_drewN ?_ _ | refine blk_drew ?_ | refine blk_alloc ?_ _)); refine blk_put (cs := #[.int .i64 x412000_3, .slice Ao43 x412001_3.length co43]) ?_ 0 _ rfl; (with_reducible repeat (first | refine blk_drewN ?_ _ | refine blk_drew ?_ | refine blk_alloc ?_ _)); exact BK411.out⟩, ⟨by repeat (first | (with_reducible first | exact HB.out | apply below_alloc | apply pw_below_drewN | apply below_drew1 | refine below_set ?_ GE409.out | refine below_set ?_ GE411.out | refine below_set ?_ GE417.out) | exact HB.out)⟩⟩
                              · rw [if_neg c42] at H
                                exact absurd H (by simp)
                            · rw [if_neg c41] at H
                              exact absurd H (by simp)
                          · rw [if_neg c40] at H
                            have c40b0 : ((t413.length : Int) == (wrap64 (x9_3 + 1))) = false := beq_eq_false_iff_ne.mpr c40
                            have c40b1 : ((t413.length : Int) != (wrap64 (x9_3 + 1))) = true := bne_iff_ne.mpr c40
                            exact absurd H (by simp)
                        · rw [if_neg c39] at H
                          have c39b0 : (t416 == 0) = false := beq_eq_false_iff_ne.mpr c39
                          have c39b1 : (t416 != 0) = true := bne_iff_ne.mpr c39
                          exact absurd H (by simp)
                      · rw [if_neg c37] at H
                        exact absurd H (by simp)
                    · rw [if_neg c36] at H
                      exact absurd H (by simp)
                  · rw [if_neg c35] at H
                    have c35b0 : decide (x9_3 < 4) = false := decide_eq_false c35
                    clear c35
                    replace H := Option.bind_eq_some_iff.mp H
                    obtain ⟨⟨t419, t420, t423⟩, A600, H⟩ := H
                    replace H : (drydocklaw16_LinkFull.l3 k3 a1 t423 0 a0_0 a0_1 a0_2 a0_3 a0_4 x412000_3 x412001_3) = some r := H
                    have A60 := Aside0.mk A600
                    clear A600
                    have H' := Aside0.mk H
                    clear H
                    have hnb61 := NB411_409.out
                    have hnc61 := NB409_411.out
                    have hcz62_0 : wr.cell? ⟨gb411, 0, none⟩ = some (.int .i64 x412000_3) := (blk_cell BK411.out 0).trans rfl
                    have hcz62_1 : wr.cell? ⟨gb411, 1, none⟩ = some (u412001) := (blk_cell BK411.out 1).trans rfl
                    have hfz62_0 := blk_frozen BK411.out 0
                    have hfz62_1 := blk_frozen BK411.out 1
                    have hcz63_0 : wr.cell? ⟨gb409, 0, none⟩ = some (.int .i64 a0_0) := (blk_cell BK409.out 0).trans rfl
                    have hcz63_1 : wr.cell? ⟨gb409, 1, none⟩ = some (.int .i64 a0_1) := (blk_cell BK409.out 1).trans rfl
                    have hcz63_2 : wr.cell? ⟨gb409, 2, none⟩ = some (.int .i64 a0_2) := (blk_cell BK409.out 2).trans rfl
                    have hcz63_3 : wr.cell? ⟨gb409, 3, none⟩ = some (.int .i64 a0_3) := (blk_cell BK409.out 3).trans rfl
                    have hcz63_4 : wr.cell? ⟨gb409, 4, none⟩ = some (.int .i64 a0_4) := (blk_cell BK409.out 4).trans rfl
                    have hfz63_0 := blk_frozen BK409.out 0
                    have hfz63_1 := blk_frozen BK409.out 1
                    have hfz63_2 := blk_frozen BK409.out 2
                    have hfz63_3 := blk_frozen BK409.out 3
                    have hfz63_4 := blk_frozen BK409.out 4
                    obtain ⟨Ao64, co64, eo64⟩ := Kd.R_slice HO_412001.out
                    subst eo64
                    go_wp2_with (first | ((with_reducible refine gate_callee (f := 12) rfl ?_); refine goesL_ (some 99) rfl rfl Try.func12 (by kernel_rfl) rfl #[.agg #[.int .i64 x412000_3, .slice Ao64 x412001_3.length co64], .agg #[.int .i64 a0_4, .int .i64 0], .int .i64 0, .int .i64 0, .int .i64 (wrap64 (a1 + 4))] rfl (by (try simp only [List.map_toArray, List.map_cons, List.map_nil]); first | done | rfl | (simp only [List.length_drop, List.length_take]; rfl)) ?_; (with_reducible refine (link_Attach.calls k3 x412000_3 _ _ x412001_3 a0_4 0 0 0 (wrap64 (a1 + 4)) t419 t420 t423 _ ?side1 ?side2 A60.out).mono ?_); (case side1 => repeat (first | exact (Kd.R_reads' HO_412001.out).2.2 | (with_reducible refine Kd.C_alloc ?_ _) | (with_reducible refine Kd.C_drewN ?_ _) | (with_reducible refine Kd.C_drew ?_))); (case side2 => exact (Kd.R_reads' HO_412001.out).2.1); rintro e w65 ⟨v421, rfl, ho0, hb⟩; refine ⟨_, rfl, ?_⟩; have n0_ := Aside0.mk (Kd.R_elder' (by (with_reducible repeat (first | apply Kd.R_alloc | apply Kd.R_drewN | apply Kd.R_drew)); exact HO_412001.out) (Kd.R_base ho0) hb); have n1_ := Aside0.mk (Kd.R_lower (Kd.R_new' ho0 (Kd.R_lt (by (with_reducible repeat (first | apply Kd.R_alloc | apply Kd.R_drewN | apply Kd.R_drew)); exact HO_412001.out))) (below_size (by repeat (first | (with_reducible first | exact HB.out | apply below_alloc | apply pw_below_drewN | apply below_drew1 | refine below_set ?_ GE409.out | refine below_set ?_ GE411.out) | exact HB.out)))); have n2_ := Aside0.mk (blk_below (g := gb409) (o := .cells #[.int .i64 a0_0, .int .i64 a0_1, .int .i64 a0_2, .int .i64 a0_3, .int .i64 a0_4] 41 (0, 0)) (by (with_reducible repeat (first | refine blk_drewN ?_ _ | refine blk_drew ?_ | refine blk_alloc ?_ _)); exact BK409.out) hb); have n3_ := Aside0.mk (blk_below (g := gb411) (o := .cells #[.int .i64 x412000_3, .slice Ao64 x412001_3.length co64] 24 (0, 0)) (by (with_reducible repeat (first | refine blk_drewN ?_ _ | refine blk_drew ?_ | refine blk_alloc ?_ _)); exact BK411.out) hb); have n4_ := Aside0.mk (below_step (by repeat (first | (with_reducible first | exact HB.out | apply below_alloc | apply pw_below_drewN | apply below_drew1 | refine below_set ?_ GE409.out | refine below_set ?_ GE411.out) | exact HB.out)) hb); clear HO_412001; clear BK409; clear BK411; clear HB; have HO_412001 := n0_; have HO422 := n1_; have BK409 := n2_; have BK411 := n3_; have HB := n4_; clear n0_ n1_ n2_ n3_ n4_; (try clear hb); (try clear hb2); (try clear hk); (try clear hi); (try clear ho0); obtain ⟨Ao66, co66, eo66⟩ := Kd.R_slice HO422.out; subst eo66) | ((with_reducible refine gate_dst (N := 12) rfl ?_); (try (refine gate_guard (by rfl) ?_; dsimp only)); refine box_event ?hg (N := 12) ?hd (cs := #[.int .i64 0, .slice none 0 0]) (t := 24) ?hr ?_; (case hd => rfl); (case hg => rfl); (case hr => first | (go_simp; done) | (go_simp; rfl)); intro gb424 hg w67 hbox hb; have n0_ := Aside0.mk (Kd.R_below (by (with_reducible repeat (first | apply Kd.R_alloc | apply Kd.R_drewN | apply Kd.R_drew)); exact HO_412001.out) hb); have n1_ := Aside0.mk (Kd.R_below (by (with_reducible repeat (first | apply Kd.R_alloc | apply Kd.R_drewN | apply Kd.R_drew)); exact HO422.out) hb); have n2_ := Aside0.mk (blk_below (g := gb409) (o := .cells #[.int .i64 a0_0, .int .i64 a0_1, .int .i64 a0_2, .int .i64 a0_3, .int .i64 a0_4] 41 (0, 0)) (by (with_reducible repeat (first | refine blk_drewN ?_ _ | refine blk_drew ?_ | refine blk_alloc ?_ _)); exact BK409.out) hb); have n3_ := Aside0.mk (blk_below (g := gb411) (o := .cells #[.int .i64 x412000_3, .slice Ao64 x412001_3.length co64] 24 (0, 0)) (by (with_reducible repeat (first | refine blk_drewN ?_ _ | refine blk_drew ?_ | refine blk_alloc ?_ _)); exact BK411.out) hb); have n4_ := Aside0.mk (below_step (by repeat (first | (with_reducible first | exact HB.out | apply below_alloc | apply pw_below_drewN | apply below_drew1 | refine below_set ?_ GE409.out | refine below_set ?_ GE411.out) | exact HB.out)) hb); have n5_ := Aside0.mk (hbox); have n6_ := Aside0.mk ((by rw [hg]; exact (below_size (by repeat (first | (with_reducible first | exact HB.out | apply below_alloc | apply pw_below_drewN | apply below_drew1 | refine below_set ?_ GE409.out | refine below_set ?_ GE411.out) | exact HB.out))) : w.heap.size ≤ gb424)); have n7_ := Aside0.mk ((by rw [hg]; exact (below_size (by repeat (first | (with_reducible first | exact HB.out | apply below_alloc | apply pw_below_drewN | apply below_drew1 | refine below_set ?_ GE409.out | refine below_set ?_ GE411.out) | exact HB.out))) : w.heap.size ≤ gb424)); have n8_ := Aside0.mk ((by rw [hg]; exact Nat.ne_of_lt (blk_lt (g := gb409) (o := .cells #[.int .i64 a0_0, .int .i64 a0_1, .int .i64 a0_2, .int .i64 a0_3, .int .i64 a0_4] 41 (0, 0)) (by (with_reducible repeat (first | refine blk_drewN ?_ _ | refine blk_drew ?_ | refine blk_alloc ?_ _)); exact BK409.out)) : gb409 ≠ gb424)); have n9_ := Aside0.mk ((by rw [hg]; exact Nat.ne_of_gt (blk_lt (g := gb409) (o := .cells #[.int .i64 a0_0, .int .i64 a0_1, .int .i64 a0_2, .int .i64 a0_3, .int .i64 a0_4] 41 (0, 0)) (by (with_reducible repeat (first | refine blk_drewN ?_ _ | refine blk_drew ?_ | refine blk_alloc ?_ _)); exact BK409.out)) : gb424 ≠ gb409)); have n10_ := Aside0.mk ((by rw [hg]; exact Nat.ne_of_lt (blk_lt (g := gb411) (o := .cells #[.int .i64 x412000_3, .slice Ao64 x412001_3.length co64] 24 (0, 0)) (by (with_reducible repeat (first | refine blk_drewN ?_ _ | refine blk_drew ?_ | refine blk_alloc ?_ _)); exact BK411.out)) : gb411 ≠ gb424)); have n11_ := Aside0.mk ((by rw [hg]; exact Nat.ne_of_gt (blk_lt (g := gb411) (o := .cells #[.int .i64 x412000_3, .slice Ao64 x412001_3.length co64] 24 (0, 0)) (by (with_reducible repeat (first | refine blk_drewN ?_ _ | refine blk_drew ?_ | refine blk_alloc ?_ _)); exact BK411.out)) : gb424 ≠ gb411)); clear HO_412001; clear HO422; clear BK409; clear BK411; clear HB; have HO_412001 := n0_; have HO422 := n1_; have BK409 := n2_; have BK411 := n3_; have HB := n4_; have BK424 := n5_; have GW424 := n6_; have GE424 := n7_; have NB409_424 := n8_; have NB424_409 := n9_; have NB411_424 := n10_; have NB424_411 := n11_; clear n0_ n1_ n2_ n3_ n4_ n5_ n6_ n7_ n8_ n9_ n10_ n11_; clear hb hbox hg; have hnb68 := NB424_409.out; have hnc68 := NB409_424.out; have hnb69 := NB424_411.out; have hnc69 := NB411_424.out; have hcz70_0 : w67.cell? ⟨gb424, 0, none⟩ = some (.int .i64 0) := (blk_cell BK424.out 0).trans rfl; have hcz70_1 : w67.cell? ⟨gb424, 1, none⟩ = some (.slice none 0 0) := (blk_cell BK424.out 1).trans rfl; have hfz70_0 := blk_frozen BK424.out 0; have hfz70_1 := blk_frozen BK424.out 1))
                    go_loopg [14] k3 (fun kq v14 w' => ∃ (x14_4 : Int) (x412000_4 : Int) (x412001_4 : List (S26)) (u412001 : Value), v14 = .int .i64 x14_4 ∧ Aside0 (drydocklaw16_LinkFull.l3 kq a1 t423 x14_4 a0_0 a0_1 a0_2 a0_3 a0_4 x412000_4 x412001_4 = some r) ∧ Aside0 (kq ≤ k3) ∧ Aside0 (Kd.R k26 26 w' w.heap.size (fun k_ => some k_ ≠ ((.slice Ao66 t420.length co66) : Value).ownBlock) u412001 x412001_4) ∧ Aside0 (Kd.R k26 26 w' w.heap.size (fun k_ => some k_ ≠ (u412001 : Value).ownBlock) (.slice Ao66 t420.length co66) t420) ∧ Aside0 (w'.heap[gb409]? = some (.cells #[.int .i64 a0_0, .int .i64 a0_1, .int .i64 a0_2, .int .i64 a0_3, .int .i64 a0_4] 41 (0, 0))) ∧ Aside0 (w'.heap[gb411]? = some (.cells #[.int .i64 x412000_4, u412001] 24 (0, 0))) ∧ Aside0 (w'.heap[gb424]? = some (.cells #[.int .i64 t419, (.slice Ao66 t420.length co66)] 24 (0, 0))) ∧ Aside0 (Below w.heap.size w w'))
                    case atStart => exact ⟨(0), (x412000_3), (x412001_3), (.slice Ao64 x412001_3.length co64), (by first | rfl | (simp; done) | (simp [*]; done) | (simp [*]; unfold wrap64; omega)), H', ⟨Nat.le_refl _⟩, ⟨by (with_reducible repeat (first | apply Kd.R_alloc | apply Kd.R_drewN | apply Kd.R_drew)); exact Kd.R_mono (Kd.R_far (p := ⟨gb424, 1, none⟩) (Kd.R_far (p := ⟨gb424, 0, none⟩) (Kd.R_types HO_412001.out BK424.out (by decide)) (fun _ hk => hk.2) (.int .i64 t419)) (fun _ hk => hk.2) (.slice Ao66 t420.length co66)) (fun _ hk => hk.1.2)⟩, ⟨by (with_reducible repeat (first | apply Kd.R_alloc | apply Kd.R_drewN | apply Kd.R_drew)); exact Kd.R_mono (Kd.R_far (p := ⟨gb424, 1, none⟩) (Kd.R_far (p := ⟨gb424, 0, none⟩) (Kd.R_types HO422.out BK424.out (by decide)) (fun _ hk => hk.2) (.int .i64 t419)) (fun _ hk => hk.2) (.slice Ao66 t420.length co66)) (fun _ hk => hk.1.2)⟩, ⟨by (with_reducible repeat (first | refine blk_drewN ?_ _ | refine blk_drew ?_ | refine blk_alloc ?_ _)); refine blk_far ?_ NB409_424.out _; (with_reducible repeat (first | refine blk_drewN ?_ _ | refine blk_drew ?_ | refine blk_alloc ?_ _)); refine blk_far ?_ NB409_424.out _; (with_reducible repeat (first | refine blk_drewN ?_ _ | refine blk_drew ?_ | refine blk_alloc ?_ _)); exact BK409.out⟩, ⟨by (with_reducible repeat (first | refine blk_drewN ?_ _ | refine blk_drew ?_ | refine blk_alloc ?_ _)); refine blk_far ?_ NB411_424.out _; (with_reducible repeat (first | refine blk_drewN ?_ _ | refine blk_drew ?_ | refine blk_alloc ?_ _)); refine blk_far ?_ NB411_424.out _; (with_reducible repeat (first | refine blk_drewN ?_ _ | refine blk_drew ?_ | refine blk_alloc ?_ _)); exact BK411.out⟩, ⟨by (with_reducible repeat (first | refine blk_drewN ?_ _ | refine blk_drew ?_ | refine blk_alloc ?_ _)); refine blk_put (cs := #[.int .i64 t419, .slice none 0 0]) ?_ 1 _ rfl; (with_reducible repeat (first | refine blk_drewN ?_ _ | refine blk_drew ?_ | refine blk_alloc ?_ _)); refine blk_put (cs := #[.int .i64 0, .slice none 0 0]) ?_ 0 _ rfl; (with_reducible repeat (first | refine blk_drewN ?_ _ | refine blk_drew ?_ | refine blk_alloc ?_ _)); exact BK424.out⟩, ⟨by repeat (first | (with_reducible first | exact HB.out | apply below_alloc | apply pw_below_drewN | apply below_drew1 | refine below_set ?_ GE409.out | refine below_set ?_ GE411.out | refine below_set ?_ GE424.out) | exact HB.out)⟩⟩
                    case round =>
                      clear H'
                      try clear c1
                      try clear p2
                      try clear c3
                      try clear c4
                      try clear p4
                      try clear q4
                      try clear hx4
                      try clear c5
                      try clear c6
                      try clear p6
                      try clear c12
                      try clear c35
                      try clear c35b0
                      try clear c36
                      try clear c37
                      try clear c39
                      try clear c39b0
                      try clear c39b1
                      try clear c40
                      try clear c40b0
                      try clear c40b1
                      try clear c41
                      try clear p41
                      try clear q41
                      try clear hx41
                      try clear c42
                      try clear c55
                      try clear c56
                      try clear c58
                      try clear c61
                      try clear p64
                      try clear c68
                      try clear c69
                      try clear hcz57_0
                      try clear hcz57_1
                      try clear hcz59_0
                      try clear hcz59_1
                      try clear hcz62_0
                      try clear hcz62_1
                      try clear hcz63_0
                      try clear hcz63_1
                      try clear hcz63_2
                      try clear hcz63_3
                      try clear hcz63_4
                      try clear hcz70_0
                      try clear hcz70_1
                      try clear hfz57_0
                      try clear hfz57_1
                      try clear hfz59_0
                      try clear hfz59_1
                      try clear hfz62_0
                      try clear hfz62_1
                      try clear hfz63_0
                      try clear hfz63_1
                      try clear hfz63_2
                      try clear hfz63_3
                      try clear hfz63_4
                      try clear hfz70_0
                      try clear hfz70_1
                      try clear hx418_0
                      try clear hx418_1
                      try clear p418
                      try clear q418
                      obtain ⟨x14_4, x412000_4, x412001_4, u412001, rfl, HA, HK4, HO_412001, HO_425001, BK409, BK411, BK424, HB⟩ := hrel
                      cases gk with
                      | zero => exact absurd HA.out (by simp [drydocklaw16_LinkFull.l3])
                      | succ k4 =>
                        have H := HA.out
                        clear HA
                        simp only [drydocklaw16_LinkFull.l3] at H
                        by_cases c71 : x14_4 < 4
                        · rw [if_pos c71] at H
                          have c71b0 : decide (x14_4 < 4) = true := decide_eq_true c71
                          clear c71
                          by_cases c72 : 0 ≤ x14_4
                          · rw [if_pos c72] at H
                            have c72b0 : decide (0 ≤ x14_4) = true := decide_eq_true c72
                            clear c72
                            by_cases c73 : x14_4 < 5
                            · rw [if_pos c73] at H
                              have c73b0 : decide (x14_4 < 5) = true := decide_eq_true c73
                              clear c73
                              replace H := Option.bind_eq_some_iff.mp H
                              obtain ⟨⟨t425, t426, t429⟩, A740, H⟩ := H
                              replace H : (if t429 = 0 then (drydocklaw16_LinkFull.l3 k4 a1 t423 (wrap64 (x14_4 + 1)) a0_0 a0_1 a0_2 a0_3 a0_4 t425 t426) else (none)) = some r := H
                              have A74 := Aside0.mk A740
                              clear A740
                              by_cases c75 : t429 = 0
                              · rw [if_pos c75] at H
                                have c75b0 : (t429 == 0) = true := beq_iff_eq.mpr c75
                                have c75b1 : (t429 != 0) = false := bne_eq_false_iff_eq.mpr c75
                                clear c75
                                have H' := Aside0.mk H
                                clear H
                                obtain ⟨Ao76, co76, eo76⟩ := Kd.R_slice HO_412001.out
                                subst eo76
                                try go_wp2
                                have n0_ := Aside0.mk (Kd.R_drew HO_412001.out)
                                have n1_ := Aside0.mk (Kd.R_drew HO_425001.out)
                                have n2_ := Aside0.mk (blk_drew BK409.out)
                                have n3_ := Aside0.mk (blk_drew BK411.out)
                                have n4_ := Aside0.mk (blk_drew BK424.out)
                                have n5_ := Aside0.mk (below_drew1 HB.out)
                                clear HO_412001
                                clear HO_425001
                                clear BK409
                                clear BK411
                                clear BK424
                                clear HB
                                have HO_412001 := n0_
                                have HO_425001 := n1_
                                have BK409 := n2_
                                have BK411 := n3_
                                have BK424 := n4_
                                have HB := n5_
                                clear n0_ n1_ n2_ n3_ n4_ n5_
                                have pz78 : (0 ≤ (x14_4 : Int)) = True := eq_true (of_decide_eq_true (by first | (with_reducible assumption) | assumption))
                                have qz78 : ((x14_4 : Int) < 5) = True := eq_true (of_decide_eq_true (by first | (with_reducible assumption) | assumption))
                                refine start_ (n := 15) (S := fun w' => w'.cell? ⟨gb411, 0, none⟩ = some (.int .i64 x412000_4) ∧ w'.cell? ⟨gb411, 1, none⟩ = some (.slice Ao76 x412001_4.length co76) ∧ w'.cell? ⟨gb409, 0, none⟩ = some (.int .i64 a0_0) ∧ w'.cell? ⟨gb409, 1, none⟩ = some (.int .i64 a0_1) ∧ w'.cell? ⟨gb409, 2, none⟩ = some (.int .i64 a0_2) ∧ w'.cell? ⟨gb409, 3, none⟩ = some (.int .i64 a0_3) ∧ w'.cell? ⟨gb409, 4, none⟩ = some (.int .i64 a0_4) ∧ w'.cell? ⟨gb409, (x14_4).toNat, none⟩ = some (.int .i64 (sel5I a0_0 a0_1 a0_2 a0_3 a0_4 x14_4))) (ds := []) #[false, false, false, false, false, false, false, false, false, false, false, false, false, false, false] (by kernel_rfl) rfl rfl ⟨(blk_cell BK411.out 0).trans rfl, (blk_cell BK411.out 1).trans rfl, (blk_cell BK409.out 0).trans rfl, (blk_cell BK409.out 1).trans rfl, (blk_cell BK409.out 2).trans rfl, (blk_cell BK409.out 3).trans rfl, (blk_cell BK409.out 4).trans rfl, (blk_sel5I0 BK409.out rfl rfl rfl rfl rfl (of_eq_true pz78) (of_eq_true qz78))⟩ (fun hHeld => ?_); refine with_tabW drydocklaw16_LinkFull.tab26 drydocklaw16_LinkFull.bits26 (fun HT_ HW_ => ?_)
                                generalize wr.drew = w77 at HO_412001 HO_425001 BK409 BK411 BK424 HB hHeld ⊢
                                refine pure_ (i := 1) (N := some 108) (v := ?_) (a' := ?_) #[false, true, false, false, false, false, false, false, false, false, false, false, false, false, false] rfl rfl (any_of HT_.out (by kernel_rfl)) (fun _ _ _ h => h) (Or.inl ⟨by rfl, ?_⟩) ?_ ?_
                                rotate_left
                                · intro w'
                                  go_simp
                                  with_reducible rfl
                                rotate_left
                                · simp only [Act.put, List.setIfInBounds_toArray, List.set_cons_zero, List.set_cons_succ, i64_w, i32_w]
                                  rfl
                                refine pure_ (i := 2) (N := some 109) (v := ?_) (a' := ?_) #[false, true, true, false, false, false, false, false, false, false, false, false, false, false, false] rfl rfl (any_of HT_.out (by kernel_rfl)) (fun _ _ _ h => h) (Or.inl ⟨by rfl, ?_⟩) ?_ ?_
                                rotate_left
                                · intro w'
                                  go_simp
                                  with_reducible rfl
                                rotate_left
                                · simp only [Act.put, List.setIfInBounds_toArray, List.set_cons_zero, List.set_cons_succ, i64_w, i32_w]
                                  rfl
                                refine pure_ (i := 4) (N := some 111) (v := ?_) (a' := ?_) #[false, true, true, false, true, false, false, false, false, false, false, false, false, false, false] rfl rfl (any_of HT_.out (by kernel_rfl)) (fun _ _ _ h => h) (Or.inl ⟨by rfl, ?_⟩) ?_ ?_
                                rotate_left
                                · intro w'
                                  go_simp
                                  with_reducible rfl
                                rotate_left
                                · simp only [Act.put, List.setIfInBounds_toArray, List.set_cons_zero, List.set_cons_succ, i64_w, i32_w]
                                  rfl
                                refine pure_ (i := 5) (N := some 112) (v := ?_) (a' := ?_) #[false, true, true, false, true, true, false, false, false, false, false, false, false, false, false] rfl rfl (any_of HT_.out (by kernel_rfl)) (fun _ _ _ h => h) (Or.inl ⟨by rfl, ?_⟩) ?_ ?_
                                rotate_left
                                · intro w'
                                  go_simp
                                  with_reducible rfl
                                rotate_left
                                · simp only [Act.put, List.setIfInBounds_toArray, List.set_cons_zero, List.set_cons_succ, i64_w, i32_w]
                                  rfl
                                refine pure_ (i := 6) (N := some 113) (v := ?_) (a' := ?_) #[false, true, true, false, true, true, true, false, false, false, false, false, false, false, false] rfl rfl (any_of HT_.out (by kernel_rfl)) (fun _ _ _ h => h) (Or.inl ⟨by rfl, ?_⟩) ?_ ?_
                                rotate_left
                                · intro w'
                                  go_simp
                                  with_reducible rfl
                                rotate_left
                                · simp only [Act.put, List.setIfInBounds_toArray, List.set_cons_zero, List.set_cons_succ, i64_w, i32_w]
                                  rfl
                                refine pure_ (i := 7) (N := some 114) (v := ?_) (a' := ?_) #[false, true, true, false, true, true, true, true, false, false, false, false, false, false, false] rfl rfl (any_of HT_.out (by kernel_rfl)) (fun _ _ _ h => h) (Or.inl ⟨by rfl, ?_⟩) ?_ ?_
                                rotate_left
                                · intro w'
                                  go_simp
                                  with_reducible rfl
                                rotate_left
                                · simp only [Act.put, List.setIfInBounds_toArray, List.set_cons_zero, List.set_cons_succ, i64_w, i32_w]
                                  rfl
                                refine take_ (i := 0) (N := some 107) (v := ?_) (a' := ?_) #[true, true, true, false, true, true, true, true, false, false, false, false, false, false, false] rfl rfl (take_ofW HT_.out HW_.out (by kernel_rfl)) (fun _ _ _ h => h) (Or.inl ⟨by rfl, ?_⟩) hHeld ?_ ?_
                                rotate_left
                                · rintro w' ⟨s0, s1, s2, s3, s4, s5, s6, s7⟩
                                  go_simp
                                  with_reducible rfl
                                rotate_left
                                · simp only [Act.put, List.setIfInBounds_toArray, List.set_cons_zero, List.set_cons_succ, i64_w, i32_w]
                                  rfl
                                refine take_ (i := 3) (N := some 110) (v := ?_) (a' := ?_) #[true, true, true, true, true, true, true, true, false, false, false, false, false, false, false] rfl rfl (take_ofW HT_.out HW_.out (by kernel_rfl)) (fun _ _ _ h => h) (Or.inl ⟨by rfl, ?_⟩) hHeld ?_ ?_
                                rotate_left
                                · rintro w' ⟨s0, s1, s2, s3, s4, s5, s6, s7⟩
                                  go_simp
                                  with_reducible rfl
                                rotate_left
                                · simp only [Act.put, List.setIfInBounds_toArray, List.set_cons_zero, List.set_cons_succ, i64_w, i32_w]
                                  rfl
                                refine join_ (σ := Value × Nat) 2 #[true, true, true, true, true, true, true, true, true, true, true, true, true, false, false] (fun s_ => [(115, .tuple #[.agg #[.int .i64 t425, s_.1], .int .i64 t429]), (15, .pointer (some ⟨s_.2, 0, none⟩)), (106, .tuple #[.agg #[.int .i64 t425, s_.1], .int .i64 t429]), (116, .agg #[.int .i64 t425, s_.1]), (117, .int .i64 t429)]) (fun s_ w' => (w'.cell? ⟨gb411, 0, none⟩ = some (.int .i64 x412000_4) ∧ w'.cell? ⟨gb411, 1, none⟩ = some (.slice Ao76 x412001_4.length co76) ∧ w'.cell? ⟨gb409, 0, none⟩ = some (.int .i64 a0_0) ∧ w'.cell? ⟨gb409, 1, none⟩ = some (.int .i64 a0_1) ∧ w'.cell? ⟨gb409, 2, none⟩ = some (.int .i64 a0_2) ∧ w'.cell? ⟨gb409, 3, none⟩ = some (.int .i64 a0_3) ∧ w'.cell? ⟨gb409, 4, none⟩ = some (.int .i64 a0_4) ∧ w'.cell? ⟨gb409, (x14_4).toNat, none⟩ = some (.int .i64 (sel5I a0_0 a0_1 a0_2 a0_3 a0_4 x14_4))) ∧ (Kd.R k26 26 w' w.heap.size (fun k_ => some k_ ≠ (.slice Ao76 x412001_4.length co76 : Value).ownBlock ∧ some k_ ≠ (.slice Ao66 t420.length co66 : Value).ownBlock) s_.1 t426) ∧ (Kd.R k26 26 w' w.heap.size (fun k_ => some k_ ≠ (s_.1 : Value).ownBlock ∧ some k_ ≠ (.slice Ao66 t420.length co66 : Value).ownBlock) (.slice Ao76 x412001_4.length co76) x412001_4) ∧ (Kd.R k26 26 w' w.heap.size (fun k_ => some k_ ≠ (s_.1 : Value).ownBlock ∧ some k_ ≠ (.slice Ao76 x412001_4.length co76 : Value).ownBlock) (.slice Ao66 t420.length co66) t420) ∧ (w'.heap[gb409]? = some (.cells #[.int .i64 a0_0, .int .i64 a0_1, .int .i64 a0_2, .int .i64 a0_3, .int .i64 a0_4] 41 (0, 0))) ∧ (w'.heap[gb411]? = some (.cells #[.int .i64 x412000_4, .slice Ao76 x412001_4.length co76] 24 (0, 0))) ∧ (w'.heap[gb424]? = some (.cells #[.int .i64 t419, .slice Ao66 t420.length co66] 24 (0, 0))) ∧ (w'.heap[s_.2]? = some (.cells #[.int .i64 0, .slice none 0 0] 24 (0, 0))) ∧ (w.heap.size ≤ s_.2) ∧ (w.heap.size ≤ s_.2) ∧ (gb409 ≠ s_.2) ∧ (s_.2 ≠ gb409) ∧ (gb411 ≠ s_.2) ∧ (s_.2 ≠ gb411) ∧ (gb424 ≠ s_.2) ∧ (s_.2 ≠ gb424) ∧ (Below w.heap.size w w')) ?_ ?_
                                rotate_left
                                · intro hCont
                                  refine two_ (i := 8) (j := 12) (Ni := some 115) (Nj := some 15) #[true, true, true, true, true, true, true, true, true, false, false, false, false, false, false] #[true, true, true, true, true, true, true, true, false, false, false, false, true, false, false] rfl rfl rfl rfl (two_of HT_.out (by kernel_rfl)) (by decide) (by decide) (fun K hK => ?_) (fun K hK => ?_)
                                  · skip
                                    refine goes_ Try.func15 (by kernel_rfl) rfl #[.agg #[.int .i64 x412000_4, .slice Ao76 x412001_4.length co76], .int .i64 (sel5I a0_0 a0_1 a0_2 a0_3 a0_4 x14_4), .int .i64 (wrap64 ((wrap64 (a1 + 4)) + x14_4))] (by rfl) rfl rfl (by (try simp only [List.map_toArray, List.map_cons, List.map_nil]); first | done | rfl | (simp only [List.length_drop, List.length_take]; rfl)) ?_
                                    with_reducible refine (link_Detach.calls x412000_4 _ _ x412001_4 (sel5I a0_0 a0_1 a0_2 a0_3 a0_4 x14_4) (wrap64 ((wrap64 (a1 + 4)) + x14_4)) t425 t426 t429 _ ?side1 ?side2 A74.out).mono ?_
                                    (case side1 => repeat (first | exact (Kd.R_reads' HO_412001.out).2.2 | (with_reducible refine Kd.C_alloc ?_ _) | (with_reducible refine Kd.C_drewN ?_ _) | (with_reducible refine Kd.C_drew ?_)))
                                    (case side2 => exact (Kd.R_reads' HO_412001.out).2.1)
                                    rintro e w79 ⟨v427, rfl, ho0, hb⟩
                                    refine ⟨_, rfl, ?_⟩
                                    have n0_ := Aside0.mk (Kd.R_elder' (by (with_reducible repeat (first | apply Kd.R_alloc | apply Kd.R_drewN | apply Kd.R_drew)); exact HO_412001.out) (Kd.R_base ho0) hb)
                                    have n1_ := Aside0.mk (Kd.R_elder' (by (with_reducible repeat (first | apply Kd.R_alloc | apply Kd.R_drewN | apply Kd.R_drew)); exact HO_425001.out) (Kd.R_base ho0) hb)
                                    have n2_ := Aside0.mk (Kd.R_lower (Kd.R_new' (Kd.R_new' ho0 (Kd.R_lt (by (with_reducible repeat (first | apply Kd.R_alloc | apply Kd.R_drewN | apply Kd.R_drew)); exact HO_412001.out))) (Kd.R_lt (by (with_reducible repeat (first | apply Kd.R_alloc | apply Kd.R_drewN | apply Kd.R_drew)); exact HO_425001.out))) (below_size (by repeat (first | (with_reducible first | exact HB.out | apply below_alloc | apply pw_below_drewN | apply below_drew1 | refine below_set ?_ GE409.out | refine below_set ?_ GE411.out | refine below_set ?_ GE424.out) | exact HB.out))))
                                    have n3_ := Aside0.mk (blk_below (g := gb409) (o := .cells #[.int .i64 a0_0, .int .i64 a0_1, .int .i64 a0_2, .int .i64 a0_3, .int .i64 a0_4] 41 (0, 0)) (by (with_reducible repeat (first | refine blk_drewN ?_ _ | refine blk_drew ?_ | refine blk_alloc ?_ _)); exact BK409.out) hb)
                                    have n4_ := Aside0.mk (blk_below (g := gb411) (o := .cells #[.int .i64 x412000_4, .slice Ao76 x412001_4.length co76] 24 (0, 0)) (by (with_reducible repeat (first | refine blk_drewN ?_ _ | refine blk_drew ?_ | refine blk_alloc ?_ _)); exact BK411.out) hb)
                                    have n5_ := Aside0.mk (blk_below (g := gb424) (o := .cells #[.int .i64 t419, .slice Ao66 t420.length co66] 24 (0, 0)) (by (with_reducible repeat (first | refine blk_drewN ?_ _ | refine blk_drew ?_ | refine blk_alloc ?_ _)); exact BK424.out) hb)
                                    have n6_ := Aside0.mk (below_step (by repeat (first | (with_reducible first | exact HB.out | apply below_alloc | apply pw_below_drewN | apply below_drew1 | refine below_set ?_ GE409.out | refine below_set ?_ GE411.out | refine below_set ?_ GE424.out) | exact HB.out)) hb)
                                    clear HO_412001
                                    clear HO_425001
                                    clear BK409
                                    clear BK411
                                    clear BK424
                                    clear HB
                                    have HO_412001 := n0_
                                    have HO_425001 := n1_
                                    have HO428 := n2_
                                    have BK409 := n3_
                                    have BK411 := n4_
                                    have BK424 := n5_
                                    have HB := n6_
                                    clear n0_ n1_ n2_ n3_ n4_ n5_ n6_
                                    (try clear hb)
                                    (try clear hb2)
                                    (try clear hk)
                                    (try clear hi)
                                    (try clear ho0)
                                    refine hK.out _ _ ⟨(blk_cell BK411.out 0).trans rfl, (blk_cell BK411.out 1).trans rfl, (blk_cell BK409.out 0).trans rfl, (blk_cell BK409.out 1).trans rfl, (blk_cell BK409.out 2).trans rfl, (blk_cell BK409.out 3).trans rfl, (blk_cell BK409.out 4).trans rfl, (blk_sel5I0 BK409.out rfl rfl rfl rfl rfl (of_eq_true pz78) (of_eq_true qz78))⟩ (fun hHeld => ?_)
                                    clear hK K
                                    refine norm_ (a' := ?_) ?_ ?_
                                    rotate_left
                                    · show Act.put _ (some 115) _ = _
                                      simp only [Act.put, List.setIfInBounds_toArray, List.set_cons_zero, List.set_cons_succ, i64_w, i32_w]
                                      rfl
                                    refine pure_ (i := 9) (N := some 106) (v := ?_) (a' := ?_) #[true, true, true, true, true, true, true, true, true, true, false, false, false, false, false] rfl rfl (any_of HT_.out (by kernel_rfl)) (fun _ _ _ h => h) (Or.inl ⟨by rfl, ?_⟩) ?_ ?_
                                    rotate_left
                                    · intro w'
                                      go_simp
                                      with_reducible rfl
                                    rotate_left
                                    · simp only [Act.put, List.setIfInBounds_toArray, List.set_cons_zero, List.set_cons_succ, i64_w, i32_w]
                                      rfl
                                    refine pure_ (i := 10) (N := some 116) (v := ?_) (a' := ?_) #[true, true, true, true, true, true, true, true, true, true, true, false, false, false, false] rfl rfl (any_of HT_.out (by kernel_rfl)) (fun _ _ _ h => h) (Or.inl ⟨by rfl, ?_⟩) ?_ ?_
                                    rotate_left
                                    · intro w'
                                      go_simp
                                      with_reducible rfl
                                    rotate_left
                                    · simp only [Act.put, List.setIfInBounds_toArray, List.set_cons_zero, List.set_cons_succ, i64_w, i32_w]
                                      rfl
                                    refine pure_ (i := 11) (N := some 117) (v := ?_) (a' := ?_) #[true, true, true, true, true, true, true, true, true, true, true, true, false, false, false] rfl rfl (any_of HT_.out (by kernel_rfl)) (fun _ _ _ h => h) (Or.inl ⟨by rfl, ?_⟩) ?_ ?_
                                    rotate_left
                                    · intro w'
                                      go_simp
                                      with_reducible rfl
                                    rotate_left
                                    · simp only [Act.put, List.setIfInBounds_toArray, List.set_cons_zero, List.set_cons_succ, i64_w, i32_w]
                                      rfl
                                    refine one_ (i := 12) (N := some 15) #[true, true, true, true, true, true, true, true, true, true, true, true, true, false, false] rfl rfl (one_of HT_.out (by kernel_rfl)) (by decide) (fun K hK => ?_)
                                    refine box_step ?hg (N := 15) ?hd (cs := #[.int .i64 0, .slice none 0 0]) (t := 24) ?hr ?_; (case hd => rfl); (case hg => rfl); (case hr => first | (go_simp; done) | (go_simp; rfl))
                                    intro gb430 hg w80 hbox hb
                                    have n0_ := Aside0.mk (Kd.R_below (by (with_reducible repeat (first | apply Kd.R_alloc | apply Kd.R_drewN | apply Kd.R_drew)); exact HO_412001.out) hb)
                                    have n1_ := Aside0.mk (Kd.R_below (by (with_reducible repeat (first | apply Kd.R_alloc | apply Kd.R_drewN | apply Kd.R_drew)); exact HO_425001.out) hb)
                                    have n2_ := Aside0.mk (Kd.R_below (by (with_reducible repeat (first | apply Kd.R_alloc | apply Kd.R_drewN | apply Kd.R_drew)); exact HO428.out) hb)
                                    have n3_ := Aside0.mk (blk_below (g := gb409) (o := .cells #[.int .i64 a0_0, .int .i64 a0_1, .int .i64 a0_2, .int .i64 a0_3, .int .i64 a0_4] 41 (0, 0)) (by (with_reducible repeat (first | refine blk_drewN ?_ _ | refine blk_drew ?_ | refine blk_alloc ?_ _)); exact BK409.out) hb)
                                    have n4_ := Aside0.mk (blk_below (g := gb411) (o := .cells #[.int .i64 x412000_4, .slice Ao76 x412001_4.length co76] 24 (0, 0)) (by (with_reducible repeat (first | refine blk_drewN ?_ _ | refine blk_drew ?_ | refine blk_alloc ?_ _)); exact BK411.out) hb)
                                    have n5_ := Aside0.mk (blk_below (g := gb424) (o := .cells #[.int .i64 t419, .slice Ao66 t420.length co66] 24 (0, 0)) (by (with_reducible repeat (first | refine blk_drewN ?_ _ | refine blk_drew ?_ | refine blk_alloc ?_ _)); exact BK424.out) hb)
                                    have n6_ := Aside0.mk (below_step (by repeat (first | (with_reducible first | exact HB.out | apply below_alloc | apply pw_below_drewN | apply below_drew1 | refine below_set ?_ GE409.out | refine below_set ?_ GE411.out | refine below_set ?_ GE424.out) | exact HB.out)) hb)
                                    have n7_ := Aside0.mk (hbox)
                                    have n8_ := Aside0.mk ((by rw [hg]; exact (below_size (by repeat (first | (with_reducible first | exact HB.out | apply below_alloc | apply pw_below_drewN | apply below_drew1 | refine below_set ?_ GE409.out | refine below_set ?_ GE411.out | refine below_set ?_ GE424.out) | exact HB.out))) : w.heap.size ≤ gb430))
                                    have n9_ := Aside0.mk ((by rw [hg]; exact (below_size (by repeat (first | (with_reducible first | exact HB.out | apply below_alloc | apply pw_below_drewN | apply below_drew1 | refine below_set ?_ GE409.out | refine below_set ?_ GE411.out | refine below_set ?_ GE424.out) | exact HB.out))) : w.heap.size ≤ gb430))
                                    have n10_ := Aside0.mk ((by rw [hg]; exact Nat.ne_of_lt (blk_lt (g := gb409) (o := .cells #[.int .i64 a0_0, .int .i64 a0_1, .int .i64 a0_2, .int .i64 a0_3, .int .i64 a0_4] 41 (0, 0)) (by (with_reducible repeat (first | refine blk_drewN ?_ _ | refine blk_drew ?_ | refine blk_alloc ?_ _)); exact BK409.out)) : gb409 ≠ gb430))
                                    have n11_ := Aside0.mk ((by rw [hg]; exact Nat.ne_of_gt (blk_lt (g := gb409) (o := .cells #[.int .i64 a0_0, .int .i64 a0_1, .int .i64 a0_2, .int .i64 a0_3, .int .i64 a0_4] 41 (0, 0)) (by (with_reducible repeat (first | refine blk_drewN ?_ _ | refine blk_drew ?_ | refine blk_alloc ?_ _)); exact BK409.out)) : gb430 ≠ gb409))
                                    have n12_ := Aside0.mk ((by rw [hg]; exact Nat.ne_of_lt (blk_lt (g := gb411) (o := .cells #[.int .i64 x412000_4, .slice Ao76 x412001_4.length co76] 24 (0, 0)) (by (with_reducible repeat (first | refine blk_drewN ?_ _ | refine blk_drew ?_ | refine blk_alloc ?_ _)); exact BK411.out)) : gb411 ≠ gb430))
                                    have n13_ := Aside0.mk ((by rw [hg]; exact Nat.ne_of_gt (blk_lt (g := gb411) (o := .cells #[.int .i64 x412000_4, .slice Ao76 x412001_4.length co76] 24 (0, 0)) (by (with_reducible repeat (first | refine blk_drewN ?_ _ | refine blk_drew ?_ | refine blk_alloc ?_ _)); exact BK411.out)) : gb430 ≠ gb411))
                                    have n14_ := Aside0.mk ((by rw [hg]; exact Nat.ne_of_lt (blk_lt (g := gb424) (o := .cells #[.int .i64 t419, .slice Ao66 t420.length co66] 24 (0, 0)) (by (with_reducible repeat (first | refine blk_drewN ?_ _ | refine blk_drew ?_ | refine blk_alloc ?_ _)); exact BK424.out)) : gb424 ≠ gb430))
                                    have n15_ := Aside0.mk ((by rw [hg]; exact Nat.ne_of_gt (blk_lt (g := gb424) (o := .cells #[.int .i64 t419, .slice Ao66 t420.length co66] 24 (0, 0)) (by (with_reducible repeat (first | refine blk_drewN ?_ _ | refine blk_drew ?_ | refine blk_alloc ?_ _)); exact BK424.out)) : gb430 ≠ gb424))
                                    clear HO_412001
                                    clear HO_425001
                                    clear HO428
                                    clear BK409
                                    clear BK411
                                    clear BK424
                                    clear HB
                                    have HO_412001 := n0_
                                    have HO_425001 := n1_
                                    have HO428 := n2_
                                    have BK409 := n3_
                                    have BK411 := n4_
                                    have BK424 := n5_
                                    have HB := n6_
                                    have BK430 := n7_
                                    have GW430 := n8_
                                    have GE430 := n9_
                                    have NB409_430 := n10_
                                    have NB430_409 := n11_
                                    have NB411_430 := n12_
                                    have NB430_411 := n13_
                                    have NB424_430 := n14_
                                    have NB430_424 := n15_
                                    clear n0_ n1_ n2_ n3_ n4_ n5_ n6_ n7_ n8_ n9_ n10_ n11_ n12_ n13_ n14_ n15_
                                    clear hb hbox hg
                                    refine hK.out _ _ ⟨(blk_cell BK411.out 0).trans rfl, (blk_cell BK411.out 1).trans rfl, (blk_cell BK409.out 0).trans rfl, (blk_cell BK409.out 1).trans rfl, (blk_cell BK409.out 2).trans rfl, (blk_cell BK409.out 3).trans rfl, (blk_cell BK409.out 4).trans rfl, (blk_sel5I0 BK409.out rfl rfl rfl rfl rfl (of_eq_true pz78) (of_eq_true qz78))⟩ (fun hHeld => ?_)
                                    clear hK K
                                    refine norm_ (a' := ?_) ?_ ?_
                                    rotate_left
                                    · show Act.put _ (some 15) _ = _
                                      simp only [Act.put, List.setIfInBounds_toArray, List.set_cons_zero, List.set_cons_succ, i64_w, i32_w]
                                      rfl
                                    exact norm_ (by simp only [putAll, Act.put, List.setIfInBounds_toArray, List.set_cons_zero, List.set_cons_succ]) (hCont (v427, gb430) _ ⟨hHeld, (by (with_reducible repeat (first | apply Kd.R_alloc | apply Kd.R_drewN | apply Kd.R_drew)); exact Kd.R_mono HO428.out (fun _ hk => ⟨hk.1.2, hk.2⟩)), (by (with_reducible repeat (first | apply Kd.R_alloc | apply Kd.R_drewN | apply Kd.R_drew)); exact Kd.R_mono HO_412001.out (fun _ hk => ⟨hk.2, hk.1⟩)), (by (with_reducible repeat (first | apply Kd.R_alloc | apply Kd.R_drewN | apply Kd.R_drew)); exact Kd.R_mono HO_425001.out (fun _ hk => ⟨hk.2, hk.1⟩)), (by (with_reducible repeat (first | refine blk_drewN ?_ _ | refine blk_drew ?_ | refine blk_alloc ?_ _)); exact BK409.out), (by (with_reducible repeat (first | refine blk_drewN ?_ _ | refine blk_drew ?_ | refine blk_alloc ?_ _)); exact BK411.out), (by (with_reducible repeat (first | refine blk_drewN ?_ _ | refine blk_drew ?_ | refine blk_alloc ?_ _)); exact BK424.out), (by (with_reducible repeat (first | refine blk_drewN ?_ _ | refine blk_drew ?_ | refine blk_alloc ?_ _)); exact BK430.out), GW430.out, GE430.out, NB409_430.out, NB430_409.out, NB411_430.out, NB430_411.out, NB424_430.out, NB430_424.out, (by repeat (first | (with_reducible first | exact HB.out | apply below_alloc | apply pw_below_drewN | apply below_drew1 | refine below_set ?_ GE409.out | refine below_set ?_ GE411.out | refine below_set ?_ GE424.out | refine below_set ?_ GE430.out) | exact HB.out))⟩)
                                  · skip
                                    refine box_step ?hg (N := 15) ?hd (cs := #[.int .i64 0, .slice none 0 0]) (t := 24) ?hr ?_; (case hd => rfl); (case hg => rfl); (case hr => first | (go_simp; done) | (go_simp; rfl))
                                    intro gb430 hg w79 hbox hb
                                    have n0_ := Aside0.mk (Kd.R_below (by (with_reducible repeat (first | apply Kd.R_alloc | apply Kd.R_drewN | apply Kd.R_drew)); exact HO_412001.out) hb)
                                    have n1_ := Aside0.mk (Kd.R_below (by (with_reducible repeat (first | apply Kd.R_alloc | apply Kd.R_drewN | apply Kd.R_drew)); exact HO_425001.out) hb)
                                    have n2_ := Aside0.mk (blk_below (g := gb409) (o := .cells #[.int .i64 a0_0, .int .i64 a0_1, .int .i64 a0_2, .int .i64 a0_3, .int .i64 a0_4] 41 (0, 0)) (by (with_reducible repeat (first | refine blk_drewN ?_ _ | refine blk_drew ?_ | refine blk_alloc ?_ _)); exact BK409.out) hb)
                                    have n3_ := Aside0.mk (blk_below (g := gb411) (o := .cells #[.int .i64 x412000_4, .slice Ao76 x412001_4.length co76] 24 (0, 0)) (by (with_reducible repeat (first | refine blk_drewN ?_ _ | refine blk_drew ?_ | refine blk_alloc ?_ _)); exact BK411.out) hb)
                                    have n4_ := Aside0.mk (blk_below (g := gb424) (o := .cells #[.int .i64 t419, .slice Ao66 t420.length co66] 24 (0, 0)) (by (with_reducible repeat (first | refine blk_drewN ?_ _ | refine blk_drew ?_ | refine blk_alloc ?_ _)); exact BK424.out) hb)
                                    have n5_ := Aside0.mk (below_step (by repeat (first | (with_reducible first | exact HB.out | apply below_alloc | apply pw_below_drewN | apply below_drew1 | refine below_set ?_ GE409.out | refine below_set ?_ GE411.out | refine below_set ?_ GE424.out) | exact HB.out)) hb)
                                    have n6_ := Aside0.mk (hbox)
                                    have n7_ := Aside0.mk ((by rw [hg]; exact (below_size (by repeat (first | (with_reducible first | exact HB.out | apply below_alloc | apply pw_below_drewN | apply below_drew1 | refine below_set ?_ GE409.out | refine below_set ?_ GE411.out | refine below_set ?_ GE424.out) | exact HB.out))) : w.heap.size ≤ gb430))
                                    have n8_ := Aside0.mk ((by rw [hg]; exact (below_size (by repeat (first | (with_reducible first | exact HB.out | apply below_alloc | apply pw_below_drewN | apply below_drew1 | refine below_set ?_ GE409.out | refine below_set ?_ GE411.out | refine below_set ?_ GE424.out) | exact HB.out))) : w.heap.size ≤ gb430))
                                    have n9_ := Aside0.mk ((by rw [hg]; exact Nat.ne_of_lt (blk_lt (g := gb409) (o := .cells #[.int .i64 a0_0, .int .i64 a0_1, .int .i64 a0_2, .int .i64 a0_3, .int .i64 a0_4] 41 (0, 0)) (by (with_reducible repeat (first | refine blk_drewN ?_ _ | refine blk_drew ?_ | refine blk_alloc ?_ _)); exact BK409.out)) : gb409 ≠ gb430))
                                    have n10_ := Aside0.mk ((by rw [hg]; exact Nat.ne_of_gt (blk_lt (g := gb409) (o := .cells #[.int .i64 a0_0, .int .i64 a0_1, .int .i64 a0_2, .int .i64 a0_3, .int .i64 a0_4] 41 (0, 0)) (by (with_reducible repeat (first | refine blk_drewN ?_ _ | refine blk_drew ?_ | refine blk_alloc ?_ _)); exact BK409.out)) : gb430 ≠ gb409))
                                    have n11_ := Aside0.mk ((by rw [hg]; exact Nat.ne_of_lt (blk_lt (g := gb411) (o := .cells #[.int .i64 x412000_4, .slice Ao76 x412001_4.length co76] 24 (0, 0)) (by (with_reducible repeat (first | refine blk_drewN ?_ _ | refine blk_drew ?_ | refine blk_alloc ?_ _)); exact BK411.out)) : gb411 ≠ gb430))
                                    have n12_ := Aside0.mk ((by rw [hg]; exact Nat.ne_of_gt (blk_lt (g := gb411) (o := .cells #[.int .i64 x412000_4, .slice Ao76 x412001_4.length co76] 24 (0, 0)) (by (with_reducible repeat (first | refine blk_drewN ?_ _ | refine blk_drew ?_ | refine blk_alloc ?_ _)); exact BK411.out)) : gb430 ≠ gb411))
                                    have n13_ := Aside0.mk ((by rw [hg]; exact Nat.ne_of_lt (blk_lt (g := gb424) (o := .cells #[.int .i64 t419, .slice Ao66 t420.length co66] 24 (0, 0)) (by (with_reducible repeat (first | refine blk_drewN ?_ _ | refine blk_drew ?_ | refine blk_alloc ?_ _)); exact BK424.out)) : gb424 ≠ gb430))
                                    have n14_ := Aside0.mk ((by rw [hg]; exact Nat.ne_of_gt (blk_lt (g := gb424) (o := .cells #[.int .i64 t419, .slice Ao66 t420.length co66] 24 (0, 0)) (by (with_reducible repeat (first | refine blk_drewN ?_ _ | refine blk_drew ?_ | refine blk_alloc ?_ _)); exact BK424.out)) : gb430 ≠ gb424))
                                    clear HO_412001
                                    clear HO_425001
                                    clear BK409
                                    clear BK411
                                    clear BK424
                                    clear HB
                                    have HO_412001 := n0_
                                    have HO_425001 := n1_
                                    have BK409 := n2_
                                    have BK411 := n3_
                                    have BK424 := n4_
                                    have HB := n5_
                                    have BK430 := n6_
                                    have GW430 := n7_
                                    have GE430 := n8_
                                    have NB409_430 := n9_
                                    have NB430_409 := n10_
                                    have NB411_430 := n11_
                                    have NB430_411 := n12_
                                    have NB424_430 := n13_
                                    have NB430_424 := n14_
                                    clear n0_ n1_ n2_ n3_ n4_ n5_ n6_ n7_ n8_ n9_ n10_ n11_ n12_ n13_ n14_
                                    clear hb hbox hg
                                    refine hK.out _ _ ⟨(blk_cell BK411.out 0).trans rfl, (blk_cell BK411.out 1).trans rfl, (blk_cell BK409.out 0).trans rfl, (blk_cell BK409.out 1).trans rfl, (blk_cell BK409.out 2).trans rfl, (blk_cell BK409.out 3).trans rfl, (blk_cell BK409.out 4).trans rfl, (blk_sel5I0 BK409.out rfl rfl rfl rfl rfl (of_eq_true pz78) (of_eq_true qz78))⟩ (fun hHeld => ?_)
                                    clear hK K
                                    refine norm_ (a' := ?_) ?_ ?_
                                    rotate_left
                                    · show Act.put _ (some 15) _ = _
                                      simp only [Act.put, List.setIfInBounds_toArray, List.set_cons_zero, List.set_cons_succ, i64_w, i32_w]
                                      rfl
                                    refine one_ (i := 8) (N := some 115) #[true, true, true, true, true, true, true, true, true, false, false, false, true, false, false] rfl rfl (one_of HT_.out (by kernel_rfl)) (by decide) (fun K hK => ?_)
                                    refine goes_ Try.func15 (by kernel_rfl) rfl #[.agg #[.int .i64 x412000_4, .slice Ao76 x412001_4.length co76], .int .i64 (sel5I a0_0 a0_1 a0_2 a0_3 a0_4 x14_4), .int .i64 (wrap64 ((wrap64 (a1 + 4)) + x14_4))] (by rfl) rfl rfl (by (try simp only [List.map_toArray, List.map_cons, List.map_nil]); first | done | rfl | (simp only [List.length_drop, List.length_take]; rfl)) ?_
                                    with_reducible refine (link_Detach.calls x412000_4 _ _ x412001_4 (sel5I a0_0 a0_1 a0_2 a0_3 a0_4 x14_4) (wrap64 ((wrap64 (a1 + 4)) + x14_4)) t425 t426 t429 _ ?side1 ?side2 A74.out).mono ?_
                                    (case side1 => repeat (first | exact (Kd.R_reads' HO_412001.out).2.2 | (with_reducible refine Kd.C_alloc ?_ _) | (with_reducible refine Kd.C_drewN ?_ _) | (with_reducible refine Kd.C_drew ?_)))
                                    (case side2 => exact (Kd.R_reads' HO_412001.out).2.1)
                                    rintro e w80 ⟨v427, rfl, ho0, hb⟩
                                    refine ⟨_, rfl, ?_⟩
                                    have n0_ := Aside0.mk (Kd.R_elder' (by (with_reducible repeat (first | apply Kd.R_alloc | apply Kd.R_drewN | apply Kd.R_drew)); exact HO_412001.out) (Kd.R_base ho0) hb)
                                    have n1_ := Aside0.mk (Kd.R_elder' (by (with_reducible repeat (first | apply Kd.R_alloc | apply Kd.R_drewN | apply Kd.R_drew)); exact HO_425001.out) (Kd.R_base ho0) hb)
                                    have n2_ := Aside0.mk (Kd.R_lower (Kd.R_new' (Kd.R_new' ho0 (Kd.R_lt (by (with_reducible repeat (first | apply Kd.R_alloc | apply Kd.R_drewN | apply Kd.R_drew)); exact HO_412001.out))) (Kd.R_lt (by (with_reducible repeat (first | apply Kd.R_alloc | apply Kd.R_drewN | apply Kd.R_drew)); exact HO_425001.out))) (below_size (by repeat (first | (with_reducible first | exact HB.out | apply below_alloc | apply pw_below_drewN | apply below_drew1 | refine below_set ?_ GE409.out | refine below_set ?_ GE411.out | refine below_set ?_ GE424.out | refine below_set ?_ GE430.out) | exact HB.out))))
                                    have n3_ := Aside0.mk (blk_below (g := gb409) (o := .cells #[.int .i64 a0_0, .int .i64 a0_1, .int .i64 a0_2, .int .i64 a0_3, .int .i64 a0_4] 41 (0, 0)) (by (with_reducible repeat (first | refine blk_drewN ?_ _ | refine blk_drew ?_ | refine blk_alloc ?_ _)); exact BK409.out) hb)
                                    have n4_ := Aside0.mk (blk_below (g := gb411) (o := .cells #[.int .i64 x412000_4, .slice Ao76 x412001_4.length co76] 24 (0, 0)) (by (with_reducible repeat (first | refine blk_drewN ?_ _ | refine blk_drew ?_ | refine blk_alloc ?_ _)); exact BK411.out) hb)
                                    have n5_ := Aside0.mk (blk_below (g := gb424) (o := .cells #[.int .i64 t419, .slice Ao66 t420.length co66] 24 (0, 0)) (by (with_reducible repeat (first | refine blk_drewN ?_ _ | refine blk_drew ?_ | refine blk_alloc ?_ _)); exact BK424.out) hb)
                                    have n6_ := Aside0.mk (blk_below (g := gb430) (o := .cells #[.int .i64 0, .slice none 0 0] 24 (0, 0)) (by (with_reducible repeat (first | refine blk_drewN ?_ _ | refine blk_drew ?_ | refine blk_alloc ?_ _)); exact BK430.out) hb)
                                    have n7_ := Aside0.mk (below_step (by repeat (first | (with_reducible first | exact HB.out | apply below_alloc | apply pw_below_drewN | apply below_drew1 | refine below_set ?_ GE409.out | refine below_set ?_ GE411.out | refine below_set ?_ GE424.out | refine below_set ?_ GE430.out) | exact HB.out)) hb)
                                    clear HO_412001
                                    clear HO_425001
                                    clear BK409
                                    clear BK411
                                    clear BK424
                                    clear BK430
                                    clear HB
                                    have HO_412001 := n0_
                                    have HO_425001 := n1_
                                    have HO428 := n2_
                                    have BK409 := n3_
                                    have BK411 := n4_
                                    have BK424 := n5_
                                    have BK430 := n6_
                                    have HB := n7_
                                    clear n0_ n1_ n2_ n3_ n4_ n5_ n6_ n7_
                                    (try clear hb)
                                    (try clear hb2)
                                    (try clear hk)
                                    (try clear hi)
                                    (try clear ho0)
                                    refine hK.out _ _ ⟨(blk_cell BK411.out 0).trans rfl, (blk_cell BK411.out 1).trans rfl, (blk_cell BK409.out 0).trans rfl, (blk_cell BK409.out 1).trans rfl, (blk_cell BK409.out 2).trans rfl, (blk_cell BK409.out 3).trans rfl, (blk_cell BK409.out 4).trans rfl, (blk_sel5I0 BK409.out rfl rfl rfl rfl rfl (of_eq_true pz78) (of_eq_true qz78))⟩ (fun hHeld => ?_)
                                    clear hK K
                                    refine norm_ (a' := ?_) ?_ ?_
                                    rotate_left
                                    · show Act.put _ (some 115) _ = _
                                      simp only [Act.put, List.setIfInBounds_toArray, List.set_cons_zero, List.set_cons_succ, i64_w, i32_w]
                                      rfl
                                    refine pure_ (i := 9) (N := some 106) (v := ?_) (a' := ?_) #[true, true, true, true, true, true, true, true, true, true, false, false, true, false, false] rfl rfl (any_of HT_.out (by kernel_rfl)) (fun _ _ _ h => h) (Or.inl ⟨by rfl, ?_⟩) ?_ ?_
                                    rotate_left
                                    · intro w'
                                      go_simp
                                      with_reducible rfl
                                    rotate_left
                                    · simp only [Act.put, List.setIfInBounds_toArray, List.set_cons_zero, List.set_cons_succ, i64_w, i32_w]
                                      rfl
                                    refine pure_ (i := 10) (N := some 116) (v := ?_) (a' := ?_) #[true, true, true, true, true, true, true, true, true, true, true, false, true, false, false] rfl rfl (any_of HT_.out (by kernel_rfl)) (fun _ _ _ h => h) (Or.inl ⟨by rfl, ?_⟩) ?_ ?_
                                    rotate_left
                                    · intro w'
                                      go_simp
                                      with_reducible rfl
                                    rotate_left
                                    · simp only [Act.put, List.setIfInBounds_toArray, List.set_cons_zero, List.set_cons_succ, i64_w, i32_w]
                                      rfl
                                    refine pure_ (i := 11) (N := some 117) (v := ?_) (a' := ?_) #[true, true, true, true, true, true, true, true, true, true, true, true, true, false, false] rfl rfl (any_of HT_.out (by kernel_rfl)) (fun _ _ _ h => h) (Or.inl ⟨by rfl, ?_⟩) ?_ ?_
                                    rotate_left
                                    · intro w'
                                      go_simp
                                      with_reducible rfl
                                    rotate_left
                                    · simp only [Act.put, List.setIfInBounds_toArray, List.set_cons_zero, List.set_cons_succ, i64_w, i32_w]
                                      rfl
                                    exact norm_ (by simp only [putAll, Act.put, List.setIfInBounds_toArray, List.set_cons_zero, List.set_cons_succ]) (hCont (v427, gb430) _ ⟨hHeld, (by (with_reducible repeat (first | apply Kd.R_alloc | apply Kd.R_drewN | apply Kd.R_drew)); exact Kd.R_mono HO428.out (fun _ hk => ⟨hk.1.2, hk.2⟩)), (by (with_reducible repeat (first | apply Kd.R_alloc | apply Kd.R_drewN | apply Kd.R_drew)); exact Kd.R_mono HO_412001.out (fun _ hk => ⟨hk.2, hk.1⟩)), (by (with_reducible repeat (first | apply Kd.R_alloc | apply Kd.R_drewN | apply Kd.R_drew)); exact Kd.R_mono HO_425001.out (fun _ hk => ⟨hk.2, hk.1⟩)), (by (with_reducible repeat (first | refine blk_drewN ?_ _ | refine blk_drew ?_ | refine blk_alloc ?_ _)); exact BK409.out), (by (with_reducible repeat (first | refine blk_drewN ?_ _ | refine blk_drew ?_ | refine blk_alloc ?_ _)); exact BK411.out), (by (with_reducible repeat (first | refine blk_drewN ?_ _ | refine blk_drew ?_ | refine blk_alloc ?_ _)); exact BK424.out), (by (with_reducible repeat (first | refine blk_drewN ?_ _ | refine blk_drew ?_ | refine blk_alloc ?_ _)); exact BK430.out), GW430.out, GE430.out, NB409_430.out, NB430_409.out, NB411_430.out, NB430_411.out, NB424_430.out, NB430_424.out, (by repeat (first | (with_reducible first | exact HB.out | apply below_alloc | apply pw_below_drewN | apply below_drew1 | refine below_set ?_ GE409.out | refine below_set ?_ GE411.out | refine below_set ?_ GE424.out | refine below_set ?_ GE430.out) | exact HB.out))⟩)
                                rintro ⟨v427, gb430⟩ w81 ⟨hS_, h0_, h1_, h2_, h3_, h4_, h5_, h6_, h7_, h8_, h9_, h10_, h11_, h12_, h13_, h14_, h15_⟩
                                have n0_ : Aside0 (Kd.R k26 26 w81 w.heap.size (fun k_ => some k_ ≠ (.slice Ao76 x412001_4.length co76 : Value).ownBlock ∧ some k_ ≠ (.slice Ao66 t420.length co66 : Value).ownBlock) v427 t426) := ⟨h0_⟩
                                have n1_ : Aside0 (Kd.R k26 26 w81 w.heap.size (fun k_ => some k_ ≠ (v427 : Value).ownBlock ∧ some k_ ≠ (.slice Ao66 t420.length co66 : Value).ownBlock) (.slice Ao76 x412001_4.length co76) x412001_4) := ⟨h1_⟩
                                have n2_ : Aside0 (Kd.R k26 26 w81 w.heap.size (fun k_ => some k_ ≠ (v427 : Value).ownBlock ∧ some k_ ≠ (.slice Ao76 x412001_4.length co76 : Value).ownBlock) (.slice Ao66 t420.length co66) t420) := ⟨h2_⟩
                                have n3_ : Aside0 (w81.heap[gb409]? = some (.cells #[.int .i64 a0_0, .int .i64 a0_1, .int .i64 a0_2, .int .i64 a0_3, .int .i64 a0_4] 41 (0, 0))) := ⟨h3_⟩
                                have n4_ : Aside0 (w81.heap[gb411]? = some (.cells #[.int .i64 x412000_4, .slice Ao76 x412001_4.length co76] 24 (0, 0))) := ⟨h4_⟩
                                have n5_ : Aside0 (w81.heap[gb424]? = some (.cells #[.int .i64 t419, .slice Ao66 t420.length co66] 24 (0, 0))) := ⟨h5_⟩
                                have n6_ : Aside0 (w81.heap[gb430]? = some (.cells #[.int .i64 0, .slice none 0 0] 24 (0, 0))) := ⟨h6_⟩
                                have n7_ : Aside0 (w.heap.size ≤ gb430) := ⟨h7_⟩
                                have n8_ : Aside0 (w.heap.size ≤ gb430) := ⟨h8_⟩
                                have n9_ : Aside0 (gb409 ≠ gb430) := ⟨h9_⟩
                                have n10_ : Aside0 (gb430 ≠ gb409) := ⟨h10_⟩
                                have n11_ : Aside0 (gb411 ≠ gb430) := ⟨h11_⟩
                                have n12_ : Aside0 (gb430 ≠ gb411) := ⟨h12_⟩
                                have n13_ : Aside0 (gb424 ≠ gb430) := ⟨h13_⟩
                                have n14_ : Aside0 (gb430 ≠ gb424) := ⟨h14_⟩
                                have n15_ : Aside0 (Below w.heap.size w w81) := ⟨h15_⟩
                                clear HO_412001
                                clear HO_425001
                                clear BK409
                                clear BK411
                                clear BK424
                                clear HB
                                clear h0_ h1_ h2_ h3_ h4_ h5_ h6_ h7_ h8_ h9_ h10_ h11_ h12_ h13_ h14_ h15_
                                have HO428 := n0_
                                have HO_412001 := n1_
                                have HO_425001 := n2_
                                have BK409 := n3_
                                have BK411 := n4_
                                have BK424 := n5_
                                have BK430 := n6_
                                have GW430 := n7_
                                have GE430 := n8_
                                have NB409_430 := n9_
                                have NB430_409 := n10_
                                have NB411_430 := n11_
                                have NB430_411 := n12_
                                have NB424_430 := n13_
                                have NB430_424 := n14_
                                have HB := n15_
                                clear n0_ n1_ n2_ n3_ n4_ n5_ n6_ n7_ n8_ n9_ n10_ n11_ n12_ n13_ n14_ n15_
                                have hHeld : w81.cell? ⟨gb411, 0, none⟩ = some (.int .i64 x412000_4) ∧ w81.cell? ⟨gb411, 1, none⟩ = some (.slice Ao76 x412001_4.length co76) ∧ w81.cell? ⟨gb409, 0, none⟩ = some (.int .i64 a0_0) ∧ w81.cell? ⟨gb409, 1, none⟩ = some (.int .i64 a0_1) ∧ w81.cell? ⟨gb409, 2, none⟩ = some (.int .i64 a0_2) ∧ w81.cell? ⟨gb409, 3, none⟩ = some (.int .i64 a0_3) ∧ w81.cell? ⟨gb409, 4, none⟩ = some (.int .i64 a0_4) ∧ w81.cell? ⟨gb409, (x14_4).toNat, none⟩ = some (.int .i64 (sel5I a0_0 a0_1 a0_2 a0_3 a0_4 x14_4)) := hS_
                                obtain ⟨Ao83, co83, eo83⟩ := Kd.R_slice HO428.out
                                (first | subst eo83 | (injection eo83 with f1_ f2_ f3_; have f4_ := f1_.symm; have f5_ := f3_.symm; clear f1_ f2_ f3_; subst f4_; subst f5_))
                                refine norm_ (a' := ?_) ?_ ?_
                                rotate_left
                                · simp only [putAll, Act.put, List.setIfInBounds_toArray, List.set_cons_zero, List.set_cons_succ]
                                  rfl
                                refine one_ (i := 13) (N := none) #[true, true, true, true, true, true, true, true, true, true, true, true, true, true, false] rfl rfl (one_of HT_.out (by kernel_rfl)) (by decide) (fun K hK => ?_)
                                have hs82 : w81.cell? ⟨gb430, 0, none⟩ = some (.int .i64 0) := (blk_cell BK430.out 0).trans rfl
                                have hfs82 := blk_frozen BK430.out 0
                                have hns82_0 := NB409_430.out
                                have hns82_1 := NB411_430.out
                                have hns82_2 := NB424_430.out
                                have hms82_0 := NB430_409.out
                                have hms82_1 := NB430_411.out
                                have hms82_2 := NB430_424.out
                                have hs84 : w81.cell? ⟨gb430, 1, none⟩ = some (.slice none 0 0) := (blk_cell BK430.out 1).trans rfl
                                have hfs84 := blk_frozen BK430.out 1
                                have hns84_0 := NB409_430.out
                                have hns84_1 := NB411_430.out
                                have hns84_2 := NB424_430.out
                                have hms84_0 := NB430_409.out
                                have hms84_1 := NB430_411.out
                                have hms84_2 := NB430_424.out
                                refine skip_ (w1 := ?_) (by rfl) rfl ?_ ?_
                                rotate_left
                                · go_simp
                                  rfl
                                refine hK.out _ _ ⟨((cell_far (p := ⟨gb430, _, none⟩) NB411_430.out _).trans (((cell_far (p := ⟨gb430, _, none⟩) NB411_430.out _).trans (hHeld.1)))), ((cell_far (p := ⟨gb430, _, none⟩) NB411_430.out _).trans (((cell_far (p := ⟨gb430, _, none⟩) NB411_430.out _).trans (hHeld.2.1)))), ((cell_far (p := ⟨gb430, _, none⟩) NB409_430.out _).trans (((cell_far (p := ⟨gb430, _, none⟩) NB409_430.out _).trans (hHeld.2.2.1)))), ((cell_far (p := ⟨gb430, _, none⟩) NB409_430.out _).trans (((cell_far (p := ⟨gb430, _, none⟩) NB409_430.out _).trans (hHeld.2.2.2.1)))), ((cell_far (p := ⟨gb430, _, none⟩) NB409_430.out _).trans (((cell_far (p := ⟨gb430, _, none⟩) NB409_430.out _).trans (hHeld.2.2.2.2.1)))), ((cell_far (p := ⟨gb430, _, none⟩) NB409_430.out _).trans (((cell_far (p := ⟨gb430, _, none⟩) NB409_430.out _).trans (hHeld.2.2.2.2.2.1)))), ((cell_far (p := ⟨gb430, _, none⟩) NB409_430.out _).trans (((cell_far (p := ⟨gb430, _, none⟩) NB409_430.out _).trans (hHeld.2.2.2.2.2.2.1)))), ((cell_far (p := ⟨gb430, _, none⟩) NB409_430.out _).trans (((cell_far (p := ⟨gb430, _, none⟩) NB409_430.out _).trans (hHeld.2.2.2.2.2.2.2))))⟩ (fun hHeld => ?_)
                                clear hK K
                                refine pure_ (i := 14) (N := some 16) (v := ?_) (a' := ?_) #[true, true, true, true, true, true, true, true, true, true, true, true, true, true, true] rfl rfl (any_of HT_.out (by kernel_rfl)) (fun _ _ _ h => h) (Or.inl ⟨by rfl, ?_⟩) ?_ ?_
                                rotate_left
                                · intro w'
                                  go_simp
                                  with_reducible rfl
                                rotate_left
                                · simp only [Act.put, List.setIfInBounds_toArray, List.set_cons_zero, List.set_cons_succ, i64_w, i32_w]
                                  rfl
                                refine done_ (done_of HT_.out (by kernel_rfl)) ?_
                                have hnb85 := NB430_409.out
                                have hnc85 := NB409_430.out
                                have hnb86 := NB430_411.out
                                have hnc86 := NB411_430.out
                                have hnb87 := NB430_424.out
                                have hnc87 := NB424_430.out
                                have hcz88_0 : w81.cell? ⟨gb430, 0, none⟩ = some (.int .i64 0) := (blk_cell BK430.out 0).trans rfl
                                have hcz88_1 : w81.cell? ⟨gb430, 1, none⟩ = some (.slice none 0 0) := (blk_cell BK430.out 1).trans rfl
                                have hfz88_0 := blk_frozen BK430.out 0
                                have hfz88_1 := blk_frozen BK430.out 1
                                have hnb89 := NB411_409.out
                                have hnc89 := NB409_411.out
                                have hnb90 := NB411_424.out
                                have hnc90 := NB424_411.out
                                have hcz91_0 : w81.cell? ⟨gb411, 0, none⟩ = some (.int .i64 x412000_4) := (blk_cell BK411.out 0).trans rfl
                                have hcz91_1 : w81.cell? ⟨gb411, 1, none⟩ = some (.slice Ao76 x412001_4.length co76) := (blk_cell BK411.out 1).trans rfl
                                have hfz91_0 := blk_frozen BK411.out 0
                                have hfz91_1 := blk_frozen BK411.out 1
                                try go_wp2
                                go_roundg k4
                                case measure => have := HK1.out; have := HJ30.out; have := HK3.out; have := HK4.out; omega
                                case rel => exact ⟨(wrap64 (x14_4 + 1)), (t425), (t426), (.slice Ao83 t426.length co83), (by first | rfl | (simp; done) | (simp [*]; done) | (simp [*]; unfold wrap64; omega)), H', ⟨by have := HK1.out; have := HJ30.out; have := HK3.out; have := HK4.out; omega⟩, ⟨by (with_reducible repeat (first | apply Kd.R_alloc | apply Kd.R_drewN | apply Kd.R_drew)); exact Kd.R_mono (Kd.R_far (p := ⟨gb411, 1, none⟩) (Kd.R_far (p := ⟨gb411, 0, none⟩) (Kd.R_far (p := ⟨gb430, 1, none⟩) (Kd.R_far (p := ⟨gb430, 0, none⟩) (Kd.R_types (Kd.R_types HO428.out BK430.out (by decide)) BK411.out (by decide)) (fun _ hk => hk.1.2) (.int .i64 t425)) (fun _ hk => hk.1.2) (.slice Ao83 t426.length co83)) (fun _ hk => hk.2) (.int .i64 t425)) (fun _ hk => hk.2) (.slice Ao83 t426.length co83)) (fun _ hk => hk.1.1.2)⟩, ⟨by (with_reducible repeat (first | apply Kd.R_alloc | apply Kd.R_drewN | apply Kd.R_drew)); exact Kd.R_mono (Kd.R_far (p := ⟨gb411, 1, none⟩) (Kd.R_far (p := ⟨gb411, 0, none⟩) (Kd.R_far (p := ⟨gb430, 1, none⟩) (Kd.R_far (p := ⟨gb430, 0, none⟩) (Kd.R_types (Kd.R_types HO_425001.out BK430.out (by decide)) BK411.out (by decide)) (fun _ hk => hk.1.2) (.int .i64 t425)) (fun _ hk => hk.1.2) (.slice Ao83 t426.length co83)) (fun _ hk => hk.2) (.int .i64 t425)) (fun _ hk => hk.2) (.slice Ao83 t426.length co83)) (fun _ hk => hk.1.1.1)⟩, ⟨by (with_reducible repeat (first | refine blk_drewN ?_ _ | refine blk_drew ?_ | refine blk_alloc ?_ _)); refine blk_far ?_ NB409_411.out _; (with_reducible repeat (first | refine blk_drewN ?_ _ | refine blk_drew ?_ | refine blk_alloc ?_ _)); refine blk_far ?_ NB409_411.out _; (with_reducible repeat (first | refine blk_drewN ?_ _ | refine blk_drew ?_ | refine blk_alloc ?_ _)); refine blk_far ?_ NB409_430.out _; (with_reducible repeat (first | refine blk_drewN ?_ _ | refine blk_drew ?_ | refine blk_alloc ?_ _)); refine blk_far ?_ NB409_430.out _; (with_reducible repeat (first | refine blk_drewN ?_ _ | refine blk_drew ?_ | refine blk_alloc ?_ _)); exact BK409.out⟩, ⟨by (with_reducible repeat (first | refine blk_drewN ?_ _ | refine blk_drew ?_ | refine blk_alloc ?_ _)); refine blk_put (cs := #[.int .i64 t425, .slice Ao76 x412001_4.length co76]) ?_ 1 _ rfl; (with_reducible repeat (first | refine blk_drewN ?_ _ | refine blk_drew ?_ | refine blk_alloc ?_ _)); refine blk_put (cs := #[.int .i64 x412000_4, .slice Ao76 x412001_4.length co76]) ?_ 0 _ rfl; (with_reducible repeat (first | refine blk_drewN ?_ _ | refine blk_drew ?_ | refine blk_alloc ?_ _)); refine blk_far ?_ NB411_430.out _; (with_reducible repeat (first | refine blk_drewN ?_ _ | refine blk_drew ?_ | refine blk_alloc ?_ _)); refine blk_far ?_ NB411_430.out _; (with_reducible repeat (first | refine blk_drewN ?_ _ | refine blk_drew ?_ | refine blk_alloc ?_ _)); exact BK411.out⟩, ⟨by (with_reducible repeat (first | refine blk_drewN ?_ _ | refine blk_drew ?_ | refine blk_alloc ?_ _)); refine blk_far ?_ NB424_411.out _; (with_reducible repeat (first | refine blk_drewN ?_ _ | refine blk_drew ?_ | refine blk_alloc ?_ _)); refine blk_far ?_ NB424_411.out _; (with_reducible repeat (first | refine blk_drewN ?_ _ | refine blk_drew ?_ | refine blk_alloc ?_ _)); refine blk_far ?_ NB424_430.out _; (with_reducible repeat (first | refine blk_drewN ?_ _ | refine blk_drew ?_ | refine blk_alloc ?_ _)); refine blk_far ?_ NB424_430.out _; (with_reducible repeat (first | refine blk_drewN ?_ _ | refine blk_drew ?_ | refine blk_alloc ?_ _)); exact BK424.out⟩, ⟨by repeat (first | (with_reducible first | exact HB.out | apply below_alloc | apply pw_below_drewN | apply below_drew1 | refine below_set ?_ GE409.out | refine below_set ?_ GE411.out | refine below_set ?_ GE424.out | refine below_set ?_ GE430.out) | exact HB.out)⟩⟩
                              · rw [if_neg c75] at H
                                exact absurd H (by simp)
                            · rw [if_neg c73] at H
                              exact absurd H (by simp)
                          · rw [if_neg c72] at H
                            exact absurd H (by simp)
                        · rw [if_neg c71] at H
                          have c71b0 : decide (x14_4 < 4) = false := decide_eq_false c71
                          clear c71
                          by_cases c92 : t423 = 4
                          · rw [if_pos c92] at H
                            have c92b0 : (t423 == 4) = true := beq_iff_eq.mpr c92
                            have c92b1 : (t423 != 4) = false := bne_eq_false_iff_eq.mpr c92
                            clear c92
                            by_cases c93 : (x412001_4.length : Int) = 0
                            · rw [if_pos c93] at H
                              have c93b0 : ((x412001_4.length : Int) == 0) = true := beq_iff_eq.mpr c93
                              have c93b1 : ((x412001_4.length : Int) != 0) = false := bne_eq_false_iff_eq.mpr c93
                              clear c93
                              obtain rfl := Option.some.inj H
                              have hnb94 := NB411_409.out
                              have hnc94 := NB409_411.out
                              have hnb95 := NB411_424.out
                              have hnc95 := NB424_411.out
                              have hcz96_0 : wr.cell? ⟨gb411, 0, none⟩ = some (.int .i64 x412000_4) := (blk_cell BK411.out 0).trans rfl
                              have hcz96_1 : wr.cell? ⟨gb411, 1, none⟩ = some (u412001) := (blk_cell BK411.out 1).trans rfl
                              have hfz96_0 := blk_frozen BK411.out 0
                              have hfz96_1 := blk_frozen BK411.out 1
                              obtain ⟨Ao97, co97, eo97⟩ := Kd.R_slice HO_412001.out
                              subst eo97
                              go_wp2
                              go_ret
                              exact ⟨by first | rfl | (simp [errW_none, errW_some] <;> rfl) | (simp [*, errW_none, errW_some] <;> rfl), by repeat (first | (with_reducible first | exact HB.out | apply below_alloc | apply pw_below_drewN | apply below_drew1 | refine below_set ?_ GE409.out | refine below_set ?_ GE411.out | refine below_set ?_ GE424.out) | exact HB.out)⟩
                            · rw [if_neg c93] at H
                              exact absurd H (by simp)
                          · rw [if_neg c92] at H
                            exact absurd H (by simp)

end Go.Proofs.Ytoehingbhmaidaa.P
