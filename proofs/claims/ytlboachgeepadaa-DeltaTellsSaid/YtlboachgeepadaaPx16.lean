-- Written by a program of this session over the kit's print of the translation. Lean checks it.
import Derived.Test.YtlboachgeepadaaPx0
import Derived.Test.YtlboachgeepadaaPx6
import Derived.Test.YtlboachgeepadaaPx15
-- shorter
namespace Go.Proofs.Ytlboachgeepadaa.P
open Go.RowKit Go.Proofs.YtlboachgeepadaaW.PrintWords Go.Proofs.YtlboachgeepadaaW.PrintLast Go.Proofs.YtlboachgeepadaaW.PrintMore
attribute [local go_sem] max2_int min2_int max_two min_two max_three min_three max_four min_four   -- for this text's walks alone
set_option linter.unusedVariables false
set_option linter.unusedSimpArgs false

/-! ### drydockref19_Note: function 15 -/
def drydockref19_Note.j0 : Nat → Int → Bool → List Int → Bool → List Int → Bool → Option (List Int × Bool)
  | 0, _, _, _, _, _, _ => none
  | k + 1, x1, x22, x252000, x252001, x257000, x257001 => if x22 = true then (some (x257000, x257001)) else (if (x252000.length : Int) ≥ 8 then (some (x257000, true)) else (if x257000.length < 35184372088832 then (some ((x257000 ++ [x1]), x257001)) else (none)))
def drydockref19_Note.f (k : Nat) (l0_0 : List Int) (a0_1 : Bool) (a1 : Int) : Option (List Int × Bool) := if ([] : List Int).length + l0_0.length < 35184372088832 then ((some (([] : List Int) ++ l0_0 : List Int)).bind fun y253 => ((drydockref19_May.f k l0_0 a0_1).bind fun t257 => (if t257 = true then ((drydockref19_Has.f k l0_0 a1).bind fun t258 => (drydockref19_Note.j0 k a1 t258 l0_0 a0_1 y253 a0_1)) else (drydockref19_Note.j0 k a1 true l0_0 a0_1 y253 a0_1)))) else (none)
theorem drydockref19_Note.mono_l : ∀ k, (∀ y0 y1 y2 y3 y4 y5, LeO (drydockref19_Note.j0 k y0 y1 y2 y3 y4 y5) (drydockref19_Note.j0 (k + 1) y0 y1 y2 y3 y4 y5))
  | 0 => fun _ _ _ _ _ _ r h => by simp [drydockref19_Note.j0] at h
  | k + 1 => by
    have ih0 := drydockref19_Note.mono_l k
    · intro y0 y1 y2 y3 y4 y5
      unfold drydockref19_Note.j0
      repeat' first
      | (with_reducible exact ih0 _ _ _ _ _ _)
      | (with_reducible exact drydockref19_Has.mono _ _ _)
      | (with_reducible exact drydockref19_May.mono _ _ _)
      | (with_reducible exact LeO.refl _)
      | (with_reducible exact LeO.none _)
      | (with_reducible refine LeO.ite ?_ ?_)
      | (with_reducible refine LeO.bind ?_ (fun _ => ?_))
      | exact ih0 _ _ _ _ _ _
      | exact drydockref19_Has.mono _ _ _
      | exact drydockref19_May.mono _ _ _
      | exact LeO.none _
      | refine LeO.ite ?_ ?_
      | refine LeO.bind ?_ (fun _ => ?_)
theorem drydockref19_Note.mono : ∀ a0 a1 a2 k, LeO (drydockref19_Note.f k a0 a1 a2) (drydockref19_Note.f (k + 1) a0 a1 a2) := by
 intro a0 a1 a2 k
 have ih0 := drydockref19_Note.mono_l k
 unfold drydockref19_Note.f
 repeat' first
  | (with_reducible exact ih0 _ _ _ _ _ _)
  | (with_reducible exact drydockref19_Has.mono _ _ _)
  | (with_reducible exact drydockref19_May.mono _ _ _)
  | (with_reducible exact LeO.refl _)
  | (with_reducible exact LeO.none _)
  | (with_reducible refine LeO.ite ?_ ?_)
  | (with_reducible refine LeO.bind ?_ (fun _ => ?_))
  | exact ih0 _ _ _ _ _ _
  | exact drydockref19_Has.mono _ _ _
  | exact drydockref19_May.mono _ _ _
  | exact LeO.none _
  | refine LeO.ite ?_ ?_
  | refine LeO.bind ?_ (fun _ => ?_)
def drydockref19_Note.T1 : Bool × List (List Nat × List Nat) := (true, [([], []), ([0], [0]), ([1], [1]), ([], []), ([3], [3]), ([2, 4], [2, 4]), ([], []), ([6, 5, 2, 0, 1, 2, 3, 4, 5, 6], [5, 6])])
def drydockref19_Note.B1 : List Nat := [0, 1, 3, 0, 8, 31, 0, 127]
theorem drydockref19_Note.tab1 : rtab .any (opsOf Try.f15 1) = drydockref19_Note.T1 := by kernel_rfl
theorem drydockref19_Note.bits1 : waitsOk drydockref19_Note.T1.2 drydockref19_Note.B1 = true := by kernel_rfl
set_option maxHeartbeats 8000000 in
set_option maxRecDepth 100000 in
theorem drydockref19_Note.calls (k : Nat) (A0_0 : Option Addr) (c0_0 : Nat) (l0_0 : List Int) (a0_1 : Bool) (a1 : Int) (r1 : List Int) (r2 : Bool) (w : World) (hr0_0 : Kd.C (Kd.int .u32) w A0_0 l0_0.length l0_0) (hc0_0 : l0_0.length ≤ c0_0) (h : drydockref19_Note.f k l0_0 a0_1 a1 = some (r1, r2)) :
    Calls Try.prog 15 #[.agg #[.slice A0_0 l0_0.length c0_0, .bool a0_1], .int .u32 a1] w fun e w' => ∃ v0_ : Value, e = .returned (.agg #[v0_, .bool r2]) ∧ Kd.R (Kd.int .u32) 27 w' w.heap.size (fun _ => True) v0_ r1 ∧ Below w.heap.size w w' := by
 have hu25 := Try.underlying25
 have HR0_0 := Aside0.mk hr0_0
 have HC0_0 := Aside0.mk hc0_0
 clear hr0_0 hc0_0
 have HB := Aside0.mk (Below.refl w.heap.size w)
 have H : (if ([] : List Int).length + l0_0.length < 35184372088832 then ((some (([] : List Int) ++ l0_0 : List Int)).bind fun y253 => ((drydockref19_May.f k l0_0 a0_1).bind fun t257 => (if t257 = true then ((drydockref19_Has.f k l0_0 a1).bind fun t258 => (drydockref19_Note.j0 k a1 t258 l0_0 a0_1 y253 a0_1)) else (drydockref19_Note.j0 k a1 true l0_0 a0_1 y253 a0_1)))) else (none)) = some (r1, r2) := h
 clear h
 by_cases c3 : ([] : List Int).length + l0_0.length < 35184372088832
 ·rw [if_pos c3] at H
  have LMc3 := Aside0.mk c3
  clear c3
  obtain ⟨y253, hy253⟩ : ∃ y_ : List Int, y_ = (([] : List Int) ++ l0_0) := ⟨_, rfl⟩
  replace H : ((drydockref19_May.f k l0_0 a0_1).bind fun t257 => (if t257 = true then ((drydockref19_Has.f k l0_0 a1).bind fun t258 => (drydockref19_Note.j0 k a1 t258 l0_0 a0_1 y253 a0_1)) else (drydockref19_Note.j0 k a1 true l0_0 a0_1 y253 a0_1))) = some (r1, r2) := by first | (rw [hy253]; with_reducible exact H) | (have H2_ := (Option.bind_some _ _).symm.trans H; rw [hy253]; with_reducible exact H2_) | (have H2_ := (Option.bind_some _ _).symm.trans H; with_reducible exact H2_) | with_reducible exact H | (rw [hy253]; exact H) | exact H
  have Ny253 := Aside0.mk hy253
  clear hy253
  replace H := Option.bind_eq_some_iff.mp H
  obtain ⟨t257, A40, H⟩ := H
  replace H : (if t257 = true then ((drydockref19_Has.f k l0_0 a1).bind fun t258 => (drydockref19_Note.j0 k a1 t258 l0_0 a0_1 y253 a0_1)) else (drydockref19_Note.j0 k a1 true l0_0 a0_1 y253 a0_1)) = some (r1, r2) := H
  have A4 := Aside0.mk A40
  clear A40
  have HC5 := Aside0.mk H
  clear H
  go_enter Try.func15, Try.ntmps15
  try go_wp2_with (first | ((with_reducible refine gate_dst (N := 2) rfl ?_); refine box_event ?hg (N := 2) ?hd (cs := #[.slice A0_0 l0_0.length c0_0, .bool a0_1]) (t := 25) ?hr ?_; (case hd => rfl); (case hg => rfl); (case hr => first | (go_simp; done) | (go_simp; rfl)); intro gb251 hg w6 hbox hb; have n0_ := Aside0.mk (below_step bs_ hb); have n1_ := Aside0.mk (hbox); have n2_ := Aside0.mk ((by rw [hg]; exact (below_size bs_) : w.heap.size ≤ gb251)); have n3_ := Aside0.mk ((by rw [hg]; exact (below_size bs_) : w.heap.size ≤ gb251)); clear HB; have HB := n0_; have BK251 := n1_; have GW251 := n2_; have GE251 := n3_; clear n0_ n1_ n2_ n3_; clear hb hbox hg) | ((with_reducible refine gate_dst (N := 4) rfl ?_); refine box_event ?hg (N := 4) ?hd (cs := #[.slice none 0 0, .bool false]) (t := 25) ?hr ?_; (case hd => rfl); (case hg => rfl); (case hr => first | (go_simp; done) | (go_simp; rfl)); intro gb252 hg w7 hbox hb; have n0_ := Aside0.mk (blk_below (bk_ BK251) hb); have n1_ := Aside0.mk (below_step bs_ hb); have n2_ := Aside0.mk (hbox); have n3_ := Aside0.mk ((by rw [hg]; exact (below_size bs_) : w.heap.size ≤ gb252)); have n4_ := Aside0.mk ((by rw [hg]; exact (below_size bs_) : w.heap.size ≤ gb252)); have n5_ := Aside0.mk ((by rw [hg]; exact Nat.ne_of_lt (blk_lt (bk_ BK251)) : gb251 ≠ gb252)); have n6_ := Aside0.mk ((by rw [hg]; exact Nat.ne_of_gt (blk_lt (bk_ BK251)) : gb252 ≠ gb251)); clear BK251 HB; have BK251 := n0_; have HB := n1_; have BK252 := n2_; have GW252 := n3_; have GE252 := n4_; have NB251_252 := n5_; have NB252_251 := n6_; clear n0_ n1_ n2_ n3_ n4_ n5_ n6_; clear hb hbox hg))
  have n0_ := Aside0.mk (blk_drew BK251.out)
  have n1_ := Aside0.mk (blk_drew BK252.out)
  have n2_ := Aside0.mk (below_drew1 HB.out)
  clear BK251
  clear BK252
  clear HB
  have BK251 := n0_
  have BK252 := n1_
  have HB := n2_
  clear n0_ n1_ n2_
  refine start_ (n := 8) (S := fun w' => w'.cell? ⟨gb251, 0, none⟩ = some (.slice A0_0 l0_0.length c0_0) ∧ w'.cell? ⟨gb251, 1, none⟩ = some (.bool a0_1)) (ds := []) #[false, false, false, false, false, false, false, false] (by kernel_rfl) rfl rfl ⟨(blk_cell BK251.out 0).trans rfl, (blk_cell BK251.out 1).trans rfl⟩ (fun hHeld => ?_); refine with_tabW drydockref19_Note.tab1 drydockref19_Note.bits1 (fun HT_ HW_ => ?_)
  generalize w7.drew = w8 at BK251 BK252 HB hHeld ⊢
  refine pv_ 0 (some 7) HT_ (h := ?_)
  refine pv_ 3 (some 10) HT_ (h := ?_)
  refine tk_ 1 (some 8) HT_ HW_ hHeld (h := ?_)
  refine tk_ 4 (some 11) HT_ HW_ hHeld (h := ?_)
  refine join_ (σ := Value × Nat) 1 #[true, true, true, true, true, true, true, false] (fun s_ => [(9, s_.1), (5, .pointer (some ⟨s_.2, 0, none⟩)), (12, .agg #[s_.1, .bool a0_1])]) (fun s_ w' => (w'.cell? ⟨gb251, 0, none⟩ = some (.slice A0_0 l0_0.length c0_0) ∧ w'.cell? ⟨gb251, 1, none⟩ = some (.bool a0_1)) ∧ (Kd.R (Kd.int .u32) 27 w' w.heap.size (fun _ => True) s_.1 y253) ∧ (w'.heap[gb251]? = some (.cells #[.slice A0_0 l0_0.length c0_0, .bool a0_1] 25 (0, 0))) ∧ (w'.heap[gb252]? = some (.cells #[.slice none 0 0, .bool false] 25 (0, 0))) ∧ (w'.heap[s_.2]? = some (.cells #[.slice none 0 0, .bool false] 25 (0, 0))) ∧ (w.heap.size ≤ s_.2) ∧ (w.heap.size ≤ s_.2) ∧ (gb251 ≠ s_.2) ∧ (s_.2 ≠ gb251) ∧ (gb252 ≠ s_.2) ∧ (s_.2 ≠ gb252) ∧ (Below w.heap.size w w')) ?_ ?_
  rotate_left
  ·intro hCont
   refine two_ (i := 2) (j := 6) (Ni := some 9) (Nj := some 5) #[true, true, true, true, true, false, false, false] #[true, true, false, true, true, false, true, false] rfl rfl rfl rfl (two_of HT_.out (by kernel_rfl)) (by decide) (by decide) (fun K hK => ?_) (fun K hK => ?_)
   ·skip
    refine Kd.R_append_rows_step (Kd.int .u32) (w0 := w) w.heap.size rfl (.const (.slice none 0 0)) (.tmp 8) 22 27 (.int .u32 0) 4 rfl Try.underlying22 info27 rfl (by decide) (by omega) (.slice none 0 0) ([] : List Int) l0_0 _ _ _ (fun _ => True) (fun _ => False) rfl rfl ?aO ?aR (fun _ _ h => h) (fun _ h => h.elim) ?aF ?aB ?aS ?aL ?_
    (case aR => repeat (first | exact (Kd.C_below HR0_0.out HB.out) | (with_reducible refine Kd.C_alloc ?_ _) | (with_reducible refine Kd.C_drewN ?_ _) | (with_reducible refine Kd.C_drew ?_)))
    (case aB => exact bs_)
    (case aF => exact (fun _ _ => trivial))
    (case aO => exact ((Kd.R_nil _ _ _ _ (fun _ => True))))
    (case aS => exact (below_size bs_))
    (case aL => have := LMc3.out; omega)
    intro v254 w9 ho hb hg hat
    rw [← Ny253.out] at ho
    have n0_ := Aside0.mk (blk_grown (g := gb251) (o := .cells #[.slice A0_0 l0_0.length c0_0, .bool a0_1] 25 (0, 0)) (by (with_reducible repeat (first | refine blk_drewN ?_ _ | refine blk_drew ?_ | refine blk_alloc ?_ _)); exact BK251.out) hg (by simp [Value.ownBlock]))
    have n1_ := Aside0.mk (blk_grown (g := gb252) (o := .cells #[.slice none 0 0, .bool false] 25 (0, 0)) (by (with_reducible repeat (first | refine blk_drewN ?_ _ | refine blk_drew ?_ | refine blk_alloc ?_ _)); exact BK252.out) hg (by simp [Value.ownBlock]))
    have n2_ := Aside0.mk (hb)
    have n3_ := Aside0.mk (ho)
    clear BK251
    clear BK252
    clear HB
    have BK251 := n0_
    have BK252 := n1_
    have HB := n2_
    have HO255 := n3_
    clear n0_ n1_ n2_ n3_
    clear ho hb hg hat
    obtain ⟨Ao10, co10, eo10⟩ := Kd.R_slice HO255.out
    (first | subst eo10 | (injection eo10 with f1_ f2_ f3_; have f4_ := f1_.symm; have f5_ := f3_.symm; clear f1_ f2_ f3_; subst f4_; subst f5_))
    refine hK.out _ _ ⟨(blk_cell BK251.out 0).trans rfl, (blk_cell BK251.out 1).trans rfl⟩ (fun hHeld => ?_)
    clear hK K
    refine norm_ (a' := ?_) ?_ ?_
    rotate_left
    ·show Act.put _ (some 9) _ = _
     simp only [Act.put, List.setIfInBounds_toArray, List.set_cons_zero, List.set_cons_succ, i64_w, i32_w]
     rfl
    refine pv_ 5 (some 12) HT_ (h := ?_)
    refine one_ (i := 6) (N := some 5) #[true, true, true, true, true, true, true, false] rfl rfl (one_of HT_.out (by kernel_rfl)) (by decide) (fun K hK => ?_)
    refine box_step ?hg (N := 5) ?hd (cs := #[.slice none 0 0, .bool false]) (t := 25) ?hr ?_; (case hd => rfl); (case hg => rfl); (case hr => first | (go_simp; done) | (go_simp; rfl))
    intro gb256 hg w11 hbox hb
    have n0_ := Aside0.mk (Kd.R_below (rk_ HO255) hb)
    have n1_ := Aside0.mk (blk_below (bk_ BK251) hb)
    have n2_ := Aside0.mk (blk_below (bk_ BK252) hb)
    have n3_ := Aside0.mk (below_step bs_ hb)
    have n4_ := Aside0.mk (hbox)
    have n5_ := Aside0.mk ((by rw [hg]; exact (below_size bs_) : w.heap.size ≤ gb256))
    have n6_ := Aside0.mk ((by rw [hg]; exact (below_size bs_) : w.heap.size ≤ gb256))
    have n7_ := Aside0.mk ((by rw [hg]; exact Nat.ne_of_lt (blk_lt (bk_ BK251)) : gb251 ≠ gb256))
    have n8_ := Aside0.mk ((by rw [hg]; exact Nat.ne_of_gt (blk_lt (bk_ BK251)) : gb256 ≠ gb251))
    have n9_ := Aside0.mk ((by rw [hg]; exact Nat.ne_of_lt (blk_lt (bk_ BK252)) : gb252 ≠ gb256))
    have n10_ := Aside0.mk ((by rw [hg]; exact Nat.ne_of_gt (blk_lt (bk_ BK252)) : gb256 ≠ gb252))
    clear HO255
    clear BK251
    clear BK252
    clear HB
    have HO255 := n0_
    have BK251 := n1_
    have BK252 := n2_
    have HB := n3_
    have BK256 := n4_
    have GW256 := n5_
    have GE256 := n6_
    have NB251_256 := n7_
    have NB256_251 := n8_
    have NB252_256 := n9_
    have NB256_252 := n10_
    clear n0_ n1_ n2_ n3_ n4_ n5_ n6_ n7_ n8_ n9_ n10_
    clear hb hbox hg
    refine hK.out _ _ ⟨(blk_cell BK251.out 0).trans rfl, (blk_cell BK251.out 1).trans rfl⟩ (fun hHeld => ?_)
    clear hK K
    refine norm_ (a' := ?_) ?_ ?_
    rotate_left
    ·show Act.put _ (some 5) _ = _
     simp only [Act.put, List.setIfInBounds_toArray, List.set_cons_zero, List.set_cons_succ, i64_w, i32_w]
     rfl
    exact norm_ (by simp only [putAll, Act.put, List.setIfInBounds_toArray, List.set_cons_zero, List.set_cons_succ]) (hCont (.slice Ao10 y253.length co10, gb256) _ ⟨hHeld, (rk_ HO255), (by (with_reducible repeat (first | refine blk_drewN ?_ _ | refine blk_drew ?_ | refine blk_alloc ?_ _)); exact BK251.out), (by (with_reducible repeat (first | refine blk_drewN ?_ _ | refine blk_drew ?_ | refine blk_alloc ?_ _)); exact BK252.out), (by (with_reducible repeat (first | refine blk_drewN ?_ _ | refine blk_drew ?_ | refine blk_alloc ?_ _)); exact BK256.out), GW256.out, GE256.out, NB251_256.out, NB256_251.out, NB252_256.out, NB256_252.out, bs_⟩)
   ·skip
    refine box_step ?hg (N := 5) ?hd (cs := #[.slice none 0 0, .bool false]) (t := 25) ?hr ?_; (case hd => rfl); (case hg => rfl); (case hr => first | (go_simp; done) | (go_simp; rfl))
    intro gb256 hg w9 hbox hb
    have n0_ := Aside0.mk (blk_below (bk_ BK251) hb)
    have n1_ := Aside0.mk (blk_below (bk_ BK252) hb)
    have n2_ := Aside0.mk (below_step bs_ hb)
    have n3_ := Aside0.mk (hbox)
    have n4_ := Aside0.mk ((by rw [hg]; exact (below_size bs_) : w.heap.size ≤ gb256))
    have n5_ := Aside0.mk ((by rw [hg]; exact (below_size bs_) : w.heap.size ≤ gb256))
    have n6_ := Aside0.mk ((by rw [hg]; exact Nat.ne_of_lt (blk_lt (bk_ BK251)) : gb251 ≠ gb256))
    have n7_ := Aside0.mk ((by rw [hg]; exact Nat.ne_of_gt (blk_lt (bk_ BK251)) : gb256 ≠ gb251))
    have n8_ := Aside0.mk ((by rw [hg]; exact Nat.ne_of_lt (blk_lt (bk_ BK252)) : gb252 ≠ gb256))
    have n9_ := Aside0.mk ((by rw [hg]; exact Nat.ne_of_gt (blk_lt (bk_ BK252)) : gb256 ≠ gb252))
    clear BK251
    clear BK252
    clear HB
    have BK251 := n0_
    have BK252 := n1_
    have HB := n2_
    have BK256 := n3_
    have GW256 := n4_
    have GE256 := n5_
    have NB251_256 := n6_
    have NB256_251 := n7_
    have NB252_256 := n8_
    have NB256_252 := n9_
    clear n0_ n1_ n2_ n3_ n4_ n5_ n6_ n7_ n8_ n9_
    clear hb hbox hg
    refine hK.out _ _ ⟨(blk_cell BK251.out 0).trans rfl, (blk_cell BK251.out 1).trans rfl⟩ (fun hHeld => ?_)
    clear hK K
    refine norm_ (a' := ?_) ?_ ?_
    rotate_left
    ·show Act.put _ (some 5) _ = _
     simp only [Act.put, List.setIfInBounds_toArray, List.set_cons_zero, List.set_cons_succ, i64_w, i32_w]
     rfl
    refine one_ (i := 2) (N := some 9) #[true, true, true, true, true, false, true, false] rfl rfl (one_of HT_.out (by kernel_rfl)) (by decide) (fun K hK => ?_)
    refine Kd.R_append_rows_step (Kd.int .u32) (w0 := w) w.heap.size rfl (.const (.slice none 0 0)) (.tmp 8) 22 27 (.int .u32 0) 4 rfl Try.underlying22 info27 rfl (by decide) (by omega) (.slice none 0 0) ([] : List Int) l0_0 _ _ _ (fun _ => True) (fun _ => False) rfl rfl ?aO ?aR (fun _ _ h => h) (fun _ h => h.elim) ?aF ?aB ?aS ?aL ?_
    (case aR => repeat (first | exact (Kd.C_below HR0_0.out HB.out) | (with_reducible refine Kd.C_alloc ?_ _) | (with_reducible refine Kd.C_drewN ?_ _) | (with_reducible refine Kd.C_drew ?_)))
    (case aB => exact bs_)
    (case aF => exact (fun _ _ => trivial))
    (case aO => exact ((Kd.R_nil _ _ _ _ (fun _ => True))))
    (case aS => exact (below_size bs_))
    (case aL => have := LMc3.out; omega)
    intro v254 w10 ho hb hg hat
    rw [← Ny253.out] at ho
    have n0_ := Aside0.mk (blk_grown (g := gb251) (o := .cells #[.slice A0_0 l0_0.length c0_0, .bool a0_1] 25 (0, 0)) (by (with_reducible repeat (first | refine blk_drewN ?_ _ | refine blk_drew ?_ | refine blk_alloc ?_ _)); exact BK251.out) hg (by simp [Value.ownBlock]))
    have n1_ := Aside0.mk (blk_grown (g := gb252) (o := .cells #[.slice none 0 0, .bool false] 25 (0, 0)) (by (with_reducible repeat (first | refine blk_drewN ?_ _ | refine blk_drew ?_ | refine blk_alloc ?_ _)); exact BK252.out) hg (by simp [Value.ownBlock]))
    have n2_ := Aside0.mk (blk_grown (g := gb256) (o := .cells #[.slice none 0 0, .bool false] 25 (0, 0)) (by (with_reducible repeat (first | refine blk_drewN ?_ _ | refine blk_drew ?_ | refine blk_alloc ?_ _)); exact BK256.out) hg (by simp [Value.ownBlock]))
    have n3_ := Aside0.mk (hb)
    have n4_ := Aside0.mk (ho)
    clear BK251
    clear BK252
    clear BK256
    clear HB
    have BK251 := n0_
    have BK252 := n1_
    have BK256 := n2_
    have HB := n3_
    have HO255 := n4_
    clear n0_ n1_ n2_ n3_ n4_
    clear ho hb hg hat
    obtain ⟨Ao11, co11, eo11⟩ := Kd.R_slice HO255.out
    (first | subst eo11 | (injection eo11 with f1_ f2_ f3_; have f4_ := f1_.symm; have f5_ := f3_.symm; clear f1_ f2_ f3_; subst f4_; subst f5_))
    refine hK.out _ _ ⟨(blk_cell BK251.out 0).trans rfl, (blk_cell BK251.out 1).trans rfl⟩ (fun hHeld => ?_)
    clear hK K
    refine norm_ (a' := ?_) ?_ ?_
    rotate_left
    ·show Act.put _ (some 9) _ = _
     simp only [Act.put, List.setIfInBounds_toArray, List.set_cons_zero, List.set_cons_succ, i64_w, i32_w]
     rfl
    refine pv_ 5 (some 12) HT_ (h := ?_)
    exact norm_ (by simp only [putAll, Act.put, List.setIfInBounds_toArray, List.set_cons_zero, List.set_cons_succ]) (hCont (.slice Ao11 y253.length co11, gb256) _ ⟨hHeld, (rk_ HO255), (by (with_reducible repeat (first | refine blk_drewN ?_ _ | refine blk_drew ?_ | refine blk_alloc ?_ _)); exact BK251.out), (by (with_reducible repeat (first | refine blk_drewN ?_ _ | refine blk_drew ?_ | refine blk_alloc ?_ _)); exact BK252.out), (by (with_reducible repeat (first | refine blk_drewN ?_ _ | refine blk_drew ?_ | refine blk_alloc ?_ _)); exact BK256.out), GW256.out, GE256.out, NB251_256.out, NB256_251.out, NB252_256.out, NB256_252.out, bs_⟩)
  rintro ⟨v254, gb256⟩ w12 ⟨hS_, h0_, h1_, h2_, h3_, h4_, h5_, h6_, h7_, h8_, h9_, h10_⟩
  have n0_ : Aside0 (Kd.R (Kd.int .u32) 27 w12 w.heap.size (fun _ => True) v254 y253) := ⟨h0_⟩
  have n1_ : Aside0 (w12.heap[gb251]? = some (.cells #[.slice A0_0 l0_0.length c0_0, .bool a0_1] 25 (0, 0))) := ⟨h1_⟩
  have n2_ : Aside0 (w12.heap[gb252]? = some (.cells #[.slice none 0 0, .bool false] 25 (0, 0))) := ⟨h2_⟩
  have n3_ : Aside0 (w12.heap[gb256]? = some (.cells #[.slice none 0 0, .bool false] 25 (0, 0))) := ⟨h3_⟩
  have n4_ : Aside0 (w.heap.size ≤ gb256) := ⟨h4_⟩
  have n5_ : Aside0 (w.heap.size ≤ gb256) := ⟨h5_⟩
  have n6_ : Aside0 (gb251 ≠ gb256) := ⟨h6_⟩
  have n7_ : Aside0 (gb256 ≠ gb251) := ⟨h7_⟩
  have n8_ : Aside0 (gb252 ≠ gb256) := ⟨h8_⟩
  have n9_ : Aside0 (gb256 ≠ gb252) := ⟨h9_⟩
  have n10_ : Aside0 (Below w.heap.size w w12) := ⟨h10_⟩
  clear BK251
  clear BK252
  clear HB
  clear h0_ h1_ h2_ h3_ h4_ h5_ h6_ h7_ h8_ h9_ h10_
  have HO255 := n0_
  have BK251 := n1_
  have BK252 := n2_
  have BK256 := n3_
  have GW256 := n4_
  have GE256 := n5_
  have NB251_256 := n6_
  have NB256_251 := n7_
  have NB252_256 := n8_
  have NB256_252 := n9_
  have HB := n10_
  clear n0_ n1_ n2_ n3_ n4_ n5_ n6_ n7_ n8_ n9_ n10_
  have hHeld : w12.cell? ⟨gb251, 0, none⟩ = some (.slice A0_0 l0_0.length c0_0) ∧ w12.cell? ⟨gb251, 1, none⟩ = some (.bool a0_1) := hS_
  obtain ⟨Ao13, co13, eo13⟩ := Kd.R_slice HO255.out
  (first | subst eo13 | (injection eo13 with f1_ f2_ f3_; have f4_ := f1_.symm; have f5_ := f3_.symm; clear f1_ f2_ f3_; subst f4_; subst f5_))
  refine norm_ (a' := ?_) ?_ ?_
  rotate_left
  ·simp only [putAll, Act.put, List.setIfInBounds_toArray, List.set_cons_zero, List.set_cons_succ]
   rfl
  refine one_ (i := 7) (N := none) #[true, true, true, true, true, true, true, true] rfl rfl (one_of HT_.out (by kernel_rfl)) (by decide) (fun K hK => ?_)
  have hs14 : w12.cell? ⟨gb256, 0, none⟩ = some (.slice none 0 0) := (blk_cell BK256.out 0).trans rfl
  have hfs14 := blk_frozen BK256.out 0
  have hns14_0 := NB251_256.out
  have hns14_1 := NB252_256.out
  have hms14_0 := NB256_251.out
  have hms14_1 := NB256_252.out
  have hs15 : w12.cell? ⟨gb256, 1, none⟩ = some (.bool false) := (blk_cell BK256.out 1).trans rfl
  have hfs15 := blk_frozen BK256.out 1
  have hns15_0 := NB251_256.out
  have hns15_1 := NB252_256.out
  have hms15_0 := NB256_251.out
  have hms15_1 := NB256_252.out
  refine skip_ (w1 := ?_) (by rfl) rfl ?_ ?_
  rotate_left
  ·go_simp
   rfl
  refine hK.out _ _ ⟨((cell_far (p := ⟨gb256, _, none⟩) NB251_256.out _).trans (((cell_far (p := ⟨gb256, _, none⟩) NB251_256.out _).trans (hHeld.1)))), ((cell_far (p := ⟨gb256, _, none⟩) NB251_256.out _).trans (((cell_far (p := ⟨gb256, _, none⟩) NB251_256.out _).trans (hHeld.2))))⟩ (fun hHeld => ?_)
  clear hK K
  refine done_ (done_of HT_.out (by kernel_rfl)) ?_
  have hnb16 := NB251_252.out
  have hnc16 := NB252_251.out
  have hnb17 := NB251_256.out
  have hnc17 := NB256_251.out
  obtain ⟨hcz18_0, hcz18_1, hfz18_0, hfz18_1⟩ := blk2 BK251
  go_upto_region 3 with (first | ((with_reducible refine gate_callee (f := 21) rfl ?_); refine goesL_ (some 14) rfl rfl Try.func21 (by kernel_rfl) rfl #[.agg #[.slice A0_0 l0_0.length c0_0, .bool a0_1]] rfl (by (try simp only [List.map_toArray, List.map_cons, List.map_nil]); first | done | rfl | (simp only [List.length_drop, List.length_take]; rfl)) ?_; (with_reducible refine (drydockref19_May.calls k _ _ l0_0 a0_1 t257 _ ?side1 ?side2 A4.out).mono ?_); (case side1 => exact Kd.C_below HR0_0.out bs_); (case side2 => exact HC0_0.out); rintro e w19 ⟨rfl, hb⟩; refine ⟨_, rfl, ?_⟩; have n0_ := Aside0.mk (Kd.R_below (by (with_reducible repeat (first | apply Kd.R_alloc | apply Kd.R_drewN | apply Kd.R_drew)); exact (Kd.R_mono (far2 gb256 (Kd.R_types HO255.out BK256.out (by decide)) (fun _ hk => hk.2)) (fun _ h_ => h_.1))) hb); have n1_ := Aside0.mk (blk_below (bf_ BK251) hb); have n2_ := Aside0.mk (blk_below (bf_ BK252) hb); have n3_ := Aside0.mk (blk_below (bp_ (o := .cells #[.slice Ao13 y253.length co13, .bool a0_1] 25 (0, 0)) BK256) hb); have n4_ := Aside0.mk (below_step bs_ hb); clear HO255 BK251 BK252 BK256 HB; have HO255 := n0_; have BK251 := n1_; have BK252 := n2_; have BK256 := n3_; have HB := n4_; clear n0_ n1_ n2_ n3_ n4_; (try clear hb); (try clear hb2); (try clear hk); (try clear hi)))
  (try simp only [Act.put, List.setIfInBounds_toArray, List.set_cons_zero, List.set_cons_succ])
  go_cut [22] (fun v22 wc => ∃ (kq : Nat) (x22_4 : Bool), v22 = .bool x22_4 ∧ Aside0 (drydockref19_Note.j0 kq a1 x22_4 l0_0 a0_1 y253 a0_1 = some (r1, r2)) ∧ Aside0 (kq ≤ k) ∧ Aside0 (Kd.R (Kd.int .u32) 27 wc w.heap.size (fun _ => True) (.slice Ao13 y253.length co13) y253) ∧ Aside0 (wc.heap[gb251]? = some (.cells #[(.slice A0_0 l0_0.length c0_0), .bool a0_1] 25 (0, 0))) ∧ Aside0 (wc.heap[gb252]? = some (.cells #[(.slice none 0 0), .bool false] 25 (0, 0))) ∧ Aside0 (wc.heap[gb256]? = some (.cells #[(.slice Ao13 y253.length co13), .bool a0_1] 25 (0, 0))) ∧ Aside0 (Below w.heap.size w wc))
  case first =>
   have H := HC5.out
   clear HC5
   by_cases c20 : t257 = true
   ·subst c20
    have H1 : ((drydockref19_Has.f k l0_0 a1).bind fun t258 => (drydockref19_Note.j0 k a1 t258 l0_0 a0_1 y253 a0_1)) = some (r1, r2) := by rw [if_pos rfl] at H; exact H
    clear H
    have H := H1
    clear H1
    replace H := Option.bind_eq_some_iff.mp H
    obtain ⟨t258, A210, H⟩ := H
    replace H : (drydockref19_Note.j0 k a1 t258 l0_0 a0_1 y253 a0_1) = some (r1, r2) := H
    have A21 := Aside0.mk A210
    clear A210
    have H' := Aside0.mk H
    clear H
    have hnb22 := NB251_252.out
    have hnc22 := NB252_251.out
    have hnb23 := NB251_256.out
    have hnc23 := NB256_251.out
    obtain ⟨hcz24_0, hcz24_1, hfz24_0, hfz24_1⟩ := blk2 BK251
    go_wp2_with (first | (go_at_call 9; (with_reducible refine (drydockref19_Has.calls k _ _ l0_0 a1 t258 _ ?side1 ?side2 A21.out).mono ?_); (case side1 => repeat (first | exact (Kd.C_below HR0_0.out HB.out) | (with_reducible refine Kd.C_alloc ?_ _) | (with_reducible refine Kd.C_drewN ?_ _) | (with_reducible refine Kd.C_drew ?_))); (case side2 => exact HC0_0.out); rintro e w' ⟨rfl, ⟨nd, rfl⟩⟩))
    go_meet
    case rel => exact ⟨_, (t258), eq_, H', ⟨by first | omega | exact Nat.le_refl _⟩, ⟨by (with_reducible repeat (first | apply Kd.R_alloc | apply Kd.R_drewN | apply Kd.R_drew)); exact HO255.out⟩, ⟨bk_ BK251⟩, ⟨bk_ BK252⟩, ⟨bk_ BK256⟩, ⟨bs_⟩⟩
   ·replace c20 := Bool.eq_false_iff.mpr c20
    subst c20
    have H1 : (drydockref19_Note.j0 k a1 true l0_0 a0_1 y253 a0_1) = some (r1, r2) := by rw [if_neg (show ¬ (false = true) by decide)] at H; exact H
    clear H
    have H := H1
    clear H1
    have H' := Aside0.mk H
    clear H
    go_wp2
    go_meet
    case rel => exact ⟨_, (true), eq_, H', ⟨by first | omega | exact Nat.le_refl _⟩, ⟨by (with_reducible repeat (first | apply Kd.R_alloc | apply Kd.R_drewN | apply Kd.R_drew)); exact HO255.out⟩, ⟨bk_ BK251⟩, ⟨bk_ BK252⟩, ⟨bk_ BK256⟩, ⟨bs_⟩⟩
  case rest =>
   clear HC5
   try clear c3
   try clear hcz18_0
   try clear hcz18_1
   try clear hfz18_0
   try clear hfz18_1
   obtain ⟨kq, x22_4, rfl, HA, HJ4, HO_257000, BK251, BK252, BK256, HB⟩ := hcut
   cases kq with
   | zero => exact absurd HA.out (by simp [drydockref19_Note.j0])
   | succ kj4 =>
    have H := HA.out
    clear HA
    simp only [drydockref19_Note.j0] at H
    by_cases c25 : x22_4 = true
    ·subst c25
     have H1 : (some (y253, a0_1)) = some (r1, r2) := by rw [if_pos rfl] at H; exact H
     clear H
     have H := H1
     clear H1
     simp only [Option.some.injEq, Prod.mk.injEq] at H
     obtain ⟨rfl, rfl⟩ := H
     have hnb26 := NB256_251.out
     have hnc26 := NB251_256.out
     have hnb27 := NB256_252.out
     have hnc27 := NB252_256.out
     obtain ⟨hcz28_0, hcz28_1, hfz28_0, hfz28_1⟩ := blk2 BK256
     have hnb29 := NB252_251.out
     have hnc29 := NB251_252.out
     obtain ⟨hcz30_0, hcz30_1, hfz30_0, hfz30_1⟩ := blk2 BK252
     go_wp2
     refine bodyPost_ret (results_cell_row rfl _ _ gb252 25 #[.slice Ao13 y253.length co13, .bool a0_1] (0, 0) _ rfl (bp_ BK252) Try.underlying25 rfl (by kernel_rfl)) rfl ?_
     exact ⟨_, by first | rfl | (simp [errW_none, errW_some] <;> rfl) | (simp [*, errW_none, errW_some] <;> rfl), by (with_reducible repeat (first | apply Kd.R_alloc | apply Kd.R_drewN | apply Kd.R_drew)); exact Kd.R_mono (far2 gb252 (Kd.R_types HO_257000.out BK252.out (by decide)) (fun _ hk => hk.2)) (fun _ hk => trivial), by repeat (first | (with_reducible first | exact HB.out | apply below_alloc | apply pw_below_drewN | apply below_drew1 | refine below_set ?_ GE251.out | refine below_set ?_ GE252.out | refine below_set ?_ GE256.out) | exact HB.out)⟩
    ·replace c25 := Bool.eq_false_iff.mpr c25
     subst c25
     have H1 : (if (l0_0.length : Int) ≥ 8 then (some (y253, true)) else (if y253.length < 35184372088832 then (some ((y253 ++ [a1]), a0_1)) else (none))) = some (r1, r2) := by rw [if_neg (show ¬ (false = true) by decide)] at H; exact H
     clear H
     have H := H1
     clear H1
     by_cases c31 : (l0_0.length : Int) ≥ 8
     ·rw [if_pos c31] at H
      have c31b0 : decide (8 ≤ (l0_0.length : Int)) = true := decide_eq_true c31
      have c31b1 : decide (8 ≤ l0_0.length) = true := decide_eq_true (by omega)
      clear c31
      simp only [Option.some.injEq, Prod.mk.injEq] at H
      obtain ⟨rfl, rfl⟩ := H
      have hnb32 := NB251_252.out
      have hnc32 := NB252_251.out
      have hnb33 := NB251_256.out
      have hnc33 := NB256_251.out
      obtain ⟨hcz34_0, hcz34_1, hfz34_0, hfz34_1⟩ := blk2 BK251
      have hnb35 := NB256_252.out
      have hnc35 := NB252_256.out
      obtain ⟨hcz36_0, hcz36_1, hfz36_0, hfz36_1⟩ := blk2 BK256
      obtain ⟨hcz37_0, hcz37_1, hfz37_0, hfz37_1⟩ := blk2 BK252
      go_wp2
      refine bodyPost_ret (results_cell_row rfl _ _ gb252 25 #[.slice Ao13 y253.length co13, .bool true] (0, 0) _ rfl (bp_ BK252) Try.underlying25 rfl (by kernel_rfl)) rfl ?_
      exact ⟨_, by first | rfl | (simp [errW_none, errW_some] <;> rfl) | (simp [*, errW_none, errW_some] <;> rfl), by (with_reducible repeat (first | apply Kd.R_alloc | apply Kd.R_drewN | apply Kd.R_drew)); exact Kd.R_mono (far2 gb252 (Kd.R_far (p := ⟨gb256, 1, none⟩) (Kd.R_types (Kd.R_types HO_257000.out BK256.out (by decide)) BK252.out (by decide)) (fun _ hk => hk.1.2) (.bool true)) (fun _ hk => hk.2)) (fun _ hk => trivial), by repeat (first | (with_reducible first | exact HB.out | apply below_alloc | apply pw_below_drewN | apply below_drew1 | refine below_set ?_ GE251.out | refine below_set ?_ GE252.out | refine below_set ?_ GE256.out) | exact HB.out)⟩
     ·rw [if_neg c31] at H
      have c31b0 : decide (8 ≤ (l0_0.length : Int)) = false := decide_eq_false c31
      have c31b1 : decide (8 ≤ l0_0.length) = false := decide_eq_false (by omega)
      clear c31
      by_cases c38 : y253.length < 35184372088832
      ·rw [if_pos c38] at H
       have LMc38 := Aside0.mk c38
       clear c38
       obtain ⟨y259, hy259⟩ : ∃ y_ : List Int, y_ = (y253 ++ [a1]) := ⟨_, rfl⟩
       replace H : (some (y259, a0_1)) = some (r1, r2) := by first | (rw [hy259]; with_reducible exact H) | (have H2_ := (Option.bind_some _ _).symm.trans H; rw [hy259]; with_reducible exact H2_) | (have H2_ := (Option.bind_some _ _).symm.trans H; with_reducible exact H2_) | with_reducible exact H | (rw [hy259]; exact H) | exact H
       have Ny259 := Aside0.mk hy259
       clear hy259
       simp only [Option.some.injEq, Prod.mk.injEq] at H
       obtain ⟨rfl, rfl⟩ := H
       have hnb39 := NB251_252.out
       have hnc39 := NB252_251.out
       have hnb40 := NB251_256.out
       have hnc40 := NB256_251.out
       obtain ⟨hcz41_0, hcz41_1, hfz41_0, hfz41_1⟩ := blk2 BK251
       have hnb42 := NB256_252.out
       have hnc42 := NB252_256.out
       obtain ⟨hcz43_0, hcz43_1, hfz43_0, hfz43_1⟩ := blk2 BK256
       go_wp2_with (first | ((with_reducible refine gate_builtin (b := .append) (xs := #[.tmp 31, .tmp 33]) rfl ?_); at_builtin; refine Kd.R_append (Kd.int .u32) (w0 := w) w.heap.size rfl (.tmp 31) (.tmp 33) 22 27 (.int .u32 0) 4 rfl Try.underlying22 info27 rfl (by decide) (by omega) (.slice Ao13 y253.length co13) y253 a1 [.int .u32 a1] (fun _ => True) (fun _ => False) rfl rfl ?aP (fun _ hk => hk.elim) ?aF ?aO ?aB ?aS ?aL ?_; (case aP => exact rfl); (case aB => exact bs_); (case aF => exact (fun _ _ => trivial)); (case aO => exact (rk_ HO_257000)); (case aS => exact (below_size bs_)); (case aL => have := LMc38.out; omega); intro v260 w44 ho hb hg hat; rw [← Ny259.out] at ho; have n0_ := Aside0.mk (blk_grown (g := gb251) (o := .cells #[.slice A0_0 l0_0.length c0_0, .bool a0_1] 25 (0, 0)) (by (with_reducible repeat (first | refine blk_drewN ?_ _ | refine blk_drew ?_ | refine blk_alloc ?_ _)); exact BK251.out) hg (Kd.R_ne HO_257000.out BK251.out (by decide))); have n1_ := Aside0.mk (blk_grown (g := gb252) (o := .cells #[.slice none 0 0, .bool false] 25 (0, 0)) (by (with_reducible repeat (first | refine blk_drewN ?_ _ | refine blk_drew ?_ | refine blk_alloc ?_ _)); exact BK252.out) hg (Kd.R_ne HO_257000.out BK252.out (by decide))); have n2_ := Aside0.mk (blk_grown (g := gb256) (o := .cells #[.slice Ao13 y253.length co13, .bool a0_1] 25 (0, 0)) (by (with_reducible repeat (first | refine blk_drewN ?_ _ | refine blk_drew ?_ | refine blk_alloc ?_ _)); exact BK256.out) hg (Kd.R_ne HO_257000.out BK256.out (by decide))); have n3_ := Aside0.mk (hb); have n4_ := Aside0.mk (ho); clear BK251 BK252 BK256 HB HO_257000; have BK251 := n0_; have BK252 := n1_; have BK256 := n2_; have HB := n3_; have HO261 := n4_; clear n0_ n1_ n2_ n3_ n4_; clear ho hb hg hat; obtain ⟨Ao45, co45, eo45⟩ := Kd.R_slice HO261.out; subst eo45; obtain ⟨hcz46_0, hcz46_1, hfz46_0, hfz46_1⟩ := blk2 BK256; obtain ⟨hcz47_0, hcz47_1, hfz47_0, hfz47_1⟩ := blk2 BK252))
       refine bodyPost_ret (results_cell_row rfl _ _ gb252 25 #[.slice Ao45 y259.length co45, .bool a0_1] (0, 0) _ rfl (bp_ BK252) Try.underlying25 rfl (by kernel_rfl)) rfl ?_
       exact ⟨_, by first | rfl | (simp [errW_none, errW_some] <;> rfl) | (simp [*, errW_none, errW_some] <;> rfl), by (with_reducible repeat (first | apply Kd.R_alloc | apply Kd.R_drewN | apply Kd.R_drew)); exact Kd.R_mono (far2 gb252 (Kd.R_far (p := ⟨gb256, 0, none⟩) (Kd.R_types (Kd.R_types HO261.out BK256.out (by decide)) BK252.out (by decide)) (fun _ hk => hk.1.2) (.slice Ao45 y259.length co45)) (fun _ hk => hk.2)) (fun _ hk => trivial), by repeat (first | (with_reducible first | exact HB.out | apply below_alloc | apply pw_below_drewN | apply below_drew1 | refine below_set ?_ GE251.out | refine below_set ?_ GE252.out | refine below_set ?_ GE256.out) | exact HB.out)⟩
      ·rw [if_neg c38] at H
       exact absurd H (by simp)
 ·rw [if_neg c3] at H
  exact absurd H (by simp)

end Go.Proofs.Ytlboachgeepadaa.P
