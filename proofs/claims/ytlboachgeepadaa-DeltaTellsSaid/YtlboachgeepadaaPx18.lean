-- Written by a program of this session over the kit's print of the translation. Lean checks it.
import Derived.Test.YtlboachgeepadaaFarN
import Derived.Test.YtlboachgeepadaaPx0
import Derived.Test.YtlboachgeepadaaPx6
import Derived.Test.YtlboachgeepadaaPx14
import Derived.Test.YtlboachgeepadaaPx15
-- shorter
namespace Go.Proofs.Ytlboachgeepadaa.P
open Go.RowKit Go.Proofs.YtlboachgeepadaaW.PrintWords Go.Proofs.YtlboachgeepadaaW.PrintLast Go.Proofs.YtlboachgeepadaaW.PrintMore
attribute [local go_sem] max2_int min2_int max_two min_two max_three min_three max_four min_four   -- for this text's walks alone
set_option linter.unusedVariables false
set_option linter.unusedSimpArgs false

/-! ### drydockref19_Put: function 19 -/
def drydockref19_Put.l0 : Nat → Int → List Int → Bool → Int → Int → Int → Int → List (S61) → List Int → Int → Int → Int → Int → List (S63) → Int → Int → Int → Int → Int → List (S61) → List Int → Int → Int → Int → Int → List (S63) → Int → Option (List Int × Bool × Int × Int × Int × Int × (List (S61)) × List Int × Int × Int × Int × Int × (List (S63)) × Int × Int)
  | 0, _, _, _, _, _, _, _, _, _, _, _, _, _, _, _, _, _, _, _, _, _, _, _, _, _, _, _ => none
  | k + 1, x9, x267000, x267001, x268000, x268001, x268002, x268003, x268004, x268005, x268006, x268007, x268008, x268009, x268010, x268011, x290000, x290001, x290002, x290003, x290004, x290005, x290006, x290007, x290008, x290009, x290010, x290011 => if x9 < (x268005.length : Int) then (if 0 ≤ x9 then ((drydockref19_Has.f k x267000 (rd x268005 x9)).bind fun t291 => (if t291 = true then (drydockref19_Put.l0 k (wrap64 (x9 + 1)) x267000 x267001 x268000 x268001 x268002 x268003 x268004 x268005 x268006 x268007 x268008 x268009 x268010 x268011 x290000 x290001 x290002 x290003 x290004 x290005 x290006 x290007 x290008 x290009 x290010 x290011) else (if x290005.length < 35184372088832 then (drydockref19_Put.l0 k (wrap64 (x9 + 1)) x267000 x267001 x268000 x268001 x268002 x268003 x268004 x268005 x268006 x268007 x268008 x268009 x268010 x268011 x290000 x290001 x290002 x290003 x290004 (x290005 ++ [rd x268005 x9]) x290006 x290007 x290008 x290009 x290010 x290011) else (none)))) else (none)) else (some (([] : List Int), false, x290000, x290001, x290002, x290003, x290004, x290005, x290006, x290007, x290008, x290009, x290010, x290011, 0))
def drydockref19_Put.f (k : Nat) (l0_0 : List Int) (a0_1 : Bool) (a1_0 : Int) (a1_1 : Int) (a1_2 : Int) (a1_3 : Int) (l1_4 : List (S61)) (l1_5 : List Int) (a1_6 : Int) (a1_7 : Int) (a1_8 : Int) (a1_9 : Int) (l1_10 : List (S63)) (a1_11 : Int) : Option (List Int × Bool × Int × Int × Int × Int × (List (S61)) × List Int × Int × Int × Int × Int × (List (S63)) × Int × Int) := (drydockref19_May.f k l0_0 a0_1).bind fun t270 => (if t270 = true then (if a0_1 = true then (some (([] : List Int), false, 0, 0, 0, 0, ([] : List (S61)), ([] : List Int), 0, 0, 0, 0, ([] : List (S63)), 0, 4)) else ((drydockref18_Own.f k a1_0 a1_1 a1_2 a1_3 l1_4 l1_5 a1_6 a1_7 a1_8 a1_9 l1_10 a1_11).bind fun bt271 => (drydockref19_Put.l0 k 0 l0_0 a0_1 a1_0 a1_1 a1_2 a1_3 l1_4 l1_5 a1_6 a1_7 a1_8 a1_9 l1_10 a1_11 bt271.1 bt271.2.1 bt271.2.2.1 bt271.2.2.2.1 bt271.2.2.2.2.1 ([] : List Int) bt271.2.2.2.2.2.2.1 bt271.2.2.2.2.2.2.2.1 bt271.2.2.2.2.2.2.2.2.1 bt271.2.2.2.2.2.2.2.2.2.1 bt271.2.2.2.2.2.2.2.2.2.2.1 bt271.2.2.2.2.2.2.2.2.2.2.2))) else (some (([] : List Int), false, 0, 0, 0, 0, ([] : List (S61)), ([] : List Int), 0, 0, 0, 0, ([] : List (S63)), 0, 1)))
theorem drydockref19_Put.mono_l : ∀ k, (∀ y0 y1 y2 y3 y4 y5 y6 y7 y8 y9 y10 y11 y12 y13 y14 y15 y16 y17 y18 y19 y20 y21 y22 y23 y24 y25 y26, LeO (drydockref19_Put.l0 k y0 y1 y2 y3 y4 y5 y6 y7 y8 y9 y10 y11 y12 y13 y14 y15 y16 y17 y18 y19 y20 y21 y22 y23 y24 y25 y26) (drydockref19_Put.l0 (k + 1) y0 y1 y2 y3 y4 y5 y6 y7 y8 y9 y10 y11 y12 y13 y14 y15 y16 y17 y18 y19 y20 y21 y22 y23 y24 y25 y26))
  | 0 => fun _ _ _ _ _ _ _ _ _ _ _ _ _ _ _ _ _ _ _ _ _ _ _ _ _ _ _ r h => by simp [drydockref19_Put.l0] at h
  | k + 1 => by
    have ih0 := drydockref19_Put.mono_l k
    · intro y0 y1 y2 y3 y4 y5 y6 y7 y8 y9 y10 y11 y12 y13 y14 y15 y16 y17 y18 y19 y20 y21 y22 y23 y24 y25 y26
      unfold drydockref19_Put.l0
      repeat' first
      | (with_reducible exact ih0 _ _ _ _ _ _ _ _ _ _ _ _ _ _ _ _ _ _ _ _ _ _ _ _ _ _ _)
      | (with_reducible exact drydockref18_Own.mono _ _ _ _ _ _ _ _ _ _ _ _ _)
      | (with_reducible exact drydockref19_Has.mono _ _ _)
      | (with_reducible exact drydockref19_May.mono _ _ _)
      | (with_reducible exact LeO.refl _)
      | (with_reducible exact LeO.none _)
      | (with_reducible refine LeO.ite ?_ ?_)
      | (with_reducible refine LeO.bind ?_ (fun _ => ?_))
      | exact ih0 _ _ _ _ _ _ _ _ _ _ _ _ _ _ _ _ _ _ _ _ _ _ _ _ _ _ _
      | exact drydockref18_Own.mono _ _ _ _ _ _ _ _ _ _ _ _ _
      | exact drydockref19_Has.mono _ _ _
      | exact drydockref19_May.mono _ _ _
      | exact LeO.none _
      | refine LeO.ite ?_ ?_
      | refine LeO.bind ?_ (fun _ => ?_)
theorem drydockref19_Put.mono : ∀ a0 a1 a2 a3 a4 a5 a6 a7 a8 a9 a10 a11 a12 a13 k, LeO (drydockref19_Put.f k a0 a1 a2 a3 a4 a5 a6 a7 a8 a9 a10 a11 a12 a13) (drydockref19_Put.f (k + 1) a0 a1 a2 a3 a4 a5 a6 a7 a8 a9 a10 a11 a12 a13) := by
 intro a0 a1 a2 a3 a4 a5 a6 a7 a8 a9 a10 a11 a12 a13 k
 have ih0 := drydockref19_Put.mono_l k
 unfold drydockref19_Put.f
 repeat' first
  | (with_reducible exact ih0 _ _ _ _ _ _ _ _ _ _ _ _ _ _ _ _ _ _ _ _ _ _ _ _ _ _ _)
  | (with_reducible exact drydockref18_Own.mono _ _ _ _ _ _ _ _ _ _ _ _ _)
  | (with_reducible exact drydockref19_Has.mono _ _ _)
  | (with_reducible exact drydockref19_May.mono _ _ _)
  | (with_reducible exact LeO.refl _)
  | (with_reducible exact LeO.none _)
  | (with_reducible refine LeO.ite ?_ ?_)
  | (with_reducible refine LeO.bind ?_ (fun _ => ?_))
  | exact ih0 _ _ _ _ _ _ _ _ _ _ _ _ _ _ _ _ _ _ _ _ _ _ _ _ _ _ _
  | exact drydockref18_Own.mono _ _ _ _ _ _ _ _ _ _ _ _ _
  | exact drydockref19_Has.mono _ _ _
  | exact drydockref19_May.mono _ _ _
  | exact LeO.none _
  | refine LeO.ite ?_ ?_
  | refine LeO.bind ?_ (fun _ => ?_)
def drydockref19_Put.T11 : Bool × List (List Nat × List Nat) := (true, [([], []), ([0], [0]), ([], []), ([2], [2]), ([], []), ([3, 4], [3, 4]), ([5], [5]), ([1, 6], [1, 6]), ([7], [7])])
def drydockref19_Put.B11 : List Nat := [0, 1, 0, 4, 0, 28, 60, 127, 255]
theorem drydockref19_Put.tab11 : rtab .any (opsOf Try.f19 11) = drydockref19_Put.T11 := by kernel_rfl
theorem drydockref19_Put.bits11 : waitsOk drydockref19_Put.T11.2 drydockref19_Put.B11 = true := by kernel_rfl
def drydockref19_Put.T12 : Bool × List (List Nat × List Nat) := (true, [([], []), ([0], [0]), ([], []), ([2], [2]), ([], []), ([3, 4], [3, 4]), ([5], [5]), ([6], [6]), ([1, 7], [1, 7]), ([0, 1, 2, 3, 4, 5, 6, 7, 8], []), ([9, 8, 8, 0, 1, 2, 3, 4, 5, 6, 7, 8], [8, 9])])
def drydockref19_Put.B12 : List Nat := [0, 1, 0, 4, 0, 28, 60, 124, 255, 511, 1023]
theorem drydockref19_Put.tab12 : rtab .any (opsOf Try.f19 12) = drydockref19_Put.T12 := by kernel_rfl
theorem drydockref19_Put.bits12 : waitsOk drydockref19_Put.T12.2 drydockref19_Put.B12 = true := by kernel_rfl
set_option maxHeartbeats 8000000 in
set_option maxRecDepth 100000 in
theorem drydockref19_Put.calls (k : Nat) (A0_0 : Option Addr) (c0_0 : Nat) (l0_0 : List Int) (a0_1 : Bool) (a1_0 : Int) (a1_1 : Int) (a1_2 : Int) (a1_3 : Int) (A1_4 : Option Addr) (c1_4 : Nat) (l1_4 : List (S61)) (A1_5 : Option Addr) (c1_5 : Nat) (l1_5 : List Int) (a1_6 : Int) (a1_7 : Int) (a1_8 : Int) (a1_9 : Int) (A1_10 : Option Addr) (c1_10 : Nat) (l1_10 : List (S63)) (a1_11 : Int) (r1 : List Int) (r2 : Bool) (r3 : Int) (r4 : Int) (r5 : Int) (r6 : Int) (r7 : List (S61)) (r8 : List Int) (r9 : Int) (r10 : Int) (r11 : Int) (r12 : Int) (r13 : List (S63)) (r14 : Int) (r15 : Int) (w : World) (hr0_0 : Kd.C (Kd.int .u32) w A0_0 l0_0.length l0_0) (hc0_0 : l0_0.length ≤ c0_0) (hr1_4 : Kd.C k61 w A1_4 l1_4.length l1_4) (hc1_4 : l1_4.length ≤ c1_4) (hr1_5 : Kd.C (Kd.int .u32) w A1_5 l1_5.length l1_5) (hc1_5 : l1_5.length ≤ c1_5) (hr1_10 : Kd.C k63 w A1_10 l1_10.length l1_10) (hc1_10 : l1_10.length ≤ c1_10) (h : drydockref19_Put.f k l0_0 a0_1 a1_0 a1_1 a1_2 a1_3 l1_4 l1_5 a1_6 a1_7 a1_8 a1_9 l1_10 a1_11 = some (r1, r2, r3, r4, r5, r6, r7, r8, r9, r10, r11, r12, r13, r14, r15)) :
    Calls Try.prog 19 #[.agg #[.slice A0_0 l0_0.length c0_0, .bool a0_1], .agg #[.int .i64 a1_0, .int .i64 a1_1, .int .i64 a1_2, .int .i64 a1_3, .slice A1_4 l1_4.length c1_4, .slice A1_5 l1_5.length c1_5, .int .i64 a1_6, .int .i64 a1_7, .int .i64 a1_8, .int .i64 a1_9, .slice A1_10 l1_10.length c1_10, .int .u32 a1_11]] w fun e w' => ∃ v0_ v6_ v7_ v12_ : Value, e = .returned (.tuple #[.agg #[v0_, .bool r2], .agg #[.int .i64 r3, .int .i64 r4, .int .i64 r5, .int .i64 r6, v6_, v7_, .int .i64 r9, .int .i64 r10, .int .i64 r11, .int .i64 r12, v12_, .int .u32 r14], .int .i64 r15]) ∧ Kd.R (Kd.int .u32) 27 w' w.heap.size (fun k_ => some k_ ≠ (v7_ : Value).ownBlock) v0_ r1 ∧ Kd.S k61 61 w' w.heap.size (fun _ => True) v6_ r7 ∧ Kd.R (Kd.int .u32) 27 w' w.heap.size (fun k_ => some k_ ≠ (v0_ : Value).ownBlock) v7_ r8 ∧ Kd.S k63 63 w' w.heap.size (fun k_ => some k_ ≠ (v0_ : Value).ownBlock ∧ some k_ ≠ (v7_ : Value).ownBlock) v12_ r13 ∧ Below w.heap.size w w' := by
 have hu25 := Try.underlying25
 have hu42 := Try.underlying42
 have HR0_0 := Aside0.mk hr0_0
 have HC0_0 := Aside0.mk hc0_0
 clear hr0_0 hc0_0
 have HR1_4 := Aside0.mk hr1_4
 have HC1_4 := Aside0.mk hc1_4
 clear hr1_4 hc1_4
 have HR1_5 := Aside0.mk hr1_5
 have HC1_5 := Aside0.mk hc1_5
 clear hr1_5 hc1_5
 have HR1_10 := Aside0.mk hr1_10
 have HC1_10 := Aside0.mk hc1_10
 clear hr1_10 hc1_10
 have HB := Aside0.mk (Below.refl w.heap.size w)
 have H : ((drydockref19_May.f k l0_0 a0_1).bind fun t270 => (if t270 = true then (if a0_1 = true then (some (([] : List Int), false, 0, 0, 0, 0, ([] : List (S61)), ([] : List Int), 0, 0, 0, 0, ([] : List (S63)), 0, 4)) else ((drydockref18_Own.f k a1_0 a1_1 a1_2 a1_3 l1_4 l1_5 a1_6 a1_7 a1_8 a1_9 l1_10 a1_11).bind fun bt271 => (drydockref19_Put.l0 k 0 l0_0 a0_1 a1_0 a1_1 a1_2 a1_3 l1_4 l1_5 a1_6 a1_7 a1_8 a1_9 l1_10 a1_11 bt271.1 bt271.2.1 bt271.2.2.1 bt271.2.2.2.1 bt271.2.2.2.2.1 ([] : List Int) bt271.2.2.2.2.2.2.1 bt271.2.2.2.2.2.2.2.1 bt271.2.2.2.2.2.2.2.2.1 bt271.2.2.2.2.2.2.2.2.2.1 bt271.2.2.2.2.2.2.2.2.2.2.1 bt271.2.2.2.2.2.2.2.2.2.2.2))) else (some (([] : List Int), false, 0, 0, 0, 0, ([] : List (S61)), ([] : List Int), 0, 0, 0, 0, ([] : List (S63)), 0, 1)))) = some (r1, r2, r3, r4, r5, r6, r7, r8, r9, r10, r11, r12, r13, r14, r15) := h
 clear h
 replace H := Option.bind_eq_some_iff.mp H
 obtain ⟨t270, A30, H⟩ := H
 replace H : (if t270 = true then (if a0_1 = true then (some (([] : List Int), false, 0, 0, 0, 0, ([] : List (S61)), ([] : List Int), 0, 0, 0, 0, ([] : List (S63)), 0, 4)) else ((drydockref18_Own.f k a1_0 a1_1 a1_2 a1_3 l1_4 l1_5 a1_6 a1_7 a1_8 a1_9 l1_10 a1_11).bind fun bt271 => (drydockref19_Put.l0 k 0 l0_0 a0_1 a1_0 a1_1 a1_2 a1_3 l1_4 l1_5 a1_6 a1_7 a1_8 a1_9 l1_10 a1_11 bt271.1 bt271.2.1 bt271.2.2.1 bt271.2.2.2.1 bt271.2.2.2.2.1 ([] : List Int) bt271.2.2.2.2.2.2.1 bt271.2.2.2.2.2.2.2.1 bt271.2.2.2.2.2.2.2.2.1 bt271.2.2.2.2.2.2.2.2.2.1 bt271.2.2.2.2.2.2.2.2.2.2.1 bt271.2.2.2.2.2.2.2.2.2.2.2))) else (some (([] : List Int), false, 0, 0, 0, 0, ([] : List (S61)), ([] : List Int), 0, 0, 0, 0, ([] : List (S63)), 0, 1))) = some (r1, r2, r3, r4, r5, r6, r7, r8, r9, r10, r11, r12, r13, r14, r15) := H
 have A3 := Aside0.mk A30
 clear A30
 by_cases c4 : t270 = true
 ·subst c4
  have H1 : (if a0_1 = true then (some (([] : List Int), false, 0, 0, 0, 0, ([] : List (S61)), ([] : List Int), 0, 0, 0, 0, ([] : List (S63)), 0, 4)) else ((drydockref18_Own.f k a1_0 a1_1 a1_2 a1_3 l1_4 l1_5 a1_6 a1_7 a1_8 a1_9 l1_10 a1_11).bind fun bt271 => (drydockref19_Put.l0 k 0 l0_0 a0_1 a1_0 a1_1 a1_2 a1_3 l1_4 l1_5 a1_6 a1_7 a1_8 a1_9 l1_10 a1_11 bt271.1 bt271.2.1 bt271.2.2.1 bt271.2.2.2.1 bt271.2.2.2.2.1 ([] : List Int) bt271.2.2.2.2.2.2.1 bt271.2.2.2.2.2.2.2.1 bt271.2.2.2.2.2.2.2.2.1 bt271.2.2.2.2.2.2.2.2.2.1 bt271.2.2.2.2.2.2.2.2.2.2.1 bt271.2.2.2.2.2.2.2.2.2.2.2))) = some (r1, r2, r3, r4, r5, r6, r7, r8, r9, r10, r11, r12, r13, r14, r15) := by rw [if_pos rfl] at H; exact H
  clear H
  have H := H1
  clear H1
  by_cases c5 : a0_1 = true
  ·subst c5
   have H1 : (some (([] : List Int), false, 0, 0, 0, 0, ([] : List (S61)), ([] : List Int), 0, 0, 0, 0, ([] : List (S63)), 0, 4)) = some (r1, r2, r3, r4, r5, r6, r7, r8, r9, r10, r11, r12, r13, r14, r15) := by rw [if_pos rfl] at H; exact H
   clear H
   have H := H1
   clear H1
   simp only [Option.some.injEq, Prod.mk.injEq] at H
   obtain ⟨rfl, rfl, rfl, rfl, rfl, rfl, rfl, rfl, rfl, rfl, rfl, rfl, rfl, rfl, rfl⟩ := H
   go_enter Try.func19, Try.ntmps19
   go_wp2_with (first | ((with_reducible refine gate_dst (N := 2) rfl ?_); refine box_event ?hg (N := 2) ?hd (cs := #[.slice A0_0 l0_0.length c0_0, .bool true]) (t := 25) ?hr ?_; (case hd => rfl); (case hg => rfl); (case hr => first | (go_simp; done) | (go_simp; rfl)); intro gb266 hg w6 hbox hb; have n0_ := Aside0.mk (below_step bs_ hb); have n1_ := Aside0.mk (hbox); have n2_ := Aside0.mk ((by rw [hg]; exact (below_size bs_) : w.heap.size ≤ gb266)); have n3_ := Aside0.mk ((by rw [hg]; exact (below_size bs_) : w.heap.size ≤ gb266)); clear HB; have HB := n0_; have BK266 := n1_; have GW266 := n2_; have GE266 := n3_; clear n0_ n1_ n2_ n3_; clear hb hbox hg) | ((with_reducible refine gate_dst (N := 3) rfl ?_); refine box_event ?hg (N := 3) ?hd (cs := #[.int .i64 a1_0, .int .i64 a1_1, .int .i64 a1_2, .int .i64 a1_3, .slice A1_4 l1_4.length c1_4, .slice A1_5 l1_5.length c1_5, .int .i64 a1_6, .int .i64 a1_7, .int .i64 a1_8, .int .i64 a1_9, .slice A1_10 l1_10.length c1_10, .int .u32 a1_11]) (t := 42) ?hr ?_; (case hd => rfl); (case hg => rfl); (case hr => first | (go_simp; done) | (go_simp; rfl)); intro gb267 hg w7 hbox hb; have n0_ := Aside0.mk (blk_below (bk_ BK266) hb); have n1_ := Aside0.mk (below_step bs_ hb); have n2_ := Aside0.mk (hbox); have n3_ := Aside0.mk ((by rw [hg]; exact (below_size bs_) : w.heap.size ≤ gb267)); have n4_ := Aside0.mk ((by rw [hg]; exact (below_size bs_) : w.heap.size ≤ gb267)); have n5_ := Aside0.mk ((by rw [hg]; exact Nat.ne_of_lt (blk_lt (bk_ BK266)) : gb266 ≠ gb267)); have n6_ := Aside0.mk ((by rw [hg]; exact Nat.ne_of_gt (blk_lt (bk_ BK266)) : gb267 ≠ gb266)); clear BK266 HB; have BK266 := n0_; have HB := n1_; have BK267 := n2_; have GW267 := n3_; have GE267 := n4_; have NB266_267 := n5_; have NB267_266 := n6_; clear n0_ n1_ n2_ n3_ n4_ n5_ n6_; clear hb hbox hg) | ((with_reducible refine gate_dst (N := 4) rfl ?_); refine box_event ?hg (N := 4) ?hd (cs := #[.slice none 0 0, .bool false]) (t := 25) ?hr ?_; (case hd => rfl); (case hg => rfl); (case hr => first | (go_simp; done) | (go_simp; rfl)); intro gb268 hg w8 hbox hb; have n0_ := Aside0.mk (blk_below (bk_ BK266) hb); have n1_ := Aside0.mk (blk_below (bk_ BK267) hb); have n2_ := Aside0.mk (below_step bs_ hb); have n3_ := Aside0.mk (hbox); have n4_ := Aside0.mk ((by rw [hg]; exact (below_size bs_) : w.heap.size ≤ gb268)); have n5_ := Aside0.mk ((by rw [hg]; exact (below_size bs_) : w.heap.size ≤ gb268)); have n6_ := Aside0.mk ((by rw [hg]; exact Nat.ne_of_lt (blk_lt (bk_ BK266)) : gb266 ≠ gb268)); have n7_ := Aside0.mk ((by rw [hg]; exact Nat.ne_of_gt (blk_lt (bk_ BK266)) : gb268 ≠ gb266)); have n8_ := Aside0.mk ((by rw [hg]; exact Nat.ne_of_lt (blk_lt (bk_ BK267)) : gb267 ≠ gb268)); have n9_ := Aside0.mk ((by rw [hg]; exact Nat.ne_of_gt (blk_lt (bk_ BK267)) : gb268 ≠ gb267)); clear BK266 BK267 HB; have BK266 := n0_; have BK267 := n1_; have HB := n2_; have BK268 := n3_; have GW268 := n4_; have GE268 := n5_; have NB266_268 := n6_; have NB268_266 := n7_; have NB267_268 := n8_; have NB268_267 := n9_; clear n0_ n1_ n2_ n3_ n4_ n5_ n6_ n7_ n8_ n9_; clear hb hbox hg) | ((with_reducible refine gate_dst (N := 5) rfl ?_); refine box_event ?hg (N := 5) ?hd (cs := #[.int .i64 0, .int .i64 0, .int .i64 0, .int .i64 0, .slice none 0 0, .slice none 0 0, .int .i64 0, .int .i64 0, .int .i64 0, .int .i64 0, .slice none 0 0, .int .u32 0]) (t := 42) ?hr ?_; (case hd => rfl); (case hg => rfl); (case hr => first | (go_simp; done) | (go_simp; rfl)); intro gb269 hg w9 hbox hb; have n0_ := Aside0.mk (blk_below (bk_ BK266) hb); have n1_ := Aside0.mk (blk_below (bk_ BK267) hb); have n2_ := Aside0.mk (blk_below (bk_ BK268) hb); have n3_ := Aside0.mk (below_step bs_ hb); have n4_ := Aside0.mk (hbox); have n5_ := Aside0.mk ((by rw [hg]; exact (below_size bs_) : w.heap.size ≤ gb269)); have n6_ := Aside0.mk ((by rw [hg]; exact (below_size bs_) : w.heap.size ≤ gb269)); have n7_ := Aside0.mk ((by rw [hg]; exact Nat.ne_of_lt (blk_lt (bk_ BK266)) : gb266 ≠ gb269)); have n8_ := Aside0.mk ((by rw [hg]; exact Nat.ne_of_gt (blk_lt (bk_ BK266)) : gb269 ≠ gb266)); have n9_ := Aside0.mk ((by rw [hg]; exact Nat.ne_of_lt (blk_lt (bk_ BK267)) : gb267 ≠ gb269)); have n10_ := Aside0.mk ((by rw [hg]; exact Nat.ne_of_gt (blk_lt (bk_ BK267)) : gb269 ≠ gb267)); have n11_ := Aside0.mk ((by rw [hg]; exact Nat.ne_of_lt (blk_lt (bk_ BK268)) : gb268 ≠ gb269)); have n12_ := Aside0.mk ((by rw [hg]; exact Nat.ne_of_gt (blk_lt (bk_ BK268)) : gb269 ≠ gb268)); clear BK266 BK267 BK268 HB; have BK266 := n0_; have BK267 := n1_; have BK268 := n2_; have HB := n3_; have BK269 := n4_; have GW269 := n5_; have GE269 := n6_; have NB266_269 := n7_; have NB269_266 := n8_; have NB267_269 := n9_; have NB269_267 := n10_; have NB268_269 := n11_; have NB269_268 := n12_; clear n0_ n1_ n2_ n3_ n4_ n5_ n6_ n7_ n8_ n9_ n10_ n11_ n12_; clear hb hbox hg; have hnb10 := NB266_267.out; have hnc10 := NB267_266.out; have hnb11 := NB266_268.out; have hnc11 := NB268_266.out; have hnb12 := NB266_269.out; have hnc12 := NB269_266.out; obtain ⟨hcz13_0, hcz13_1, hfz13_0, hfz13_1⟩ := blk2 BK266) | ((with_reducible refine gate_callee (f := 21) rfl ?_); refine goesL_ (some 11) rfl rfl Try.func21 (by kernel_rfl) rfl #[.agg #[.slice A0_0 l0_0.length c0_0, .bool true]] rfl (by (try simp only [List.map_toArray, List.map_cons, List.map_nil]); first | done | rfl | (simp only [List.length_drop, List.length_take]; rfl)) ?_; (with_reducible refine (drydockref19_May.calls k _ _ l0_0 true true _ ?side1 ?side2 A3.out).mono ?_); (case side1 => repeat (first | exact (Kd.C_below HR0_0.out HB.out) | (with_reducible refine Kd.C_alloc ?_ _) | (with_reducible refine Kd.C_drewN ?_ _) | (with_reducible refine Kd.C_drew ?_))); (case side2 => exact HC0_0.out); rintro e w14 ⟨rfl, hb⟩; refine ⟨_, rfl, ?_⟩; have n0_ := Aside0.mk (blk_below (bk_ BK266) hb); have n1_ := Aside0.mk (blk_below (bk_ BK267) hb); have n2_ := Aside0.mk (blk_below (bk_ BK268) hb); have n3_ := Aside0.mk (blk_below (bk_ BK269) hb); have n4_ := Aside0.mk (below_step bs_ hb); clear BK266 BK267 BK268 BK269 HB; have BK266 := n0_; have BK267 := n1_; have BK268 := n2_; have BK269 := n3_; have HB := n4_; clear n0_ n1_ n2_ n3_ n4_; (try clear hb); (try clear hb2); (try clear hk); (try clear hi); obtain ⟨hcz15_0, hcz15_1, hfz15_0, hfz15_1⟩ := blk2 BK266; have hnb16 := NB268_267.out; have hnc16 := NB267_268.out; have hnb17 := NB268_269.out; have hnc17 := NB269_268.out; obtain ⟨hcz18_0, hcz18_1, hfz18_0, hfz18_1⟩ := blk2 BK268; have hnb19 := NB269_267.out; have hnc19 := NB267_269.out; obtain ⟨hcz20_0, hcz20_1, hcz20_2, hcz20_3, hcz20_4, hcz20_5, hcz20_6, hcz20_7, hcz20_8, hcz20_9, hcz20_10, hcz20_11, hfz20_0, hfz20_1, hfz20_2, hfz20_3, hfz20_4, hfz20_5, hfz20_6, hfz20_7, hfz20_8, hfz20_9, hfz20_10, hfz20_11⟩ := blk12 BK269))
   refine bodyPost_ret (results_list (rs := [.cell 4 25, .cell 5 42, .tmp 6]) rfl (by simp) (.cell gb268 25 #[.slice none 0 0, .bool false] (0, 0) _ rfl (bp_ BK268) Try.underlying25 rfl (by kernel_rfl) (.cell gb269 42 #[.int .i64 0, .int .i64 0, .int .i64 0, .int .i64 0, .slice none 0 0, .slice none 0 0, .int .i64 0, .int .i64 0, .int .i64 0, .int .i64 0, .slice none 0 0, .int .u32 0] (0, 0) _ rfl (bp_ BK269) Try.underlying42 rfl (by kernel_rfl) (.tmp .nil)))) rfl ?_
   exact ⟨_, _, _, _, by first | rfl | (simp [errW_none, errW_some] <;> rfl) | (simp [*, errW_none, errW_some] <;> rfl), by first | exact Kd.R_nil _ _ _ _ _ | exact Kd.N_nil _ _ _ _ _ | exact Kd.V_nil _ _ _ _ _ | exact Kd.Q_nil _ _ _ _ _ | exact Kd.S_nil _ _ _ _ _, by first | exact Kd.S_nil _ _ _ _ _ | exact Kd.N_nil _ _ _ _ _ | exact Kd.V_nil _ _ _ _ _ | exact Kd.Q_nil _ _ _ _ _ | exact Kd.R_nil _ _ _ _ _, by first | exact Kd.R_nil _ _ _ _ _ | exact Kd.N_nil _ _ _ _ _ | exact Kd.V_nil _ _ _ _ _ | exact Kd.Q_nil _ _ _ _ _ | exact Kd.S_nil _ _ _ _ _, by first | exact Kd.S_nil _ _ _ _ _ | exact Kd.N_nil _ _ _ _ _ | exact Kd.V_nil _ _ _ _ _ | exact Kd.Q_nil _ _ _ _ _ | exact Kd.R_nil _ _ _ _ _, by repeat (first | (with_reducible first | exact HB.out | apply below_alloc | apply pw_below_drewN | apply below_drew1 | refine below_set ?_ GE266.out | refine below_set ?_ GE267.out | refine below_set ?_ GE268.out | refine below_set ?_ GE269.out) | exact HB.out)⟩
  ·replace c5 := Bool.eq_false_iff.mpr c5
   subst c5
   have H1 : ((drydockref18_Own.f k a1_0 a1_1 a1_2 a1_3 l1_4 l1_5 a1_6 a1_7 a1_8 a1_9 l1_10 a1_11).bind fun bt271 => (drydockref19_Put.l0 k 0 l0_0 false a1_0 a1_1 a1_2 a1_3 l1_4 l1_5 a1_6 a1_7 a1_8 a1_9 l1_10 a1_11 bt271.1 bt271.2.1 bt271.2.2.1 bt271.2.2.2.1 bt271.2.2.2.2.1 ([] : List Int) bt271.2.2.2.2.2.2.1 bt271.2.2.2.2.2.2.2.1 bt271.2.2.2.2.2.2.2.2.1 bt271.2.2.2.2.2.2.2.2.2.1 bt271.2.2.2.2.2.2.2.2.2.2.1 bt271.2.2.2.2.2.2.2.2.2.2.2)) = some (r1, r2, r3, r4, r5, r6, r7, r8, r9, r10, r11, r12, r13, r14, r15) := by rw [if_neg (show ¬ (false = true) by decide)] at H; exact H
   clear H
   have H := H1
   clear H1
   replace H := Option.bind_eq_some_iff.mp H
   obtain ⟨⟨t271, t272, t273, t274, t275, t278, t281, t282, t283, t284, t285, t288⟩, A210, H⟩ := H
   replace H : (drydockref19_Put.l0 k 0 l0_0 false a1_0 a1_1 a1_2 a1_3 l1_4 l1_5 a1_6 a1_7 a1_8 a1_9 l1_10 a1_11 t271 t272 t273 t274 t275 ([] : List Int) t281 t282 t283 t284 t285 t288) = some (r1, r2, r3, r4, r5, r6, r7, r8, r9, r10, r11, r12, r13, r14, r15) := H
   have A21 := Aside0.mk A210
   clear A210
   have H' := Aside0.mk H
   clear H
   go_enter Try.func19, Try.ntmps19
   go_wp2_with (first | ((with_reducible refine gate_dst (N := 2) rfl ?_); refine box_event ?hg (N := 2) ?hd (cs := #[.slice A0_0 l0_0.length c0_0, .bool false]) (t := 25) ?hr ?_; (case hd => rfl); (case hg => rfl); (case hr => first | (go_simp; done) | (go_simp; rfl)); intro gb266 hg w22 hbox hb; have n0_ := Aside0.mk (below_step bs_ hb); have n1_ := Aside0.mk (hbox); have n2_ := Aside0.mk ((by rw [hg]; exact (below_size bs_) : w.heap.size ≤ gb266)); have n3_ := Aside0.mk ((by rw [hg]; exact (below_size bs_) : w.heap.size ≤ gb266)); clear HB; have HB := n0_; have BK266 := n1_; have GW266 := n2_; have GE266 := n3_; clear n0_ n1_ n2_ n3_; clear hb hbox hg) | ((with_reducible refine gate_dst (N := 3) rfl ?_); refine box_event ?hg (N := 3) ?hd (cs := #[.int .i64 a1_0, .int .i64 a1_1, .int .i64 a1_2, .int .i64 a1_3, .slice A1_4 l1_4.length c1_4, .slice A1_5 l1_5.length c1_5, .int .i64 a1_6, .int .i64 a1_7, .int .i64 a1_8, .int .i64 a1_9, .slice A1_10 l1_10.length c1_10, .int .u32 a1_11]) (t := 42) ?hr ?_; (case hd => rfl); (case hg => rfl); (case hr => first | (go_simp; done) | (go_simp; rfl)); intro gb267 hg w23 hbox hb; have n0_ := Aside0.mk (blk_below (bk_ BK266) hb); have n1_ := Aside0.mk (below_step bs_ hb); have n2_ := Aside0.mk (hbox); have n3_ := Aside0.mk ((by rw [hg]; exact (below_size bs_) : w.heap.size ≤ gb267)); have n4_ := Aside0.mk ((by rw [hg]; exact (below_size bs_) : w.heap.size ≤ gb267)); have n5_ := Aside0.mk ((by rw [hg]; exact Nat.ne_of_lt (blk_lt (bk_ BK266)) : gb266 ≠ gb267)); have n6_ := Aside0.mk ((by rw [hg]; exact Nat.ne_of_gt (blk_lt (bk_ BK266)) : gb267 ≠ gb266)); clear BK266 HB; have BK266 := n0_; have HB := n1_; have BK267 := n2_; have GW267 := n3_; have GE267 := n4_; have NB266_267 := n5_; have NB267_266 := n6_; clear n0_ n1_ n2_ n3_ n4_ n5_ n6_; clear hb hbox hg) | ((with_reducible refine gate_dst (N := 4) rfl ?_); refine box_event ?hg (N := 4) ?hd (cs := #[.slice none 0 0, .bool false]) (t := 25) ?hr ?_; (case hd => rfl); (case hg => rfl); (case hr => first | (go_simp; done) | (go_simp; rfl)); intro gb268 hg w24 hbox hb; have n0_ := Aside0.mk (blk_below (bk_ BK266) hb); have n1_ := Aside0.mk (blk_below (bk_ BK267) hb); have n2_ := Aside0.mk (below_step bs_ hb); have n3_ := Aside0.mk (hbox); have n4_ := Aside0.mk ((by rw [hg]; exact (below_size bs_) : w.heap.size ≤ gb268)); have n5_ := Aside0.mk ((by rw [hg]; exact (below_size bs_) : w.heap.size ≤ gb268)); have n6_ := Aside0.mk ((by rw [hg]; exact Nat.ne_of_lt (blk_lt (bk_ BK266)) : gb266 ≠ gb268)); have n7_ := Aside0.mk ((by rw [hg]; exact Nat.ne_of_gt (blk_lt (bk_ BK266)) : gb268 ≠ gb266)); have n8_ := Aside0.mk ((by rw [hg]; exact Nat.ne_of_lt (blk_lt (bk_ BK267)) : gb267 ≠ gb268)); have n9_ := Aside0.mk ((by rw [hg]; exact Nat.ne_of_gt (blk_lt (bk_ BK267)) : gb268 ≠ gb267)); clear BK266 BK267 HB; have BK266 := n0_; have BK267 := n1_; have HB := n2_; have BK268 := n3_; have GW268 := n4_; have GE268 := n5_; have NB266_268 := n6_; have NB268_266 := n7_; have NB267_268 := n8_; have NB268_267 := n9_; clear n0_ n1_ n2_ n3_ n4_ n5_ n6_ n7_ n8_ n9_; clear hb hbox hg) | ((with_reducible refine gate_dst (N := 5) rfl ?_); refine box_event ?hg (N := 5) ?hd (cs := #[.int .i64 0, .int .i64 0, .int .i64 0, .int .i64 0, .slice none 0 0, .slice none 0 0, .int .i64 0, .int .i64 0, .int .i64 0, .int .i64 0, .slice none 0 0, .int .u32 0]) (t := 42) ?hr ?_; (case hd => rfl); (case hg => rfl); (case hr => first | (go_simp; done) | (go_simp; rfl)); intro gb269 hg w25 hbox hb; have n0_ := Aside0.mk (blk_below (bk_ BK266) hb); have n1_ := Aside0.mk (blk_below (bk_ BK267) hb); have n2_ := Aside0.mk (blk_below (bk_ BK268) hb); have n3_ := Aside0.mk (below_step bs_ hb); have n4_ := Aside0.mk (hbox); have n5_ := Aside0.mk ((by rw [hg]; exact (below_size bs_) : w.heap.size ≤ gb269)); have n6_ := Aside0.mk ((by rw [hg]; exact (below_size bs_) : w.heap.size ≤ gb269)); have n7_ := Aside0.mk ((by rw [hg]; exact Nat.ne_of_lt (blk_lt (bk_ BK266)) : gb266 ≠ gb269)); have n8_ := Aside0.mk ((by rw [hg]; exact Nat.ne_of_gt (blk_lt (bk_ BK266)) : gb269 ≠ gb266)); have n9_ := Aside0.mk ((by rw [hg]; exact Nat.ne_of_lt (blk_lt (bk_ BK267)) : gb267 ≠ gb269)); have n10_ := Aside0.mk ((by rw [hg]; exact Nat.ne_of_gt (blk_lt (bk_ BK267)) : gb269 ≠ gb267)); have n11_ := Aside0.mk ((by rw [hg]; exact Nat.ne_of_lt (blk_lt (bk_ BK268)) : gb268 ≠ gb269)); have n12_ := Aside0.mk ((by rw [hg]; exact Nat.ne_of_gt (blk_lt (bk_ BK268)) : gb269 ≠ gb268)); clear BK266 BK267 BK268 HB; have BK266 := n0_; have BK267 := n1_; have BK268 := n2_; have HB := n3_; have BK269 := n4_; have GW269 := n5_; have GE269 := n6_; have NB266_269 := n7_; have NB269_266 := n8_; have NB267_269 := n9_; have NB269_267 := n10_; have NB268_269 := n11_; have NB269_268 := n12_; clear n0_ n1_ n2_ n3_ n4_ n5_ n6_ n7_ n8_ n9_ n10_ n11_ n12_; clear hb hbox hg; have hnb26 := NB266_267.out; have hnc26 := NB267_266.out; have hnb27 := NB266_268.out; have hnc27 := NB268_266.out; have hnb28 := NB266_269.out; have hnc28 := NB269_266.out; obtain ⟨hcz29_0, hcz29_1, hfz29_0, hfz29_1⟩ := blk2 BK266) | ((with_reducible refine gate_callee (f := 21) rfl ?_); refine goesL_ (some 11) rfl rfl Try.func21 (by kernel_rfl) rfl #[.agg #[.slice A0_0 l0_0.length c0_0, .bool false]] rfl (by (try simp only [List.map_toArray, List.map_cons, List.map_nil]); first | done | rfl | (simp only [List.length_drop, List.length_take]; rfl)) ?_; (with_reducible refine (drydockref19_May.calls k _ _ l0_0 false true _ ?side1 ?side2 A3.out).mono ?_); (case side1 => repeat (first | exact (Kd.C_below HR0_0.out HB.out) | (with_reducible refine Kd.C_alloc ?_ _) | (with_reducible refine Kd.C_drewN ?_ _) | (with_reducible refine Kd.C_drew ?_))); (case side2 => exact HC0_0.out); rintro e w30 ⟨rfl, hb⟩; refine ⟨_, rfl, ?_⟩; have n0_ := Aside0.mk (blk_below (bk_ BK266) hb); have n1_ := Aside0.mk (blk_below (bk_ BK267) hb); have n2_ := Aside0.mk (blk_below (bk_ BK268) hb); have n3_ := Aside0.mk (blk_below (bk_ BK269) hb); have n4_ := Aside0.mk (below_step bs_ hb); clear BK266 BK267 BK268 BK269 HB; have BK266 := n0_; have BK267 := n1_; have BK268 := n2_; have BK269 := n3_; have HB := n4_; clear n0_ n1_ n2_ n3_ n4_; (try clear hb); (try clear hb2); (try clear hk); (try clear hi); obtain ⟨hcz31_0, hcz31_1, hfz31_0, hfz31_1⟩ := blk2 BK266; have hnb32 := NB267_268.out; have hnc32 := NB268_267.out; have hnb33 := NB267_269.out; have hnc33 := NB269_267.out; obtain ⟨hcz34_0, hcz34_1, hcz34_2, hcz34_3, hcz34_4, hcz34_5, hcz34_6, hcz34_7, hcz34_8, hcz34_9, hcz34_10, hcz34_11, hfz34_0, hfz34_1, hfz34_2, hfz34_3, hfz34_4, hfz34_5, hfz34_6, hfz34_7, hfz34_8, hfz34_9, hfz34_10, hfz34_11⟩ := blk12 BK267) | ((with_reducible refine gate_callee (f := 14) rfl ?_); refine goesL_ (some 21) rfl rfl Try.func14 (by kernel_rfl) rfl #[.agg #[.int .i64 a1_0, .int .i64 a1_1, .int .i64 a1_2, .int .i64 a1_3, .slice A1_4 l1_4.length c1_4, .slice A1_5 l1_5.length c1_5, .int .i64 a1_6, .int .i64 a1_7, .int .i64 a1_8, .int .i64 a1_9, .slice A1_10 l1_10.length c1_10, .int .u32 a1_11]] rfl (by (try simp only [List.map_toArray, List.map_cons, List.map_nil]); first | done | rfl | (simp only [List.length_drop, List.length_take]; rfl)) ?_; (with_reducible refine (drydockref18_Own.calls k a1_0 a1_1 a1_2 a1_3 _ _ l1_4 _ _ l1_5 a1_6 a1_7 a1_8 a1_9 _ _ l1_10 a1_11 t271 t272 t273 t274 t275 t278 t281 t282 t283 t284 t285 t288 _ ?side1 ?side2 ?side3 ?side4 ?side5 ?side6 A21.out).mono ?_); (case side1 => repeat (first | exact (Kd.C_below HR1_4.out HB.out) | (with_reducible refine Kd.C_alloc ?_ _) | (with_reducible refine Kd.C_drewN ?_ _) | (with_reducible refine Kd.C_drew ?_))); (case side2 => exact HC1_4.out); (case side3 => repeat (first | exact (Kd.C_below HR1_5.out HB.out) | (with_reducible refine Kd.C_alloc ?_ _) | (with_reducible refine Kd.C_drewN ?_ _) | (with_reducible refine Kd.C_drew ?_))); (case side4 => exact HC1_5.out); (case side5 => repeat (first | exact (Kd.C_below HR1_10.out HB.out) | (with_reducible refine Kd.C_alloc ?_ _) | (with_reducible refine Kd.C_drewN ?_ _) | (with_reducible refine Kd.C_drew ?_))); (case side6 => exact HC1_10.out); rintro e w35 ⟨v276, v279, v286, rfl, ho0, ho1, ho2, hb⟩; refine ⟨_, rfl, ?_⟩; have n0_ := Aside0.mk (Kd.S_lower ho0 (below_size bs_)); have n1_ := Aside0.mk (Kd.R_lower ho1 (below_size bs_)); have n2_ := Aside0.mk (Kd.S_lower ho2 (below_size bs_)); have n3_ := Aside0.mk (blk_below (bk_ BK266) hb); have n4_ := Aside0.mk (blk_below (bk_ BK267) hb); have n5_ := Aside0.mk (blk_below (bk_ BK268) hb); have n6_ := Aside0.mk (blk_below (bk_ BK269) hb); have n7_ := Aside0.mk (below_step bs_ hb); clear BK266 BK267 BK268 BK269 HB; have HO277 := n0_; have HO280 := n1_; have HO287 := n2_; have BK266 := n3_; have BK267 := n4_; have BK268 := n5_; have BK269 := n6_; have HB := n7_; clear n0_ n1_ n2_ n3_ n4_ n5_ n6_ n7_; (try clear hb); (try clear hb2); (try clear hk); (try clear hi); (try clear ho0); (try clear ho1); (try clear ho2); obtain ⟨Ao36, co36, eo36⟩ := Kd.S_slice HO287.out; subst eo36; obtain ⟨Ao37, co37, eo37⟩ := Kd.R_slice HO280.out; subst eo37; obtain ⟨Ao38, co38, eo38⟩ := Kd.S_slice HO277.out; subst eo38) | ((with_reducible refine gate_dst (N := 8) rfl ?_); refine box_event ?hg (N := 8) ?hd (cs := #[.int .i64 0, .int .i64 0, .int .i64 0, .int .i64 0, .slice none 0 0, .slice none 0 0, .int .i64 0, .int .i64 0, .int .i64 0, .int .i64 0, .slice none 0 0, .int .u32 0]) (t := 42) ?hr ?_; (case hd => rfl); (case hg => rfl); (case hr => first | (go_simp; done) | (go_simp; rfl)); intro gb289 hg w39 hbox hb; have n0_ := Aside0.mk (Kd.S_below (by (with_reducible repeat (first | apply Kd.S_alloc | apply Kd.S_drewN | apply Kd.S_drew)); exact HO277.out) hb); have n1_ := Aside0.mk (Kd.R_below (rk_ HO280) hb); have n2_ := Aside0.mk (Kd.S_below (by (with_reducible repeat (first | apply Kd.S_alloc | apply Kd.S_drewN | apply Kd.S_drew)); exact HO287.out) hb); have n3_ := Aside0.mk (blk_below (bk_ BK266) hb); have n4_ := Aside0.mk (blk_below (bk_ BK267) hb); have n5_ := Aside0.mk (blk_below (bk_ BK268) hb); have n6_ := Aside0.mk (blk_below (bk_ BK269) hb); have n7_ := Aside0.mk (below_step bs_ hb); have n8_ := Aside0.mk (hbox); have n9_ := Aside0.mk ((by rw [hg]; exact (below_size bs_) : w.heap.size ≤ gb289)); have n10_ := Aside0.mk ((by rw [hg]; exact (below_size bs_) : w.heap.size ≤ gb289)); have n11_ := Aside0.mk ((by rw [hg]; exact Nat.ne_of_lt (blk_lt (bk_ BK266)) : gb266 ≠ gb289)); have n12_ := Aside0.mk ((by rw [hg]; exact Nat.ne_of_gt (blk_lt (bk_ BK266)) : gb289 ≠ gb266)); have n13_ := Aside0.mk ((by rw [hg]; exact Nat.ne_of_lt (blk_lt (bk_ BK267)) : gb267 ≠ gb289)); have n14_ := Aside0.mk ((by rw [hg]; exact Nat.ne_of_gt (blk_lt (bk_ BK267)) : gb289 ≠ gb267)); have n15_ := Aside0.mk ((by rw [hg]; exact Nat.ne_of_lt (blk_lt (bk_ BK268)) : gb268 ≠ gb289)); have n16_ := Aside0.mk ((by rw [hg]; exact Nat.ne_of_gt (blk_lt (bk_ BK268)) : gb289 ≠ gb268)); have n17_ := Aside0.mk ((by rw [hg]; exact Nat.ne_of_lt (blk_lt (bk_ BK269)) : gb269 ≠ gb289)); have n18_ := Aside0.mk ((by rw [hg]; exact Nat.ne_of_gt (blk_lt (bk_ BK269)) : gb289 ≠ gb269)); clear HO277 HO280 HO287 BK266 BK267 BK268 BK269 HB; have HO277 := n0_; have HO280 := n1_; have HO287 := n2_; have BK266 := n3_; have BK267 := n4_; have BK268 := n5_; have BK269 := n6_; have HB := n7_; have BK289 := n8_; have GW289 := n9_; have GE289 := n10_; have NB266_289 := n11_; have NB289_266 := n12_; have NB267_289 := n13_; have NB289_267 := n14_; have NB268_289 := n15_; have NB289_268 := n16_; have NB269_289 := n17_; have NB289_269 := n18_; clear n0_ n1_ n2_ n3_ n4_ n5_ n6_ n7_ n8_ n9_ n10_ n11_ n12_ n13_ n14_ n15_ n16_ n17_ n18_; clear hb hbox hg; have hnb40 := NB289_266.out; have hnc40 := NB266_289.out; have hnb41 := NB289_267.out; have hnc41 := NB267_289.out; have hnb42 := NB289_268.out; have hnc42 := NB268_289.out; have hnb43 := NB289_269.out; have hnc43 := NB269_289.out; obtain ⟨hcz44_0, hcz44_1, hcz44_2, hcz44_3, hcz44_4, hcz44_5, hcz44_6, hcz44_7, hcz44_8, hcz44_9, hcz44_10, hcz44_11, hfz44_0, hfz44_1, hfz44_2, hfz44_3, hfz44_4, hfz44_5, hfz44_6, hfz44_7, hfz44_8, hfz44_9, hfz44_10, hfz44_11⟩ := blk12 BK289))
   go_loopg [9] k (fun kq v9 w' => ∃ (x9_1 : Int) (x290005_1 : List Int) (u290005 : Value), v9 = .int .i64 x9_1 ∧ Aside0 (drydockref19_Put.l0 kq x9_1 l0_0 false a1_0 a1_1 a1_2 a1_3 l1_4 l1_5 a1_6 a1_7 a1_8 a1_9 l1_10 a1_11 t271 t272 t273 t274 t275 x290005_1 t281 t282 t283 t284 t285 t288 = some (r1, r2, r3, r4, r5, r6, r7, r8, r9, r10, r11, r12, r13, r14, r15)) ∧ Aside0 (kq ≤ k) ∧ Aside0 (Kd.S k61 61 w' w.heap.size (fun _ => True) (.slice Ao38 t275.length co38) t275) ∧ Aside0 (Kd.R (Kd.int .u32) 27 w' w.heap.size (fun _ => True) u290005 x290005_1) ∧ Aside0 (Kd.S k63 63 w' w.heap.size (fun k_ => some k_ ≠ (u290005 : Value).ownBlock) (.slice Ao36 t285.length co36) t285) ∧ Aside0 (w'.heap[gb266]? = some (.cells #[(.slice A0_0 l0_0.length c0_0), .bool false] 25 (0, 0))) ∧ Aside0 (w'.heap[gb267]? = some (.cells #[.int .i64 a1_0, .int .i64 a1_1, .int .i64 a1_2, .int .i64 a1_3, (.slice A1_4 l1_4.length c1_4), (.slice A1_5 l1_5.length c1_5), .int .i64 a1_6, .int .i64 a1_7, .int .i64 a1_8, .int .i64 a1_9, (.slice A1_10 l1_10.length c1_10), .int .u32 a1_11] 42 (0, 0))) ∧ Aside0 (w'.heap[gb268]? = some (.cells #[(.slice none 0 0), .bool false] 25 (0, 0))) ∧ Aside0 (w'.heap[gb269]? = some (.cells #[.int .i64 0, .int .i64 0, .int .i64 0, .int .i64 0, (.slice none 0 0), (.slice none 0 0), .int .i64 0, .int .i64 0, .int .i64 0, .int .i64 0, (.slice none 0 0), .int .u32 0] 42 (0, 0))) ∧ Aside0 (w'.heap[gb289]? = some (.cells #[.int .i64 t271, .int .i64 t272, .int .i64 t273, .int .i64 t274, (.slice Ao38 t275.length co38), u290005, .int .i64 t281, .int .i64 t282, .int .i64 t283, .int .i64 t284, (.slice Ao36 t285.length co36), .int .u32 t288] 42 (0, 0))) ∧ Aside0 (Below w.heap.size w w'))
   case atStart => exact ⟨(0), (([] : List Int)), (.slice none 0 0), eq_, H', ⟨Nat.le_refl _⟩, ⟨by (with_reducible repeat (first | apply Kd.S_alloc | apply Kd.S_drewN | apply Kd.S_drew)); exact Kd.S_mono (Kd.S_far (p := ⟨gb289, 5, none⟩) (Kd.S_far (p := ⟨gb289, 11, none⟩) (Kd.S_far (p := ⟨gb289, 10, none⟩) (Kd.S_far (p := ⟨gb289, 9, none⟩) (Kd.S_far (p := ⟨gb289, 8, none⟩) (Kd.S_far (p := ⟨gb289, 7, none⟩) (Kd.S_far (p := ⟨gb289, 6, none⟩) (Kd.S_far (p := ⟨gb289, 5, none⟩) (Kd.S_far (p := ⟨gb289, 4, none⟩) (Kd.S_far (p := ⟨gb289, 3, none⟩) (Kd.S_far (p := ⟨gb289, 2, none⟩) (Kd.S_far (p := ⟨gb289, 1, none⟩) (Kd.S_far (p := ⟨gb289, 0, none⟩) (Kd.S_types HO277.out BK289.out (by decide)) (fun _ hk => hk.2) (.int .i64 t271)) (fun _ hk => hk.2) (.int .i64 t272)) (fun _ hk => hk.2) (.int .i64 t273)) (fun _ hk => hk.2) (.int .i64 t274)) (fun _ hk => hk.2) (.slice Ao38 t275.length co38)) (fun _ hk => hk.2) (.slice Ao37 t278.length co37)) (fun _ hk => hk.2) (.int .i64 t281)) (fun _ hk => hk.2) (.int .i64 t282)) (fun _ hk => hk.2) (.int .i64 t283)) (fun _ hk => hk.2) (.int .i64 t284)) (fun _ hk => hk.2) (.slice Ao36 t285.length co36)) (fun _ hk => hk.2) (.int .u32 t288)) (fun _ hk => hk.2) (.slice none 0 0)) (fun _ hk => trivial)⟩, ⟨by first | exact Kd.R_nil _ _ _ _ _ | exact Kd.N_nil _ _ _ _ _ | exact Kd.V_nil _ _ _ _ _ | exact Kd.Q_nil _ _ _ _ _ | exact Kd.S_nil _ _ _ _ _⟩, ⟨by (with_reducible repeat (first | apply Kd.S_alloc | apply Kd.S_drewN | apply Kd.S_drew)); exact Kd.S_mono (Kd.S_far (p := ⟨gb289, 5, none⟩) (Kd.S_far (p := ⟨gb289, 11, none⟩) (Kd.S_far (p := ⟨gb289, 10, none⟩) (Kd.S_far (p := ⟨gb289, 9, none⟩) (Kd.S_far (p := ⟨gb289, 8, none⟩) (Kd.S_far (p := ⟨gb289, 7, none⟩) (Kd.S_far (p := ⟨gb289, 6, none⟩) (Kd.S_far (p := ⟨gb289, 5, none⟩) (Kd.S_far (p := ⟨gb289, 4, none⟩) (Kd.S_far (p := ⟨gb289, 3, none⟩) (Kd.S_far (p := ⟨gb289, 2, none⟩) (Kd.S_far (p := ⟨gb289, 1, none⟩) (Kd.S_far (p := ⟨gb289, 0, none⟩) (Kd.S_types HO287.out BK289.out (by decide)) (fun _ hk => hk.2) (.int .i64 t271)) (fun _ hk => hk.2) (.int .i64 t272)) (fun _ hk => hk.2) (.int .i64 t273)) (fun _ hk => hk.2) (.int .i64 t274)) (fun _ hk => hk.2) (.slice Ao38 t275.length co38)) (fun _ hk => hk.2) (.slice Ao37 t278.length co37)) (fun _ hk => hk.2) (.int .i64 t281)) (fun _ hk => hk.2) (.int .i64 t282)) (fun _ hk => hk.2) (.int .i64 t283)) (fun _ hk => hk.2) (.int .i64 t284)) (fun _ hk => hk.2) (.slice Ao36 t285.length co36)) (fun _ hk => hk.2) (.int .u32 t288)) (fun _ hk => hk.2) (.slice none 0 0)) (fun _ hk => (by simp [Value.ownBlock]))⟩, ⟨bf_ BK266⟩, ⟨bf_ BK267⟩, ⟨bf_ BK268⟩, ⟨bf_ BK269⟩, ⟨bp_ BK289⟩, ⟨bs_⟩⟩
   case round =>
    clear H'
    try clear c4
    try clear c5
    try clear hcz29_0
    try clear hcz29_1
    try clear hcz31_0
    try clear hcz31_1
    try clear hcz34_0
    try clear hcz34_1
    try clear hcz34_10
    try clear hcz34_11
    try clear hcz34_2
    try clear hcz34_3
    try clear hcz34_4
    try clear hcz34_5
    try clear hcz34_6
    try clear hcz34_7
    try clear hcz34_8
    try clear hcz34_9
    try clear hcz44_0
    try clear hcz44_1
    try clear hcz44_10
    try clear hcz44_11
    try clear hcz44_2
    try clear hcz44_3
    try clear hcz44_4
    try clear hcz44_5
    try clear hcz44_6
    try clear hcz44_7
    try clear hcz44_8
    try clear hcz44_9
    try clear hfz29_0
    try clear hfz29_1
    try clear hfz31_0
    try clear hfz31_1
    try clear hfz34_0
    try clear hfz34_1
    try clear hfz34_10
    try clear hfz34_11
    try clear hfz34_2
    try clear hfz34_3
    try clear hfz34_4
    try clear hfz34_5
    try clear hfz34_6
    try clear hfz34_7
    try clear hfz34_8
    try clear hfz34_9
    try clear hfz44_0
    try clear hfz44_1
    try clear hfz44_10
    try clear hfz44_11
    try clear hfz44_2
    try clear hfz44_3
    try clear hfz44_4
    try clear hfz44_5
    try clear hfz44_6
    try clear hfz44_7
    try clear hfz44_8
    try clear hfz44_9
    obtain ⟨x9_1, x290005_1, u290005, rfl, HA, HK1, HO_290004, HO_290005, HO_290010, BK266, BK267, BK268, BK269, BK289, HB⟩ := hrel
    cases gk with
    | zero => exact absurd HA.out (by simp [drydockref19_Put.l0])
    | succ k1 =>
     have H := HA.out
     clear HA
     simp only [drydockref19_Put.l0] at H
     by_cases c45 : x9_1 < (l1_5.length : Int)
     ·rw [if_pos c45] at H
      have c45b0 : decide (x9_1 < (l1_5.length : Int)) = true := decide_eq_true c45
      clear c45
      by_cases c46 : 0 ≤ x9_1
      ·rw [if_pos c46] at H
       have c46b0 : decide (0 ≤ x9_1) = true := decide_eq_true c46
       clear c46
       replace H := Option.bind_eq_some_iff.mp H
       obtain ⟨t291, A470, H⟩ := H
       replace H : (if t291 = true then (drydockref19_Put.l0 k1 (wrap64 (x9_1 + 1)) l0_0 false a1_0 a1_1 a1_2 a1_3 l1_4 l1_5 a1_6 a1_7 a1_8 a1_9 l1_10 a1_11 t271 t272 t273 t274 t275 x290005_1 t281 t282 t283 t284 t285 t288) else (if x290005_1.length < 35184372088832 then (drydockref19_Put.l0 k1 (wrap64 (x9_1 + 1)) l0_0 false a1_0 a1_1 a1_2 a1_3 l1_4 l1_5 a1_6 a1_7 a1_8 a1_9 l1_10 a1_11 t271 t272 t273 t274 t275 (x290005_1 ++ [rd l1_5 x9_1]) t281 t282 t283 t284 t285 t288) else (none))) = some (r1, r2, r3, r4, r5, r6, r7, r8, r9, r10, r11, r12, r13, r14, r15) := H
       have A47 := Aside0.mk A470
       clear A470
       by_cases c48 : t291 = true
       ·subst c48
        have H1 : (drydockref19_Put.l0 k1 (wrap64 (x9_1 + 1)) l0_0 false a1_0 a1_1 a1_2 a1_3 l1_4 l1_5 a1_6 a1_7 a1_8 a1_9 l1_10 a1_11 t271 t272 t273 t274 t275 x290005_1 t281 t282 t283 t284 t285 t288) = some (r1, r2, r3, r4, r5, r6, r7, r8, r9, r10, r11, r12, r13, r14, r15) := by rw [if_pos rfl] at H; exact H
        clear H
        have H := H1
        clear H1
        have H' := Aside0.mk H
        clear H
        have hnb49 := NB267_266.out
        have hnc49 := NB266_267.out
        have hnb50 := NB267_268.out
        have hnc50 := NB268_267.out
        have hnb51 := NB267_269.out
        have hnc51 := NB269_267.out
        have hnb52 := NB267_289.out
        have hnc52 := NB289_267.out
        obtain ⟨hcz53_0, hcz53_1, hcz53_2, hcz53_3, hcz53_4, hcz53_5, hcz53_6, hcz53_7, hcz53_8, hcz53_9, hcz53_10, hcz53_11, hfz53_0, hfz53_1, hfz53_2, hfz53_3, hfz53_4, hfz53_5, hfz53_6, hfz53_7, hfz53_8, hfz53_9, hfz53_10, hfz53_11⟩ := blk12 BK267
        try go_wp2
        have n0_ := Aside0.mk (Kd.S_drew HO_290004.out)
        have n1_ := Aside0.mk (Kd.R_drew HO_290005.out)
        have n2_ := Aside0.mk (Kd.S_drew HO_290010.out)
        have n3_ := Aside0.mk (blk_drew BK266.out)
        have n4_ := Aside0.mk (blk_drew BK267.out)
        have n5_ := Aside0.mk (blk_drew BK268.out)
        have n6_ := Aside0.mk (blk_drew BK269.out)
        have n7_ := Aside0.mk (blk_drew BK289.out)
        have n8_ := Aside0.mk (below_drew1 HB.out)
        clear HO_290004 HO_290005 HO_290010 BK266 BK267 BK268 BK269 BK289 HB
        have HO_290004 := n0_
        have HO_290005 := n1_
        have HO_290010 := n2_
        have BK266 := n3_
        have BK267 := n4_
        have BK268 := n5_
        have BK269 := n6_
        have BK289 := n7_
        have HB := n8_
        clear n0_ n1_ n2_ n3_ n4_ n5_ n6_ n7_ n8_
        have p290 : 0 ≤ (x9_1 : Int) := of_decide_eq_true (by first | (with_reducible assumption) | assumption)
        have q290 : x9_1 < (l1_5.length : Int) := of_decide_eq_true (by first | (with_reducible assumption) | assumption)
        obtain ⟨ad290, e290, hx290_0⟩ := Kd.at_int HR1_5.out x9_1 p290 q290
        have hw290_0 := hx290_0
        cases e290
        replace hx290_0 := (HB.out.cell (World.block_lt_of_cell? w _ hx290_0)).trans hx290_0
        replace p290 := eq_true p290
        replace q290 := eq_true q290
        refine start_ (n := 9) (S := fun w' => w'.cell? ⟨gb266, 0, none⟩ = some (.slice A0_0 l0_0.length c0_0) ∧ w'.cell? ⟨gb266, 1, none⟩ = some (.bool false) ∧ w'.cell? ⟨gb267, 0, none⟩ = some (.int .i64 a1_0) ∧ w'.cell? ⟨gb267, 1, none⟩ = some (.int .i64 a1_1) ∧ w'.cell? ⟨gb267, 2, none⟩ = some (.int .i64 a1_2) ∧ w'.cell? ⟨gb267, 3, none⟩ = some (.int .i64 a1_3) ∧ w'.cell? ⟨gb267, 4, none⟩ = some (.slice A1_4 l1_4.length c1_4) ∧ w'.cell? ⟨gb267, 5, none⟩ = some (.slice (some ad290) l1_5.length c1_5) ∧ w'.cell? ⟨gb267, 6, none⟩ = some (.int .i64 a1_6) ∧ w'.cell? ⟨gb267, 7, none⟩ = some (.int .i64 a1_7) ∧ w'.cell? ⟨gb267, 8, none⟩ = some (.int .i64 a1_8) ∧ w'.cell? ⟨gb267, 9, none⟩ = some (.int .i64 a1_9) ∧ w'.cell? ⟨gb267, 10, none⟩ = some (.slice A1_10 l1_10.length c1_10) ∧ w'.cell? ⟨gb267, 11, none⟩ = some (.int .u32 a1_11) ∧ w'.cell? (ad290.add (x9_1).toNat) = some (.int .u32 (rd l1_5 x9_1))) (ds := []) #[false, false, false, false, false, false, false, false, false] (by kernel_rfl) rfl rfl ⟨(blk_cell BK266.out 0).trans rfl, (blk_cell BK266.out 1).trans rfl, (blk_cell BK267.out 0).trans rfl, (blk_cell BK267.out 1).trans rfl, (blk_cell BK267.out 2).trans rfl, (blk_cell BK267.out 3).trans rfl, (blk_cell BK267.out 4).trans rfl, (blk_cell BK267.out 5).trans rfl, (blk_cell BK267.out 6).trans rfl, (blk_cell BK267.out 7).trans rfl, (blk_cell BK267.out 8).trans rfl, (blk_cell BK267.out 9).trans rfl, (blk_cell BK267.out 10).trans rfl, (blk_cell BK267.out 11).trans rfl, ((HB.out.cell (World.block_lt_of_cell? w _ hw290_0)).trans hw290_0)⟩ (fun hHeld => ?_); refine with_tabW drydockref19_Put.tab11 drydockref19_Put.bits11 (fun HT_ HW_ => ?_)
        generalize wr.drew = w54 at HO_290004 HO_290005 HO_290010 BK266 BK267 BK268 BK269 BK289 HB hx290_0 hHeld ⊢
        refine pv_ 0 (some 30) HT_ (h := ?_)
        refine pv_ 2 (some 32) HT_ (h := ?_)
        refine pv_ 4 (some 34) HT_ (h := ?_)
        refine tk_ 1 (some 31) HT_ HW_ hHeld (h := ?_)
        refine tk_ 3 (some 33) HT_ HW_ hHeld (h := ?_)
        refine pv_ 5 (some 35) HT_ (h := ?_)
        refine tk_ 6 (some 36) HT_ HW_ hHeld (h := ?_)
        refine one_ (i := 7) (N := some 37) #[true, true, true, true, true, true, true, true, false] rfl rfl (one_of HT_.out (by kernel_rfl)) (by decide) (fun K hK => ?_)
        refine goes_ Try.func9 (by kernel_rfl) rfl #[.slice A0_0 l0_0.length c0_0, .int .u32 (rd l1_5 x9_1)] (by rfl) rfl rfl (by (try simp only [List.map_toArray, List.map_cons, List.map_nil]); first | done | rfl | (simp only [List.length_drop, List.length_take]; rfl)) ?_
        with_reducible refine (drydockref19_Has.calls k1 _ _ l0_0 (rd l1_5 x9_1) true _ ?side1 ?side2 A47.out).mono ?_
        (case side1 => repeat (first | exact (Kd.C_below HR0_0.out HB.out) | (with_reducible refine Kd.C_alloc ?_ _) | (with_reducible refine Kd.C_drewN ?_ _) | (with_reducible refine Kd.C_drew ?_)))
        (case side2 => exact HC0_0.out)
        rintro e w' ⟨rfl, ⟨nd, rfl⟩⟩
        refine ⟨_, rfl, ?_⟩
        refine hK.out _ _ ⟨(blk_cell BK266.out 0).trans rfl, (blk_cell BK266.out 1).trans rfl, (blk_cell BK267.out 0).trans rfl, (blk_cell BK267.out 1).trans rfl, (blk_cell BK267.out 2).trans rfl, (blk_cell BK267.out 3).trans rfl, (blk_cell BK267.out 4).trans rfl, (blk_cell BK267.out 5).trans rfl, (blk_cell BK267.out 6).trans rfl, (blk_cell BK267.out 7).trans rfl, (blk_cell BK267.out 8).trans rfl, (blk_cell BK267.out 9).trans rfl, (blk_cell BK267.out 10).trans rfl, (blk_cell BK267.out 11).trans rfl, ((HB.out.cell (World.block_lt_of_cell? w _ hw290_0)).trans hw290_0)⟩ (fun hHeld => ?_)
        clear hK K
        refine norm_ (a' := ?_) ?_ ?_
        rotate_left
        ·show Act.put _ (some 37) _ = _
         simp only [Act.put, List.setIfInBounds_toArray, List.set_cons_zero, List.set_cons_succ, i64_w, i32_w]
         rfl
        refine pv_ 8 (some 38) HT_ (h := ?_)
        refine done_ (done_of HT_.out (by kernel_rfl)) ?_
        try go_wp2
        go_roundg k1
        case measure => have := HK1.out; omega
        case rel => exact ⟨(wrap64 (x9_1 + 1)), (x290005_1), (u290005), eq_, H', ⟨by have := HK1.out; omega⟩, ⟨by (with_reducible repeat (first | apply Kd.S_alloc | apply Kd.S_drewN | apply Kd.S_drew)); exact HO_290004.out⟩, ⟨by (with_reducible repeat (first | apply Kd.R_alloc | apply Kd.R_drewN | apply Kd.R_drew)); exact HO_290005.out⟩, ⟨by (with_reducible repeat (first | apply Kd.S_alloc | apply Kd.S_drewN | apply Kd.S_drew)); exact HO_290010.out⟩, ⟨bk_ BK266⟩, ⟨bk_ BK267⟩, ⟨bk_ BK268⟩, ⟨bk_ BK269⟩, ⟨bk_ BK289⟩, ⟨bs_⟩⟩
       ·replace c48 := Bool.eq_false_iff.mpr c48
        subst c48
        have H1 : (if x290005_1.length < 35184372088832 then (drydockref19_Put.l0 k1 (wrap64 (x9_1 + 1)) l0_0 false a1_0 a1_1 a1_2 a1_3 l1_4 l1_5 a1_6 a1_7 a1_8 a1_9 l1_10 a1_11 t271 t272 t273 t274 t275 (x290005_1 ++ [rd l1_5 x9_1]) t281 t282 t283 t284 t285 t288) else (none)) = some (r1, r2, r3, r4, r5, r6, r7, r8, r9, r10, r11, r12, r13, r14, r15) := by rw [if_neg (show ¬ (false = true) by decide)] at H; exact H
        clear H
        have H := H1
        clear H1
        by_cases c55 : x290005_1.length < 35184372088832
        ·rw [if_pos c55] at H
         have LMc55 := Aside0.mk c55
         clear c55
         obtain ⟨y293, hy293⟩ : ∃ y_ : List Int, y_ = (x290005_1 ++ [rd l1_5 x9_1]) := ⟨_, rfl⟩
         replace H : (drydockref19_Put.l0 k1 (wrap64 (x9_1 + 1)) l0_0 false a1_0 a1_1 a1_2 a1_3 l1_4 l1_5 a1_6 a1_7 a1_8 a1_9 l1_10 a1_11 t271 t272 t273 t274 t275 y293 t281 t282 t283 t284 t285 t288) = some (r1, r2, r3, r4, r5, r6, r7, r8, r9, r10, r11, r12, r13, r14, r15) := by first | (rw [hy293]; with_reducible exact H) | (have H2_ := (Option.bind_some _ _).symm.trans H; rw [hy293]; with_reducible exact H2_) | (have H2_ := (Option.bind_some _ _).symm.trans H; with_reducible exact H2_) | with_reducible exact H | (rw [hy293]; exact H) | exact H
         have Ny293 := Aside0.mk hy293
         clear hy293
         have H' := Aside0.mk H
         clear H
         have hnb56 := NB267_266.out
         have hnc56 := NB266_267.out
         have hnb57 := NB267_268.out
         have hnc57 := NB268_267.out
         have hnb58 := NB267_269.out
         have hnc58 := NB269_267.out
         have hnb59 := NB267_289.out
         have hnc59 := NB289_267.out
         obtain ⟨hcz60_0, hcz60_1, hcz60_2, hcz60_3, hcz60_4, hcz60_5, hcz60_6, hcz60_7, hcz60_8, hcz60_9, hcz60_10, hcz60_11, hfz60_0, hfz60_1, hfz60_2, hfz60_3, hfz60_4, hfz60_5, hfz60_6, hfz60_7, hfz60_8, hfz60_9, hfz60_10, hfz60_11⟩ := blk12 BK267
         try go_wp2
         have n0_ := Aside0.mk (Kd.S_drew HO_290004.out)
         have n1_ := Aside0.mk (Kd.R_drew HO_290005.out)
         have n2_ := Aside0.mk (Kd.S_drew HO_290010.out)
         have n3_ := Aside0.mk (blk_drew BK266.out)
         have n4_ := Aside0.mk (blk_drew BK267.out)
         have n5_ := Aside0.mk (blk_drew BK268.out)
         have n6_ := Aside0.mk (blk_drew BK269.out)
         have n7_ := Aside0.mk (blk_drew BK289.out)
         have n8_ := Aside0.mk (below_drew1 HB.out)
         clear HO_290004 HO_290005 HO_290010 BK266 BK267 BK268 BK269 BK289 HB
         have HO_290004 := n0_
         have HO_290005 := n1_
         have HO_290010 := n2_
         have BK266 := n3_
         have BK267 := n4_
         have BK268 := n5_
         have BK269 := n6_
         have BK289 := n7_
         have HB := n8_
         clear n0_ n1_ n2_ n3_ n4_ n5_ n6_ n7_ n8_
         have p290 : 0 ≤ (x9_1 : Int) := of_decide_eq_true (by first | (with_reducible assumption) | assumption)
         have q290 : x9_1 < (l1_5.length : Int) := of_decide_eq_true (by first | (with_reducible assumption) | assumption)
         obtain ⟨ad290, e290, hx290_0⟩ := Kd.at_int HR1_5.out x9_1 p290 q290
         have hw290_0 := hx290_0
         cases e290
         replace hx290_0 := (HB.out.cell (World.block_lt_of_cell? w _ hx290_0)).trans hx290_0
         replace p290 := eq_true p290
         replace q290 := eq_true q290
         refine start_ (n := 9) (S := fun w' => w'.cell? ⟨gb266, 0, none⟩ = some (.slice A0_0 l0_0.length c0_0) ∧ w'.cell? ⟨gb266, 1, none⟩ = some (.bool false) ∧ w'.cell? ⟨gb267, 0, none⟩ = some (.int .i64 a1_0) ∧ w'.cell? ⟨gb267, 1, none⟩ = some (.int .i64 a1_1) ∧ w'.cell? ⟨gb267, 2, none⟩ = some (.int .i64 a1_2) ∧ w'.cell? ⟨gb267, 3, none⟩ = some (.int .i64 a1_3) ∧ w'.cell? ⟨gb267, 4, none⟩ = some (.slice A1_4 l1_4.length c1_4) ∧ w'.cell? ⟨gb267, 5, none⟩ = some (.slice (some ad290) l1_5.length c1_5) ∧ w'.cell? ⟨gb267, 6, none⟩ = some (.int .i64 a1_6) ∧ w'.cell? ⟨gb267, 7, none⟩ = some (.int .i64 a1_7) ∧ w'.cell? ⟨gb267, 8, none⟩ = some (.int .i64 a1_8) ∧ w'.cell? ⟨gb267, 9, none⟩ = some (.int .i64 a1_9) ∧ w'.cell? ⟨gb267, 10, none⟩ = some (.slice A1_10 l1_10.length c1_10) ∧ w'.cell? ⟨gb267, 11, none⟩ = some (.int .u32 a1_11) ∧ w'.cell? (ad290.add (x9_1).toNat) = some (.int .u32 (rd l1_5 x9_1))) (ds := []) #[false, false, false, false, false, false, false, false, false] (by kernel_rfl) rfl rfl ⟨(blk_cell BK266.out 0).trans rfl, (blk_cell BK266.out 1).trans rfl, (blk_cell BK267.out 0).trans rfl, (blk_cell BK267.out 1).trans rfl, (blk_cell BK267.out 2).trans rfl, (blk_cell BK267.out 3).trans rfl, (blk_cell BK267.out 4).trans rfl, (blk_cell BK267.out 5).trans rfl, (blk_cell BK267.out 6).trans rfl, (blk_cell BK267.out 7).trans rfl, (blk_cell BK267.out 8).trans rfl, (blk_cell BK267.out 9).trans rfl, (blk_cell BK267.out 10).trans rfl, (blk_cell BK267.out 11).trans rfl, ((HB.out.cell (World.block_lt_of_cell? w _ hw290_0)).trans hw290_0)⟩ (fun hHeld => ?_); refine with_tabW drydockref19_Put.tab11 drydockref19_Put.bits11 (fun HT_ HW_ => ?_)
         generalize wr.drew = w61 at HO_290004 HO_290005 HO_290010 BK266 BK267 BK268 BK269 BK289 HB hx290_0 hHeld ⊢
         refine pv_ 0 (some 30) HT_ (h := ?_)
         refine pv_ 2 (some 32) HT_ (h := ?_)
         refine pv_ 4 (some 34) HT_ (h := ?_)
         refine tk_ 1 (some 31) HT_ HW_ hHeld (h := ?_)
         refine tk_ 3 (some 33) HT_ HW_ hHeld (h := ?_)
         refine pv_ 5 (some 35) HT_ (h := ?_)
         refine tk_ 6 (some 36) HT_ HW_ hHeld (h := ?_)
         refine one_ (i := 7) (N := some 37) #[true, true, true, true, true, true, true, true, false] rfl rfl (one_of HT_.out (by kernel_rfl)) (by decide) (fun K hK => ?_)
         refine goes_ Try.func9 (by kernel_rfl) rfl #[.slice A0_0 l0_0.length c0_0, .int .u32 (rd l1_5 x9_1)] (by rfl) rfl rfl (by (try simp only [List.map_toArray, List.map_cons, List.map_nil]); first | done | rfl | (simp only [List.length_drop, List.length_take]; rfl)) ?_
         with_reducible refine (drydockref19_Has.calls k1 _ _ l0_0 (rd l1_5 x9_1) false _ ?side1 ?side2 A47.out).mono ?_
         (case side1 => repeat (first | exact (Kd.C_below HR0_0.out HB.out) | (with_reducible refine Kd.C_alloc ?_ _) | (with_reducible refine Kd.C_drewN ?_ _) | (with_reducible refine Kd.C_drew ?_)))
         (case side2 => exact HC0_0.out)
         rintro e w' ⟨rfl, ⟨nd, rfl⟩⟩
         refine ⟨_, rfl, ?_⟩
         refine hK.out _ _ ⟨(blk_cell BK266.out 0).trans rfl, (blk_cell BK266.out 1).trans rfl, (blk_cell BK267.out 0).trans rfl, (blk_cell BK267.out 1).trans rfl, (blk_cell BK267.out 2).trans rfl, (blk_cell BK267.out 3).trans rfl, (blk_cell BK267.out 4).trans rfl, (blk_cell BK267.out 5).trans rfl, (blk_cell BK267.out 6).trans rfl, (blk_cell BK267.out 7).trans rfl, (blk_cell BK267.out 8).trans rfl, (blk_cell BK267.out 9).trans rfl, (blk_cell BK267.out 10).trans rfl, (blk_cell BK267.out 11).trans rfl, ((HB.out.cell (World.block_lt_of_cell? w _ hw290_0)).trans hw290_0)⟩ (fun hHeld => ?_)
         clear hK K
         refine norm_ (a' := ?_) ?_ ?_
         rotate_left
         ·show Act.put _ (some 37) _ = _
          simp only [Act.put, List.setIfInBounds_toArray, List.set_cons_zero, List.set_cons_succ, i64_w, i32_w]
          rfl
         refine pv_ 8 (some 38) HT_ (h := ?_)
         refine done_ (done_of HT_.out (by kernel_rfl)) ?_
         try go_wp2
         (try (rw [drewN_self w61]; generalize hq_ : World.drewN w61 _ = w61; have n0_ : Aside0 (Kd.S k61 61 w61 w.heap.size (fun _ => True) (.slice Ao38 t275.length co38) t275) := ⟨by rw [← hq_]; exact (by (with_reducible repeat (first | apply Kd.S_alloc | apply Kd.S_drewN | apply Kd.S_drew)); exact HO_290004.out)⟩; have n1_ : Aside0 (Kd.R (Kd.int .u32) 27 w61 w.heap.size (fun _ => True) u290005 x290005_1) := ⟨by rw [← hq_]; exact (rk_ HO_290005)⟩; have n2_ : Aside0 (Kd.S k63 63 w61 w.heap.size (fun k_ => some k_ ≠ (u290005 : Value).ownBlock) (.slice Ao36 t285.length co36) t285) := ⟨by rw [← hq_]; exact (by (with_reducible repeat (first | apply Kd.S_alloc | apply Kd.S_drewN | apply Kd.S_drew)); exact HO_290010.out)⟩; have n3_ : Aside0 (w61.heap[gb266]? = some (.cells #[.slice A0_0 l0_0.length c0_0, .bool false] 25 (0, 0))) := ⟨by rw [← hq_]; exact (by (with_reducible repeat (first | refine blk_drewN ?_ _ | refine blk_drew ?_ | refine blk_alloc ?_ _)); exact BK266.out)⟩; have n4_ : Aside0 (w61.heap[gb267]? = some (.cells #[.int .i64 a1_0, .int .i64 a1_1, .int .i64 a1_2, .int .i64 a1_3, .slice A1_4 l1_4.length c1_4, .slice (some ad290) l1_5.length c1_5, .int .i64 a1_6, .int .i64 a1_7, .int .i64 a1_8, .int .i64 a1_9, .slice A1_10 l1_10.length c1_10, .int .u32 a1_11] 42 (0, 0))) := ⟨by rw [← hq_]; exact (by (with_reducible repeat (first | refine blk_drewN ?_ _ | refine blk_drew ?_ | refine blk_alloc ?_ _)); exact BK267.out)⟩; have n5_ : Aside0 (w61.heap[gb268]? = some (.cells #[.slice none 0 0, .bool false] 25 (0, 0))) := ⟨by rw [← hq_]; exact (by (with_reducible repeat (first | refine blk_drewN ?_ _ | refine blk_drew ?_ | refine blk_alloc ?_ _)); exact BK268.out)⟩; have n6_ : Aside0 (w61.heap[gb269]? = some (.cells #[.int .i64 0, .int .i64 0, .int .i64 0, .int .i64 0, .slice none 0 0, .slice none 0 0, .int .i64 0, .int .i64 0, .int .i64 0, .int .i64 0, .slice none 0 0, .int .u32 0] 42 (0, 0))) := ⟨by rw [← hq_]; exact (by (with_reducible repeat (first | refine blk_drewN ?_ _ | refine blk_drew ?_ | refine blk_alloc ?_ _)); exact BK269.out)⟩; have n7_ : Aside0 (w61.heap[gb289]? = some (.cells #[.int .i64 t271, .int .i64 t272, .int .i64 t273, .int .i64 t274, .slice Ao38 t275.length co38, u290005, .int .i64 t281, .int .i64 t282, .int .i64 t283, .int .i64 t284, .slice Ao36 t285.length co36, .int .u32 t288] 42 (0, 0))) := ⟨by rw [← hq_]; exact (by (with_reducible repeat (first | refine blk_drewN ?_ _ | refine blk_drew ?_ | refine blk_alloc ?_ _)); exact BK289.out)⟩; have n8_ : Aside0 (Below w.heap.size w w61) := ⟨by rw [← hq_]; exact bs_⟩; clear HO_290004 HO_290005 HO_290010 BK266 BK267 BK268 BK269 BK289 HB hq_; have HO_290004 := n0_; have HO_290005 := n1_; have HO_290010 := n2_; have BK266 := n3_; have BK267 := n4_; have BK268 := n5_; have BK269 := n6_; have BK289 := n7_; have HB := n8_; clear n0_ n1_ n2_ n3_ n4_ n5_ n6_ n7_ n8_))
         have n0_ := Aside0.mk (Kd.S_drew HO_290004.out)
         have n1_ := Aside0.mk (Kd.R_drew HO_290005.out)
         have n2_ := Aside0.mk (Kd.S_drew HO_290010.out)
         have n3_ := Aside0.mk (blk_drew BK266.out)
         have n4_ := Aside0.mk (blk_drew BK267.out)
         have n5_ := Aside0.mk (blk_drew BK268.out)
         have n6_ := Aside0.mk (blk_drew BK269.out)
         have n7_ := Aside0.mk (blk_drew BK289.out)
         have n8_ := Aside0.mk (below_drew1 HB.out)
         clear HO_290004 HO_290005 HO_290010 BK266 BK267 BK268 BK269 BK289 HB
         have HO_290004 := n0_
         have HO_290005 := n1_
         have HO_290010 := n2_
         have BK266 := n3_
         have BK267 := n4_
         have BK268 := n5_
         have BK269 := n6_
         have BK289 := n7_
         have HB := n8_
         clear n0_ n1_ n2_ n3_ n4_ n5_ n6_ n7_ n8_
         have p292 : 0 ≤ (x9_1 : Int) := of_decide_eq_true (by first | (with_reducible assumption) | assumption)
         have q292 : x9_1 < (l1_5.length : Int) := of_decide_eq_true (by first | (with_reducible assumption) | assumption)
         obtain ⟨ad292, e292, hx292_0⟩ := Kd.at_int HR1_5.out x9_1 p292 q292
         have hw292_0 := hx292_0
         obtain rfl : ad290 = ad292 := (by injection e292)
         replace hx292_0 := (HB.out.cell (World.block_lt_of_cell? w _ hx292_0)).trans hx292_0
         replace p292 := eq_true p292
         replace q292 := eq_true q292
         refine start_ (n := 11) (S := fun w' => w'.cell? ⟨gb289, 0, none⟩ = some (.int .i64 t271) ∧ w'.cell? ⟨gb289, 1, none⟩ = some (.int .i64 t272) ∧ w'.cell? ⟨gb289, 2, none⟩ = some (.int .i64 t273) ∧ w'.cell? ⟨gb289, 3, none⟩ = some (.int .i64 t274) ∧ w'.cell? ⟨gb289, 4, none⟩ = some (.slice Ao38 t275.length co38) ∧ w'.cell? ⟨gb289, 5, none⟩ = some (u290005) ∧ w'.cell? ⟨gb289, 6, none⟩ = some (.int .i64 t281) ∧ w'.cell? ⟨gb289, 7, none⟩ = some (.int .i64 t282) ∧ w'.cell? ⟨gb289, 8, none⟩ = some (.int .i64 t283) ∧ w'.cell? ⟨gb289, 9, none⟩ = some (.int .i64 t284) ∧ w'.cell? ⟨gb289, 10, none⟩ = some (.slice Ao36 t285.length co36) ∧ w'.cell? ⟨gb289, 11, none⟩ = some (.int .u32 t288) ∧ w'.cell? ⟨gb267, 0, none⟩ = some (.int .i64 a1_0) ∧ w'.cell? ⟨gb267, 1, none⟩ = some (.int .i64 a1_1) ∧ w'.cell? ⟨gb267, 2, none⟩ = some (.int .i64 a1_2) ∧ w'.cell? ⟨gb267, 3, none⟩ = some (.int .i64 a1_3) ∧ w'.cell? ⟨gb267, 4, none⟩ = some (.slice A1_4 l1_4.length c1_4) ∧ w'.cell? ⟨gb267, 5, none⟩ = some (.slice (some ad290) l1_5.length c1_5) ∧ w'.cell? ⟨gb267, 6, none⟩ = some (.int .i64 a1_6) ∧ w'.cell? ⟨gb267, 7, none⟩ = some (.int .i64 a1_7) ∧ w'.cell? ⟨gb267, 8, none⟩ = some (.int .i64 a1_8) ∧ w'.cell? ⟨gb267, 9, none⟩ = some (.int .i64 a1_9) ∧ w'.cell? ⟨gb267, 10, none⟩ = some (.slice A1_10 l1_10.length c1_10) ∧ w'.cell? ⟨gb267, 11, none⟩ = some (.int .u32 a1_11) ∧ w'.cell? (ad290.add (x9_1).toNat) = some (.int .u32 (rd l1_5 x9_1))) (ds := [10]) #[false, false, false, false, false, false, false, false, false, false, false] (by kernel_rfl) rfl rfl ⟨(blk_cell BK289.out 0).trans rfl, (blk_cell BK289.out 1).trans rfl, (blk_cell BK289.out 2).trans rfl, (blk_cell BK289.out 3).trans rfl, (blk_cell BK289.out 4).trans rfl, (blk_cell BK289.out 5).trans rfl, (blk_cell BK289.out 6).trans rfl, (blk_cell BK289.out 7).trans rfl, (blk_cell BK289.out 8).trans rfl, (blk_cell BK289.out 9).trans rfl, (blk_cell BK289.out 10).trans rfl, (blk_cell BK289.out 11).trans rfl, (blk_cell BK267.out 0).trans rfl, (blk_cell BK267.out 1).trans rfl, (blk_cell BK267.out 2).trans rfl, (blk_cell BK267.out 3).trans rfl, (blk_cell BK267.out 4).trans rfl, (blk_cell BK267.out 5).trans rfl, (blk_cell BK267.out 6).trans rfl, (blk_cell BK267.out 7).trans rfl, (blk_cell BK267.out 8).trans rfl, (blk_cell BK267.out 9).trans rfl, (blk_cell BK267.out 10).trans rfl, (blk_cell BK267.out 11).trans rfl, ((HB.out.cell (World.block_lt_of_cell? w _ hw292_0)).trans hw292_0)⟩ (fun hHeld => ?_); refine with_tabW drydockref19_Put.tab12 drydockref19_Put.bits12 (fun HT_ HW_ => ?_)
         generalize w61.drew = w62 at HO_290004 HO_290005 HO_290010 BK266 BK267 BK268 BK269 BK289 HB hx292_0 hHeld ⊢
         refine pv_ 0 (some 39) HT_ (h := ?_)
         refine pv_ 2 (some 41) HT_ (h := ?_)
         refine pv_ 4 (some 43) HT_ (h := ?_)
         refine tk_ 1 (some 40) HT_ HW_ hHeld (h := ?_)
         refine tk_ 3 (some 42) HT_ HW_ hHeld (h := ?_)
         refine pv_ 5 (some 44) HT_ (h := ?_)
         refine tk_ 6 (some 45) HT_ HW_ hHeld (h := ?_)
         refine one_ (i := 7) (N := some 46) #[true, true, true, true, true, true, true, true, false, false, false] rfl rfl (one_of HT_.out (by kernel_rfl)) (by decide) (fun K hK => ?_)
         refine value_ (w1 := ?_) (v := ?_) (by rfl) rfl ?_ ?_
         rotate_left 2
         ·go_simp
          constructor
          ·rfl
          ·rfl
         refine hK.out _ _ ⟨(blk_cell (blk_alloc BK289.out _) 0).trans rfl, (blk_cell (blk_alloc BK289.out _) 1).trans rfl, (blk_cell (blk_alloc BK289.out _) 2).trans rfl, (blk_cell (blk_alloc BK289.out _) 3).trans rfl, (blk_cell (blk_alloc BK289.out _) 4).trans rfl, (blk_cell (blk_alloc BK289.out _) 5).trans rfl, (blk_cell (blk_alloc BK289.out _) 6).trans rfl, (blk_cell (blk_alloc BK289.out _) 7).trans rfl, (blk_cell (blk_alloc BK289.out _) 8).trans rfl, (blk_cell (blk_alloc BK289.out _) 9).trans rfl, (blk_cell (blk_alloc BK289.out _) 10).trans rfl, (blk_cell (blk_alloc BK289.out _) 11).trans rfl, (blk_cell (blk_alloc BK267.out _) 0).trans rfl, (blk_cell (blk_alloc BK267.out _) 1).trans rfl, (blk_cell (blk_alloc BK267.out _) 2).trans rfl, (blk_cell (blk_alloc BK267.out _) 3).trans rfl, (blk_cell (blk_alloc BK267.out _) 4).trans rfl, (blk_cell (blk_alloc BK267.out _) 5).trans rfl, (blk_cell (blk_alloc BK267.out _) 6).trans rfl, (blk_cell (blk_alloc BK267.out _) 7).trans rfl, (blk_cell (blk_alloc BK267.out _) 8).trans rfl, (blk_cell (blk_alloc BK267.out _) 9).trans rfl, (blk_cell (blk_alloc BK267.out _) 10).trans rfl, (blk_cell (blk_alloc BK267.out _) 11).trans rfl, (World.cell?_alloc_lt _ _ _ (World.block_lt_of_cell? _ _ (((HB.out.cell (World.block_lt_of_cell? w _ hw292_0)).trans hw292_0)))).trans (((HB.out.cell (World.block_lt_of_cell? w _ hw292_0)).trans hw292_0))⟩ (fun hHeld => ?_)
         clear hK K
         refine norm_ (a' := ?_) ?_ ?_
         rotate_left
         ·show Act.put _ (some 46) _ = _
          simp only [Act.put, List.setIfInBounds_toArray, List.set_cons_zero, List.set_cons_succ, i64_w, i32_w]
          rfl
         refine one_ (i := 8) (N := some 47) #[true, true, true, true, true, true, true, true, true, false, false] rfl rfl (one_of HT_.out (by kernel_rfl)) (by decide) (fun K hK => ?_)
         refine Kd.R_append_step (Kd.int .u32) (w0 := w) w.heap.size (by rfl) (.tmp 40) (.tmp 46) 22 27 (.int .u32 0) 4 rfl Try.underlying22 info27 rfl (by decide) (by omega) u290005 x290005_1 (rd l1_5 x9_1) [.int .u32 (rd l1_5 x9_1)] (fun _ => True) (fun _ => False) rfl rfl ?aP (fun _ hk => hk.elim) ?aF ?aO ?aB ?aS ?aL ?_
         (case aP => exact rfl)
         (case aB => exact bs_)
         (case aF => exact (fun _ _ => trivial))
         (case aO => exact (rk_ HO_290005))
         (case aS => exact (below_size bs_))
         (case aL => have := LMc55.out; omega)
         intro v294 w63 ho hb hg hat
         rw [← Ny293.out] at ho
         have n0_ := Aside0.mk (Kd.S_over' (by (with_reducible repeat (first | apply Kd.S_alloc | apply Kd.S_drewN | apply Kd.S_drew)); exact HO_290004.out) (Kd.R_typed (rk_ HO_290005)) (by decide) hg)
         have n1_ := Aside0.mk (Kd.S_after (ok := (fun _ => True)) (by (with_reducible repeat (first | apply Kd.S_alloc | apply Kd.S_drewN | apply Kd.S_drew)); exact Kd.S_mono HO_290010.out (fun _ hk => ⟨trivial, hk⟩)) hg hat)
         have n2_ := Aside0.mk (blk_grown (g := gb266) (o := .cells #[.slice A0_0 l0_0.length c0_0, .bool false] 25 (0, 0)) (by (with_reducible repeat (first | refine blk_drewN ?_ _ | refine blk_drew ?_ | refine blk_alloc ?_ _)); exact BK266.out) hg (Kd.R_ne HO_290005.out BK266.out (by decide)))
         have n3_ := Aside0.mk (blk_grown (g := gb267) (o := .cells #[.int .i64 a1_0, .int .i64 a1_1, .int .i64 a1_2, .int .i64 a1_3, .slice A1_4 l1_4.length c1_4, .slice (some ad290) l1_5.length c1_5, .int .i64 a1_6, .int .i64 a1_7, .int .i64 a1_8, .int .i64 a1_9, .slice A1_10 l1_10.length c1_10, .int .u32 a1_11] 42 (0, 0)) (by (with_reducible repeat (first | refine blk_drewN ?_ _ | refine blk_drew ?_ | refine blk_alloc ?_ _)); exact BK267.out) hg (Kd.R_ne HO_290005.out BK267.out (by decide)))
         have n4_ := Aside0.mk (blk_grown (g := gb268) (o := .cells #[.slice none 0 0, .bool false] 25 (0, 0)) (by (with_reducible repeat (first | refine blk_drewN ?_ _ | refine blk_drew ?_ | refine blk_alloc ?_ _)); exact BK268.out) hg (Kd.R_ne HO_290005.out BK268.out (by decide)))
         have n5_ := Aside0.mk (blk_grown (g := gb269) (o := .cells #[.int .i64 0, .int .i64 0, .int .i64 0, .int .i64 0, .slice none 0 0, .slice none 0 0, .int .i64 0, .int .i64 0, .int .i64 0, .int .i64 0, .slice none 0 0, .int .u32 0] 42 (0, 0)) (by (with_reducible repeat (first | refine blk_drewN ?_ _ | refine blk_drew ?_ | refine blk_alloc ?_ _)); exact BK269.out) hg (Kd.R_ne HO_290005.out BK269.out (by decide)))
         have n6_ := Aside0.mk (blk_grown (g := gb289) (o := .cells #[.int .i64 t271, .int .i64 t272, .int .i64 t273, .int .i64 t274, .slice Ao38 t275.length co38, u290005, .int .i64 t281, .int .i64 t282, .int .i64 t283, .int .i64 t284, .slice Ao36 t285.length co36, .int .u32 t288] 42 (0, 0)) (by (with_reducible repeat (first | refine blk_drewN ?_ _ | refine blk_drew ?_ | refine blk_alloc ?_ _)); exact BK289.out) hg (Kd.R_ne HO_290005.out BK289.out (by decide)))
         have n7_ := Aside0.mk (hb)
         have n8_ := Aside0.mk (ho)
         clear HO_290004 HO_290010 BK266 BK267 BK268 BK269 BK289 HB HO_290005
         have HO_290004 := n0_
         have HO_290010 := n1_
         have BK266 := n2_
         have BK267 := n3_
         have BK268 := n4_
         have BK269 := n5_
         have BK289 := n6_
         have HB := n7_
         have HO295 := n8_
         clear n0_ n1_ n2_ n3_ n4_ n5_ n6_ n7_ n8_
         clear ho hb hg hat
         obtain ⟨Ao64, co64, eo64⟩ := Kd.R_slice HO295.out
         (first | subst eo64 | (injection eo64 with f1_ f2_ f3_; have f4_ := f1_.symm; have f5_ := f3_.symm; clear f1_ f2_ f3_; subst f4_; subst f5_))
         refine hK.out _ _ ⟨(blk_cell BK289.out 0).trans rfl, (blk_cell BK289.out 1).trans rfl, (blk_cell BK289.out 2).trans rfl, (blk_cell BK289.out 3).trans rfl, (blk_cell BK289.out 4).trans rfl, (blk_cell BK289.out 5).trans rfl, (blk_cell BK289.out 6).trans rfl, (blk_cell BK289.out 7).trans rfl, (blk_cell BK289.out 8).trans rfl, (blk_cell BK289.out 9).trans rfl, (blk_cell BK289.out 10).trans rfl, (blk_cell BK289.out 11).trans rfl, (blk_cell BK267.out 0).trans rfl, (blk_cell BK267.out 1).trans rfl, (blk_cell BK267.out 2).trans rfl, (blk_cell BK267.out 3).trans rfl, (blk_cell BK267.out 4).trans rfl, (blk_cell BK267.out 5).trans rfl, (blk_cell BK267.out 6).trans rfl, (blk_cell BK267.out 7).trans rfl, (blk_cell BK267.out 8).trans rfl, (blk_cell BK267.out 9).trans rfl, (blk_cell BK267.out 10).trans rfl, (blk_cell BK267.out 11).trans rfl, ((HB.out.cell (World.block_lt_of_cell? w _ hw292_0)).trans hw292_0)⟩ (fun hHeld => ?_)
         clear hK K
         refine norm_ (a' := ?_) ?_ ?_
         rotate_left
         ·show Act.put _ (some 47) _ = _
          simp only [Act.put, List.setIfInBounds_toArray, List.set_cons_zero, List.set_cons_succ, i64_w, i32_w]
          rfl
         refine pv_ 9 (some 48) HT_ (h := ?_)
         refine last_ (i := 10) (N := none) #[true, true, true, true, true, true, true, true, true, true, true] rfl rfl (one_of HT_.out (by kernel_rfl)) (by decide) (fun K hK => ?_)
         have hs65 : w63.cell? ⟨gb289, 5, none⟩ = some (u290005) := (blk_cell BK289.out 5).trans rfl
         have hfs65 := blk_frozen BK289.out 5
         have hns65_0 := NB266_289.out
         have hns65_1 := NB267_289.out
         have hns65_2 := NB268_289.out
         have hns65_3 := NB269_289.out
         have hms65_0 := NB289_266.out
         have hms65_1 := NB289_267.out
         have hms65_2 := NB289_268.out
         have hms65_3 := NB289_269.out
         refine skip_ (w1 := ?_) (by rfl) rfl ?_ ?_
         rotate_left
         ·go_simp
          rfl
         refine hK.out _ _ ?_
         clear hK K
         refine done_ (done_of HT_.out (by kernel_rfl)) ?_
         try go_wp2
         go_roundg k1
         case measure => have := HK1.out; omega
         case rel => exact ⟨(wrap64 (x9_1 + 1)), (y293), (.slice Ao64 y293.length co64), eq_, H', ⟨by have := HK1.out; omega⟩, ⟨by (with_reducible repeat (first | apply Kd.S_alloc | apply Kd.S_drewN | apply Kd.S_drew)); exact Kd.S_mono (Kd.S_far (p := ⟨gb289, 5, none⟩) (Kd.S_types HO_290004.out BK289.out (by decide)) (fun _ hk => hk.2) (.slice Ao64 y293.length co64)) (fun _ hk => trivial)⟩, ⟨by (with_reducible repeat (first | apply Kd.R_alloc | apply Kd.R_drewN | apply Kd.R_drew)); exact Kd.R_mono (Kd.R_far (p := ⟨gb289, 5, none⟩) (Kd.R_types HO295.out BK289.out (by decide)) (fun _ hk => hk.2) (.slice Ao64 y293.length co64)) (fun _ hk => trivial)⟩, ⟨by (with_reducible repeat (first | apply Kd.S_alloc | apply Kd.S_drewN | apply Kd.S_drew)); exact Kd.S_mono (Kd.S_far (p := ⟨gb289, 5, none⟩) (Kd.S_types HO_290010.out BK289.out (by decide)) (fun _ hk => hk.2) (.slice Ao64 y293.length co64)) (fun _ hk => by first | exact hk.1.2 | trivial)⟩, ⟨bf_ BK266⟩, ⟨bf_ BK267⟩, ⟨bf_ BK268⟩, ⟨bf_ BK269⟩, ⟨bp_ BK289⟩, ⟨bs_⟩⟩
        ·rw [if_neg c55] at H
         exact absurd H (by simp)
      ·rw [if_neg c46] at H
       exact absurd H (by simp)
     ·rw [if_neg c45] at H
      have c45b0 : decide (x9_1 < (l1_5.length : Int)) = false := decide_eq_false c45
      clear c45
      simp only [Option.some.injEq, Prod.mk.injEq] at H
      obtain ⟨rfl, rfl, rfl, rfl, rfl, rfl, rfl, rfl, rfl, rfl, rfl, rfl, rfl, rfl, rfl⟩ := H
      have hnb66 := NB267_266.out
      have hnc66 := NB266_267.out
      have hnb67 := NB267_268.out
      have hnc67 := NB268_267.out
      have hnb68 := NB267_269.out
      have hnc68 := NB269_267.out
      have hnb69 := NB267_289.out
      have hnc69 := NB289_267.out
      obtain ⟨hcz70_0, hcz70_1, hcz70_2, hcz70_3, hcz70_4, hcz70_5, hcz70_6, hcz70_7, hcz70_8, hcz70_9, hcz70_10, hcz70_11, hfz70_0, hfz70_1, hfz70_2, hfz70_3, hfz70_4, hfz70_5, hfz70_6, hfz70_7, hfz70_8, hfz70_9, hfz70_10, hfz70_11⟩ := blk12 BK267
      try go_wp2
      have n0_ := Aside0.mk (Kd.S_drew HO_290004.out)
      have n1_ := Aside0.mk (Kd.R_drew HO_290005.out)
      have n2_ := Aside0.mk (Kd.S_drew HO_290010.out)
      have n3_ := Aside0.mk (blk_drew BK266.out)
      have n4_ := Aside0.mk (blk_drew BK267.out)
      have n5_ := Aside0.mk (blk_drew BK268.out)
      have n6_ := Aside0.mk (blk_drew BK269.out)
      have n7_ := Aside0.mk (blk_drew BK289.out)
      have n8_ := Aside0.mk (below_drew1 HB.out)
      clear HO_290004 HO_290005 HO_290010 BK266 BK267 BK268 BK269 BK289 HB
      have HO_290004 := n0_
      have HO_290005 := n1_
      have HO_290010 := n2_
      have BK266 := n3_
      have BK267 := n4_
      have BK268 := n5_
      have BK269 := n6_
      have BK289 := n7_
      have HB := n8_
      clear n0_ n1_ n2_ n3_ n4_ n5_ n6_ n7_ n8_
      obtain ⟨Ao79, co79, eo79⟩ := Kd.R_slice HO_290005.out
      (first | subst eo79 | (injection eo79 with f1_ f2_ f3_; have f4_ := f1_.symm; have f5_ := f3_.symm; clear f1_ f2_ f3_; subst f4_; subst f5_))
      refine start_ (n := 5) (S := fun w' => w'.cell? ⟨gb289, 0, none⟩ = some (.int .i64 t271) ∧ w'.cell? ⟨gb289, 1, none⟩ = some (.int .i64 t272) ∧ w'.cell? ⟨gb289, 2, none⟩ = some (.int .i64 t273) ∧ w'.cell? ⟨gb289, 3, none⟩ = some (.int .i64 t274) ∧ w'.cell? ⟨gb289, 4, none⟩ = some (.slice Ao38 t275.length co38) ∧ w'.cell? ⟨gb289, 5, none⟩ = some (.slice Ao79 x290005_1.length co79) ∧ w'.cell? ⟨gb289, 6, none⟩ = some (.int .i64 t281) ∧ w'.cell? ⟨gb289, 7, none⟩ = some (.int .i64 t282) ∧ w'.cell? ⟨gb289, 8, none⟩ = some (.int .i64 t283) ∧ w'.cell? ⟨gb289, 9, none⟩ = some (.int .i64 t284) ∧ w'.cell? ⟨gb289, 10, none⟩ = some (.slice Ao36 t285.length co36) ∧ w'.cell? ⟨gb289, 11, none⟩ = some (.int .u32 t288)) (ds := []) #[false, false, false, false, false] (by kernel_rfl) rfl rfl ⟨(blk_cell BK289.out 0).trans rfl, (blk_cell BK289.out 1).trans rfl, (blk_cell BK289.out 2).trans rfl, (blk_cell BK289.out 3).trans rfl, (blk_cell BK289.out 4).trans rfl, (blk_cell BK289.out 5).trans rfl, (blk_cell BK289.out 6).trans rfl, (blk_cell BK289.out 7).trans rfl, (blk_cell BK289.out 8).trans rfl, (blk_cell BK289.out 9).trans rfl, (blk_cell BK289.out 10).trans rfl, (blk_cell BK289.out 11).trans rfl⟩ (fun hHeld => ?_)
      generalize wr.drew = w71 at HO_290004 HO_290005 HO_290010 BK266 BK267 BK268 BK269 BK289 HB hHeld ⊢
      refine pure_ (i := 0) (N := some 49) (v := ?_) (a' := ?_) #[true, false, false, false, false] rfl rfl (by kernel_rfl) (fun _ _ _ h => h) (Or.inl ⟨by rfl, ?_⟩) ?_ ?_
      rotate_left
      ·intro w'
       go_simp
       with_reducible rfl
      rotate_left
      ·simp only [Act.put, List.setIfInBounds_toArray, List.set_cons_zero, List.set_cons_succ, i64_w, i32_w]
       rfl
      refine take_ (i := 1) (N := some 50) (v := ?_) (a' := ?_) #[true, true, false, false, false] rfl rfl (by kernel_rfl) (fun _ _ _ h => h) (Or.inl ⟨by rfl, ?_⟩) hHeld ?_ ?_
      rotate_left
      ·rintro w' ⟨s0, s1, s2, s3, s4, s5, s6, s7, s8, s9, s10, s11⟩
       go_simp
       with_reducible rfl
      rotate_left
      ·simp only [Act.put, List.setIfInBounds_toArray, List.set_cons_zero, List.set_cons_succ, i64_w, i32_w]
       rfl
      refine one_ (i := 2) (N := none) #[true, true, true, false, false] rfl rfl (by kernel_rfl) (by decide) (fun K hK => ?_)
      have hs72 : w71.cell? ⟨gb268, 0, none⟩ = some (.slice none 0 0) := (blk_cell BK268.out 0).trans rfl
      have hfs72 := blk_frozen BK268.out 0
      have hns72_0 := NB266_268.out
      have hns72_1 := NB267_268.out
      have hns72_3 := NB269_268.out
      have hns72_4 := NB289_268.out
      have hms72_0 := NB268_266.out
      have hms72_1 := NB268_267.out
      have hms72_3 := NB268_269.out
      have hms72_4 := NB268_289.out
      have hs73 : w71.cell? ⟨gb268, 1, none⟩ = some (.bool false) := (blk_cell BK268.out 1).trans rfl
      have hfs73 := blk_frozen BK268.out 1
      refine skip_ (w1 := ?_) (by rfl) rfl ?_ ?_
      rotate_left
      ·go_simp
       rfl
      refine hK.out _ _ ⟨(cfar2 NB289_268.out hHeld.1), (cfar2 NB289_268.out hHeld.2.1), (cfar2 NB289_268.out hHeld.2.2.1), (cfar2 NB289_268.out hHeld.2.2.2.1), (cfar2 NB289_268.out hHeld.2.2.2.2.1), (cfar2 NB289_268.out hHeld.2.2.2.2.2.1), (cfar2 NB289_268.out hHeld.2.2.2.2.2.2.1), (cfar2 NB289_268.out hHeld.2.2.2.2.2.2.2.1), (cfar2 NB289_268.out hHeld.2.2.2.2.2.2.2.2.1), (cfar2 NB289_268.out hHeld.2.2.2.2.2.2.2.2.2.1), (cfar2 NB289_268.out hHeld.2.2.2.2.2.2.2.2.2.2.1), (cfar2 NB289_268.out hHeld.2.2.2.2.2.2.2.2.2.2.2)⟩ (fun hHeld => ?_)
      clear hK K
      refine one_ (i := 3) (N := none) #[true, true, true, true, false] rfl rfl (by kernel_rfl) (by decide) (fun K hK => ?_)
      have hs74 : w71.cell? ⟨gb269, 0, none⟩ = some (.int .i64 0) := (blk_cell BK269.out 0).trans rfl
      have hfs74 := blk_frozen BK269.out 0
      have hns74_0 := NB266_269.out
      have hns74_1 := NB267_269.out
      have hns74_2 := NB268_269.out
      have hns74_4 := NB289_269.out
      have hms74_0 := NB269_266.out
      have hms74_1 := NB269_267.out
      have hms74_2 := NB269_268.out
      have hms74_4 := NB269_289.out
      have hs75 : w71.cell? ⟨gb269, 1, none⟩ = some (.int .i64 0) := (blk_cell BK269.out 1).trans rfl
      have hfs75 := blk_frozen BK269.out 1
      have hs76 : w71.cell? ⟨gb269, 2, none⟩ = some (.int .i64 0) := (blk_cell BK269.out 2).trans rfl
      have hfs76 := blk_frozen BK269.out 2
      have hs77 : w71.cell? ⟨gb269, 3, none⟩ = some (.int .i64 0) := (blk_cell BK269.out 3).trans rfl
      have hfs77 := blk_frozen BK269.out 3
      have hs78 : w71.cell? ⟨gb269, 4, none⟩ = some (.slice none 0 0) := (blk_cell BK269.out 4).trans rfl
      have hfs78 := blk_frozen BK269.out 4
      have hs80 : w71.cell? ⟨gb269, 5, none⟩ = some (.slice none 0 0) := (blk_cell BK269.out 5).trans rfl
      have hfs80 := blk_frozen BK269.out 5
      have hs81 : w71.cell? ⟨gb269, 6, none⟩ = some (.int .i64 0) := (blk_cell BK269.out 6).trans rfl
      have hfs81 := blk_frozen BK269.out 6
      have hs82 : w71.cell? ⟨gb269, 7, none⟩ = some (.int .i64 0) := (blk_cell BK269.out 7).trans rfl
      have hfs82 := blk_frozen BK269.out 7
      have hs83 : w71.cell? ⟨gb269, 8, none⟩ = some (.int .i64 0) := (blk_cell BK269.out 8).trans rfl
      have hfs83 := blk_frozen BK269.out 8
      have hs84 : w71.cell? ⟨gb269, 9, none⟩ = some (.int .i64 0) := (blk_cell BK269.out 9).trans rfl
      have hfs84 := blk_frozen BK269.out 9
      have hs85 : w71.cell? ⟨gb269, 10, none⟩ = some (.slice none 0 0) := (blk_cell BK269.out 10).trans rfl
      have hfs85 := blk_frozen BK269.out 10
      have hs86 : w71.cell? ⟨gb269, 11, none⟩ = some (.int .u32 0) := (blk_cell BK269.out 11).trans rfl
      have hfs86 := blk_frozen BK269.out 11
      refine skip_ (w1 := ?_) (by rfl) rfl ?_ ?_
      rotate_left
      ·go_simp
       rfl
      refine hK.out _ _ ⟨(cfar12 NB289_269.out hHeld.1), (cfar12 NB289_269.out hHeld.2.1), (cfar12 NB289_269.out hHeld.2.2.1), (cfar12 NB289_269.out hHeld.2.2.2.1), (cfar12 NB289_269.out hHeld.2.2.2.2.1), (cfar12 NB289_269.out hHeld.2.2.2.2.2.1), (cfar12 NB289_269.out hHeld.2.2.2.2.2.2.1), (cfar12 NB289_269.out hHeld.2.2.2.2.2.2.2.1), (cfar12 NB289_269.out hHeld.2.2.2.2.2.2.2.2.1), (cfar12 NB289_269.out hHeld.2.2.2.2.2.2.2.2.2.1), (cfar12 NB289_269.out hHeld.2.2.2.2.2.2.2.2.2.2.1), (cfar12 NB289_269.out hHeld.2.2.2.2.2.2.2.2.2.2.2)⟩ (fun hHeld => ?_)
      clear hK K
      refine pure_ (i := 4) (N := some 6) (v := ?_) (a' := ?_) #[true, true, true, true, true] rfl rfl (by kernel_rfl) (fun _ _ _ h => h) (Or.inl ⟨by rfl, ?_⟩) ?_ ?_
      rotate_left
      ·intro w'
       go_simp
       with_reducible rfl
      rotate_left
      ·simp only [Act.put, List.setIfInBounds_toArray, List.set_cons_zero, List.set_cons_succ, i64_w, i32_w]
       rfl
      refine done_ (by kernel_rfl) ?_
      try go_wp2
      refine bodyPost_ret (results_list (rs := [.cell 4 25, .cell 5 42, .tmp 6]) rfl (by simp) (.cell gb268 25 #[.slice none 0 0, .bool false] (0, 0) _ rfl (bp_ BK268) Try.underlying25 rfl (by kernel_rfl) (.cell gb269 42 #[.int .i64 t271, .int .i64 t272, .int .i64 t273, .int .i64 t274, .slice Ao38 t275.length co38, .slice Ao79 x290005_1.length co79, .int .i64 t281, .int .i64 t282, .int .i64 t283, .int .i64 t284, .slice Ao36 t285.length co36, .int .u32 t288] (0, 0) _ rfl (bp_ BK269) Try.underlying42 rfl (by kernel_rfl) (.tmp .nil)))) rfl ?_
      exact ⟨_, _, _, _, by first | rfl | (simp [errW_none, errW_some] <;> rfl) | (simp [*, errW_none, errW_some] <;> rfl), by first | exact Kd.R_nil _ _ _ _ _ | exact Kd.N_nil _ _ _ _ _ | exact Kd.V_nil _ _ _ _ _ | exact Kd.Q_nil _ _ _ _ _ | exact Kd.S_nil _ _ _ _ _, by (with_reducible repeat (first | apply Kd.S_alloc | apply Kd.S_drewN | apply Kd.S_drew)); exact Kd.S_mono (Kd.S_far (p := ⟨gb269, 11, none⟩) (Kd.S_far (p := ⟨gb269, 10, none⟩) (Kd.S_far (p := ⟨gb269, 9, none⟩) (Kd.S_far (p := ⟨gb269, 8, none⟩) (Kd.S_far (p := ⟨gb269, 7, none⟩) (Kd.S_far (p := ⟨gb269, 6, none⟩) (Kd.S_far (p := ⟨gb269, 5, none⟩) (Kd.S_far (p := ⟨gb269, 4, none⟩) (Kd.S_far (p := ⟨gb269, 3, none⟩) (Kd.S_far (p := ⟨gb269, 2, none⟩) (Kd.S_far (p := ⟨gb269, 1, none⟩) (Kd.S_far (p := ⟨gb269, 0, none⟩) (Kd.S_far (p := ⟨gb268, 1, none⟩) (Kd.S_far (p := ⟨gb268, 0, none⟩) (Kd.S_types (Kd.S_types HO_290004.out BK268.out (by decide)) BK269.out (by decide)) (fun _ hk => hk.1.2) (.slice none 0 0)) (fun _ hk => hk.1.2) (.bool false)) (fun _ hk => hk.2) (.int .i64 t271)) (fun _ hk => hk.2) (.int .i64 t272)) (fun _ hk => hk.2) (.int .i64 t273)) (fun _ hk => hk.2) (.int .i64 t274)) (fun _ hk => hk.2) (.slice Ao38 t275.length co38)) (fun _ hk => hk.2) (.slice Ao79 x290005_1.length co79)) (fun _ hk => hk.2) (.int .i64 t281)) (fun _ hk => hk.2) (.int .i64 t282)) (fun _ hk => hk.2) (.int .i64 t283)) (fun _ hk => hk.2) (.int .i64 t284)) (fun _ hk => hk.2) (.slice Ao36 t285.length co36)) (fun _ hk => hk.2) (.int .u32 t288)) (fun _ hk => trivial), by (with_reducible repeat (first | apply Kd.R_alloc | apply Kd.R_drewN | apply Kd.R_drew)); exact Kd.R_mono (far12 gb269 (far2 gb268 (Kd.R_types (Kd.R_types HO_290005.out BK268.out (by decide)) BK269.out (by decide)) (fun _ hk => hk.1.2)) (fun _ hk => hk.2)) (fun _ hk => (by simp [Value.ownBlock])), by (with_reducible repeat (first | apply Kd.S_alloc | apply Kd.S_drewN | apply Kd.S_drew)); exact Kd.S_mono (Kd.S_far (p := ⟨gb269, 11, none⟩) (Kd.S_far (p := ⟨gb269, 10, none⟩) (Kd.S_far (p := ⟨gb269, 9, none⟩) (Kd.S_far (p := ⟨gb269, 8, none⟩) (Kd.S_far (p := ⟨gb269, 7, none⟩) (Kd.S_far (p := ⟨gb269, 6, none⟩) (Kd.S_far (p := ⟨gb269, 5, none⟩) (Kd.S_far (p := ⟨gb269, 4, none⟩) (Kd.S_far (p := ⟨gb269, 3, none⟩) (Kd.S_far (p := ⟨gb269, 2, none⟩) (Kd.S_far (p := ⟨gb269, 1, none⟩) (Kd.S_far (p := ⟨gb269, 0, none⟩) (Kd.S_far (p := ⟨gb268, 1, none⟩) (Kd.S_far (p := ⟨gb268, 0, none⟩) (Kd.S_types (Kd.S_types HO_290010.out BK268.out (by decide)) BK269.out (by decide)) (fun _ hk => hk.1.2) (.slice none 0 0)) (fun _ hk => hk.1.2) (.bool false)) (fun _ hk => hk.2) (.int .i64 t271)) (fun _ hk => hk.2) (.int .i64 t272)) (fun _ hk => hk.2) (.int .i64 t273)) (fun _ hk => hk.2) (.int .i64 t274)) (fun _ hk => hk.2) (.slice Ao38 t275.length co38)) (fun _ hk => hk.2) (.slice Ao79 x290005_1.length co79)) (fun _ hk => hk.2) (.int .i64 t281)) (fun _ hk => hk.2) (.int .i64 t282)) (fun _ hk => hk.2) (.int .i64 t283)) (fun _ hk => hk.2) (.int .i64 t284)) (fun _ hk => hk.2) (.slice Ao36 t285.length co36)) (fun _ hk => hk.2) (.int .u32 t288)) (fun _ hk => ⟨(by simp [Value.ownBlock]), hk.1.1⟩), by repeat (first | (with_reducible first | exact HB.out | apply below_alloc | apply pw_below_drewN | apply below_drew1 | refine below_set ?_ GE266.out | refine below_set ?_ GE267.out | refine below_set ?_ GE268.out | refine below_set ?_ GE269.out | refine below_set ?_ GE289.out) | exact HB.out)⟩
 ·replace c4 := Bool.eq_false_iff.mpr c4
  subst c4
  have H1 : (some (([] : List Int), false, 0, 0, 0, 0, ([] : List (S61)), ([] : List Int), 0, 0, 0, 0, ([] : List (S63)), 0, 1)) = some (r1, r2, r3, r4, r5, r6, r7, r8, r9, r10, r11, r12, r13, r14, r15) := by rw [if_neg (show ¬ (false = true) by decide)] at H; exact H
  clear H
  have H := H1
  clear H1
  simp only [Option.some.injEq, Prod.mk.injEq] at H
  obtain ⟨rfl, rfl, rfl, rfl, rfl, rfl, rfl, rfl, rfl, rfl, rfl, rfl, rfl, rfl, rfl⟩ := H
  go_enter Try.func19, Try.ntmps19
  go_wp2_with (first | ((with_reducible refine gate_dst (N := 2) rfl ?_); refine box_event ?hg (N := 2) ?hd (cs := #[.slice A0_0 l0_0.length c0_0, .bool a0_1]) (t := 25) ?hr ?_; (case hd => rfl); (case hg => rfl); (case hr => first | (go_simp; done) | (go_simp; rfl)); intro gb266 hg w87 hbox hb; have n0_ := Aside0.mk (below_step bs_ hb); have n1_ := Aside0.mk (hbox); have n2_ := Aside0.mk ((by rw [hg]; exact (below_size bs_) : w.heap.size ≤ gb266)); have n3_ := Aside0.mk ((by rw [hg]; exact (below_size bs_) : w.heap.size ≤ gb266)); clear HB; have HB := n0_; have BK266 := n1_; have GW266 := n2_; have GE266 := n3_; clear n0_ n1_ n2_ n3_; clear hb hbox hg) | ((with_reducible refine gate_dst (N := 3) rfl ?_); refine box_event ?hg (N := 3) ?hd (cs := #[.int .i64 a1_0, .int .i64 a1_1, .int .i64 a1_2, .int .i64 a1_3, .slice A1_4 l1_4.length c1_4, .slice A1_5 l1_5.length c1_5, .int .i64 a1_6, .int .i64 a1_7, .int .i64 a1_8, .int .i64 a1_9, .slice A1_10 l1_10.length c1_10, .int .u32 a1_11]) (t := 42) ?hr ?_; (case hd => rfl); (case hg => rfl); (case hr => first | (go_simp; done) | (go_simp; rfl)); intro gb267 hg w88 hbox hb; have n0_ := Aside0.mk (blk_below (bk_ BK266) hb); have n1_ := Aside0.mk (below_step bs_ hb); have n2_ := Aside0.mk (hbox); have n3_ := Aside0.mk ((by rw [hg]; exact (below_size bs_) : w.heap.size ≤ gb267)); have n4_ := Aside0.mk ((by rw [hg]; exact (below_size bs_) : w.heap.size ≤ gb267)); have n5_ := Aside0.mk ((by rw [hg]; exact Nat.ne_of_lt (blk_lt (bk_ BK266)) : gb266 ≠ gb267)); have n6_ := Aside0.mk ((by rw [hg]; exact Nat.ne_of_gt (blk_lt (bk_ BK266)) : gb267 ≠ gb266)); clear BK266 HB; have BK266 := n0_; have HB := n1_; have BK267 := n2_; have GW267 := n3_; have GE267 := n4_; have NB266_267 := n5_; have NB267_266 := n6_; clear n0_ n1_ n2_ n3_ n4_ n5_ n6_; clear hb hbox hg) | ((with_reducible refine gate_dst (N := 4) rfl ?_); refine box_event ?hg (N := 4) ?hd (cs := #[.slice none 0 0, .bool false]) (t := 25) ?hr ?_; (case hd => rfl); (case hg => rfl); (case hr => first | (go_simp; done) | (go_simp; rfl)); intro gb268 hg w89 hbox hb; have n0_ := Aside0.mk (blk_below (bk_ BK266) hb); have n1_ := Aside0.mk (blk_below (bk_ BK267) hb); have n2_ := Aside0.mk (below_step bs_ hb); have n3_ := Aside0.mk (hbox); have n4_ := Aside0.mk ((by rw [hg]; exact (below_size bs_) : w.heap.size ≤ gb268)); have n5_ := Aside0.mk ((by rw [hg]; exact (below_size bs_) : w.heap.size ≤ gb268)); have n6_ := Aside0.mk ((by rw [hg]; exact Nat.ne_of_lt (blk_lt (bk_ BK266)) : gb266 ≠ gb268)); have n7_ := Aside0.mk ((by rw [hg]; exact Nat.ne_of_gt (blk_lt (bk_ BK266)) : gb268 ≠ gb266)); have n8_ := Aside0.mk ((by rw [hg]; exact Nat.ne_of_lt (blk_lt (bk_ BK267)) : gb267 ≠ gb268)); have n9_ := Aside0.mk ((by rw [hg]; exact Nat.ne_of_gt (blk_lt (bk_ BK267)) : gb268 ≠ gb267)); clear BK266 BK267 HB; have BK266 := n0_; have BK267 := n1_; have HB := n2_; have BK268 := n3_; have GW268 := n4_; have GE268 := n5_; have NB266_268 := n6_; have NB268_266 := n7_; have NB267_268 := n8_; have NB268_267 := n9_; clear n0_ n1_ n2_ n3_ n4_ n5_ n6_ n7_ n8_ n9_; clear hb hbox hg) | ((with_reducible refine gate_dst (N := 5) rfl ?_); refine box_event ?hg (N := 5) ?hd (cs := #[.int .i64 0, .int .i64 0, .int .i64 0, .int .i64 0, .slice none 0 0, .slice none 0 0, .int .i64 0, .int .i64 0, .int .i64 0, .int .i64 0, .slice none 0 0, .int .u32 0]) (t := 42) ?hr ?_; (case hd => rfl); (case hg => rfl); (case hr => first | (go_simp; done) | (go_simp; rfl)); intro gb269 hg w90 hbox hb; have n0_ := Aside0.mk (blk_below (bk_ BK266) hb); have n1_ := Aside0.mk (blk_below (bk_ BK267) hb); have n2_ := Aside0.mk (blk_below (bk_ BK268) hb); have n3_ := Aside0.mk (below_step bs_ hb); have n4_ := Aside0.mk (hbox); have n5_ := Aside0.mk ((by rw [hg]; exact (below_size bs_) : w.heap.size ≤ gb269)); have n6_ := Aside0.mk ((by rw [hg]; exact (below_size bs_) : w.heap.size ≤ gb269)); have n7_ := Aside0.mk ((by rw [hg]; exact Nat.ne_of_lt (blk_lt (bk_ BK266)) : gb266 ≠ gb269)); have n8_ := Aside0.mk ((by rw [hg]; exact Nat.ne_of_gt (blk_lt (bk_ BK266)) : gb269 ≠ gb266)); have n9_ := Aside0.mk ((by rw [hg]; exact Nat.ne_of_lt (blk_lt (bk_ BK267)) : gb267 ≠ gb269)); have n10_ := Aside0.mk ((by rw [hg]; exact Nat.ne_of_gt (blk_lt (bk_ BK267)) : gb269 ≠ gb267)); have n11_ := Aside0.mk ((by rw [hg]; exact Nat.ne_of_lt (blk_lt (bk_ BK268)) : gb268 ≠ gb269)); have n12_ := Aside0.mk ((by rw [hg]; exact Nat.ne_of_gt (blk_lt (bk_ BK268)) : gb269 ≠ gb268)); clear BK266 BK267 BK268 HB; have BK266 := n0_; have BK267 := n1_; have BK268 := n2_; have HB := n3_; have BK269 := n4_; have GW269 := n5_; have GE269 := n6_; have NB266_269 := n7_; have NB269_266 := n8_; have NB267_269 := n9_; have NB269_267 := n10_; have NB268_269 := n11_; have NB269_268 := n12_; clear n0_ n1_ n2_ n3_ n4_ n5_ n6_ n7_ n8_ n9_ n10_ n11_ n12_; clear hb hbox hg; have hnb91 := NB266_267.out; have hnc91 := NB267_266.out; have hnb92 := NB266_268.out; have hnc92 := NB268_266.out; have hnb93 := NB266_269.out; have hnc93 := NB269_266.out; obtain ⟨hcz94_0, hcz94_1, hfz94_0, hfz94_1⟩ := blk2 BK266) | ((with_reducible refine gate_callee (f := 21) rfl ?_); refine goesL_ (some 11) rfl rfl Try.func21 (by kernel_rfl) rfl #[.agg #[.slice A0_0 l0_0.length c0_0, .bool a0_1]] rfl (by (try simp only [List.map_toArray, List.map_cons, List.map_nil]); first | done | rfl | (simp only [List.length_drop, List.length_take]; rfl)) ?_; (with_reducible refine (drydockref19_May.calls k _ _ l0_0 a0_1 false _ ?side1 ?side2 A3.out).mono ?_); (case side1 => repeat (first | exact (Kd.C_below HR0_0.out HB.out) | (with_reducible refine Kd.C_alloc ?_ _) | (with_reducible refine Kd.C_drewN ?_ _) | (with_reducible refine Kd.C_drew ?_))); (case side2 => exact HC0_0.out); rintro e w95 ⟨rfl, hb⟩; refine ⟨_, rfl, ?_⟩; have n0_ := Aside0.mk (blk_below (bk_ BK266) hb); have n1_ := Aside0.mk (blk_below (bk_ BK267) hb); have n2_ := Aside0.mk (blk_below (bk_ BK268) hb); have n3_ := Aside0.mk (blk_below (bk_ BK269) hb); have n4_ := Aside0.mk (below_step bs_ hb); clear BK266 BK267 BK268 BK269 HB; have BK266 := n0_; have BK267 := n1_; have BK268 := n2_; have BK269 := n3_; have HB := n4_; clear n0_ n1_ n2_ n3_ n4_; (try clear hb); (try clear hb2); (try clear hk); (try clear hi); have hnb96 := NB268_267.out; have hnc96 := NB267_268.out; have hnb97 := NB268_269.out; have hnc97 := NB269_268.out; obtain ⟨hcz98_0, hcz98_1, hfz98_0, hfz98_1⟩ := blk2 BK268; have hnb99 := NB269_267.out; have hnc99 := NB267_269.out; obtain ⟨hcz100_0, hcz100_1, hcz100_2, hcz100_3, hcz100_4, hcz100_5, hcz100_6, hcz100_7, hcz100_8, hcz100_9, hcz100_10, hcz100_11, hfz100_0, hfz100_1, hfz100_2, hfz100_3, hfz100_4, hfz100_5, hfz100_6, hfz100_7, hfz100_8, hfz100_9, hfz100_10, hfz100_11⟩ := blk12 BK269))
  refine bodyPost_ret (results_list (rs := [.cell 4 25, .cell 5 42, .tmp 6]) rfl (by simp) (.cell gb268 25 #[.slice none 0 0, .bool false] (0, 0) _ rfl (bp_ BK268) Try.underlying25 rfl (by kernel_rfl) (.cell gb269 42 #[.int .i64 0, .int .i64 0, .int .i64 0, .int .i64 0, .slice none 0 0, .slice none 0 0, .int .i64 0, .int .i64 0, .int .i64 0, .int .i64 0, .slice none 0 0, .int .u32 0] (0, 0) _ rfl (bp_ BK269) Try.underlying42 rfl (by kernel_rfl) (.tmp .nil)))) rfl ?_
  exact ⟨_, _, _, _, by first | rfl | (simp [errW_none, errW_some] <;> rfl) | (simp [*, errW_none, errW_some] <;> rfl), by first | exact Kd.R_nil _ _ _ _ _ | exact Kd.N_nil _ _ _ _ _ | exact Kd.V_nil _ _ _ _ _ | exact Kd.Q_nil _ _ _ _ _ | exact Kd.S_nil _ _ _ _ _, by first | exact Kd.S_nil _ _ _ _ _ | exact Kd.N_nil _ _ _ _ _ | exact Kd.V_nil _ _ _ _ _ | exact Kd.Q_nil _ _ _ _ _ | exact Kd.R_nil _ _ _ _ _, by first | exact Kd.R_nil _ _ _ _ _ | exact Kd.N_nil _ _ _ _ _ | exact Kd.V_nil _ _ _ _ _ | exact Kd.Q_nil _ _ _ _ _ | exact Kd.S_nil _ _ _ _ _, by first | exact Kd.S_nil _ _ _ _ _ | exact Kd.N_nil _ _ _ _ _ | exact Kd.V_nil _ _ _ _ _ | exact Kd.Q_nil _ _ _ _ _ | exact Kd.R_nil _ _ _ _ _, by repeat (first | (with_reducible first | exact HB.out | apply below_alloc | apply pw_below_drewN | apply below_drew1 | refine below_set ?_ GE266.out | refine below_set ?_ GE267.out | refine below_set ?_ GE268.out | refine below_set ?_ GE269.out) | exact HB.out)⟩

end Go.Proofs.Ytlboachgeepadaa.P
