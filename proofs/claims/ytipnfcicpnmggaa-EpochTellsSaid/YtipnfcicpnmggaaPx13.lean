-- Written by a program of this session over the kit's print of the translation. Lean checks it.
import Derived.Test.YtipnfcicpnmggaaPx0
import Derived.Test.YtipnfcicpnmggaaPx12
import Derived.Test.YtipnfcicpnmggaaSel
-- shorter
namespace Go.Proofs.Ytipnfcicpnmggaa.P
open Go.RowKit Go.Proofs.YtipnfcicpnmggaaW.PrintWords Go.Proofs.YtipnfcicpnmggaaW.PrintLast Go.Proofs.YtipnfcicpnmggaaW.PrintMore
attribute [local go_sem] max2_int min2_int max_two min_two max_three min_three max_four min_four   -- for this text's walks alone
set_option linter.unusedVariables false
set_option linter.unusedSimpArgs false

/-! ### drydockref17_May: function 24 -/
mutual
def drydockref17_May.j0 : Nat → Bool → Int → Int → Int → Int → Int → List (S43) → Option (Bool)
  | 0, _, _, _, _, _, _, _ => none
  | k + 1, x19, x242000, x242001, x242002, x242003, x242004, x242005 => if x19 = true then (some false) else (drydockref17_May.l0 k 0 x242000 x242001 x242002 x242003 x242004 x242005)
def drydockref17_May.l0 : Nat → Int → Int → Int → Int → Int → Int → List (S43) → Option (Bool)
  | 0, _, _, _, _, _, _, _ => none
  | k + 1, x3, x242000, x242001, x242002, x242003, x242004, x242005 => if x3 < 4 then (if 0 ≤ x3 then (if (sel4I x242001 x242002 x242003 x242004 x3) < 0 then (some false) else (if (sel4I x242001 x242002 x242003 x242004 x3) > x242000 then (some false) else (drydockref17_May.l0 k (wrap64 (x3 + 1)) x242000 x242001 x242002 x242003 x242004 x242005))) else (none)) else (drydockref17_May.l1 k 0 x242000 x242001 x242002 x242003 x242004 x242005)
def drydockref17_May.l1 : Nat → Int → Int → Int → Int → Int → Int → List (S43) → Option (Bool)
  | 0, _, _, _, _, _, _, _ => none
  | k + 1, x4, x242000, x242001, x242002, x242003, x242004, x242005 => if x4 < (x242005.length : Int) then (if 0 ≤ x4 then (if ((rd_T43 x242005 x4).f0) < 1 then (some false) else (if ((rd_T43 x242005 x4).f1) < 1 then (some false) else (if ((rd_T43 x242005 x4).f1) ≥ x242000 then (some false) else (if x4 > 0 then (if 0 ≤ (wrap64 (x4 - 1)) then (if (wrap64 (x4 - 1)) < (x242005.length : Int) then (if ((rd_T43 x242005 x4).f1) < ((rd_T43 x242005 (wrap64 (x4 - 1))).f1) then (some false) else (if x4 ≤ (x242005.length : Int) then ((drydockref17_has.f k 0 0 0 0 0 (x242005.take (x4 : Int).toNat) ((rd_T43 x242005 x4).f0)).bind fun t249 => (if t249 = true then (some false) else (drydockref17_May.l1 k (wrap64 (x4 + 1)) x242000 x242001 x242002 x242003 x242004 x242005))) else (none))) else (none)) else (none)) else (if x4 ≤ (x242005.length : Int) then ((drydockref17_has.f k 0 0 0 0 0 (x242005.take (x4 : Int).toNat) ((rd_T43 x242005 x4).f0)).bind fun t254 => (if t254 = true then (some false) else (drydockref17_May.l1 k (wrap64 (x4 + 1)) x242000 x242001 x242002 x242003 x242004 x242005))) else (none)))))) else (none)) else (some true)
end
def drydockref17_May.f (k : Nat) (a0_0 : Int) (a0_1 : Int) (a0_2 : Int) (a0_3 : Int) (a0_4 : Int) (l0_5 : List (S43)) : Option (Bool) := if a0_0 < 1 then (drydockref17_May.j0 k true a0_0 a0_1 a0_2 a0_3 a0_4 l0_5) else (if a0_0 > 1073741824 then (drydockref17_May.j0 k true a0_0 a0_1 a0_2 a0_3 a0_4 l0_5) else (drydockref17_May.j0 k (decide ((l0_5.length : Int) > 16)) a0_0 a0_1 a0_2 a0_3 a0_4 l0_5))
theorem drydockref17_May.mono_l : ∀ k, (∀ y0 y1 y2 y3 y4 y5 y6, LeO (drydockref17_May.j0 k y0 y1 y2 y3 y4 y5 y6) (drydockref17_May.j0 (k + 1) y0 y1 y2 y3 y4 y5 y6)) ∧ (∀ y0 y1 y2 y3 y4 y5 y6, LeO (drydockref17_May.l0 k y0 y1 y2 y3 y4 y5 y6) (drydockref17_May.l0 (k + 1) y0 y1 y2 y3 y4 y5 y6)) ∧ (∀ y0 y1 y2 y3 y4 y5 y6, LeO (drydockref17_May.l1 k y0 y1 y2 y3 y4 y5 y6) (drydockref17_May.l1 (k + 1) y0 y1 y2 y3 y4 y5 y6))
  | 0 => ⟨fun _ _ _ _ _ _ _ r h => by simp [drydockref17_May.j0] at h, fun _ _ _ _ _ _ _ r h => by simp [drydockref17_May.l0] at h, fun _ _ _ _ _ _ _ r h => by simp [drydockref17_May.l1] at h⟩
  | k + 1 => by
    obtain ⟨ih0, ih1, ih2⟩ := drydockref17_May.mono_l k
    refine ⟨?_, ?_, ?_⟩
    · intro y0 y1 y2 y3 y4 y5 y6
      unfold drydockref17_May.j0
      repeat' first
      | (with_reducible exact ih0 _ _ _ _ _ _ _)
      | (with_reducible exact ih1 _ _ _ _ _ _ _)
      | (with_reducible exact ih2 _ _ _ _ _ _ _)
      | (with_reducible exact drydockref17_has.mono _ _ _ _ _ _ _ _)
      | (with_reducible exact LeO.refl _)
      | (with_reducible exact LeO.none _)
      | (with_reducible refine LeO.ite ?_ ?_)
      | (with_reducible refine LeO.bind ?_ (fun _ => ?_))
      | exact ih0 _ _ _ _ _ _ _
      | exact ih1 _ _ _ _ _ _ _
      | exact ih2 _ _ _ _ _ _ _
      | exact drydockref17_has.mono _ _ _ _ _ _ _ _
      | exact LeO.none _
      | refine LeO.ite ?_ ?_
      | refine LeO.bind ?_ (fun _ => ?_)
    · intro y0 y1 y2 y3 y4 y5 y6
      unfold drydockref17_May.l0
      repeat' first
      | (with_reducible exact ih0 _ _ _ _ _ _ _)
      | (with_reducible exact ih1 _ _ _ _ _ _ _)
      | (with_reducible exact ih2 _ _ _ _ _ _ _)
      | (with_reducible exact drydockref17_has.mono _ _ _ _ _ _ _ _)
      | (with_reducible exact LeO.refl _)
      | (with_reducible exact LeO.none _)
      | (with_reducible refine LeO.ite ?_ ?_)
      | (with_reducible refine LeO.bind ?_ (fun _ => ?_))
      | exact ih0 _ _ _ _ _ _ _
      | exact ih1 _ _ _ _ _ _ _
      | exact ih2 _ _ _ _ _ _ _
      | exact drydockref17_has.mono _ _ _ _ _ _ _ _
      | exact LeO.none _
      | refine LeO.ite ?_ ?_
      | refine LeO.bind ?_ (fun _ => ?_)
    · intro y0 y1 y2 y3 y4 y5 y6
      unfold drydockref17_May.l1
      repeat' first
      | (with_reducible exact ih0 _ _ _ _ _ _ _)
      | (with_reducible exact ih1 _ _ _ _ _ _ _)
      | (with_reducible exact ih2 _ _ _ _ _ _ _)
      | (with_reducible exact drydockref17_has.mono _ _ _ _ _ _ _ _)
      | (with_reducible exact LeO.refl _)
      | (with_reducible exact LeO.none _)
      | (with_reducible refine LeO.ite ?_ ?_)
      | (with_reducible refine LeO.bind ?_ (fun _ => ?_))
      | exact ih0 _ _ _ _ _ _ _
      | exact ih1 _ _ _ _ _ _ _
      | exact ih2 _ _ _ _ _ _ _
      | exact drydockref17_has.mono _ _ _ _ _ _ _ _
      | exact LeO.none _
      | refine LeO.ite ?_ ?_
      | refine LeO.bind ?_ (fun _ => ?_)
theorem drydockref17_May.mono : ∀ a0 a1 a2 a3 a4 a5 k, LeO (drydockref17_May.f k a0 a1 a2 a3 a4 a5) (drydockref17_May.f (k + 1) a0 a1 a2 a3 a4 a5) := by
 intro a0 a1 a2 a3 a4 a5 k
 obtain ⟨ih0, ih1, ih2⟩ := drydockref17_May.mono_l k
 unfold drydockref17_May.f
 repeat' first
  | (with_reducible exact ih0 _ _ _ _ _ _ _)
  | (with_reducible exact ih1 _ _ _ _ _ _ _)
  | (with_reducible exact ih2 _ _ _ _ _ _ _)
  | (with_reducible exact drydockref17_has.mono _ _ _ _ _ _ _ _)
  | (with_reducible exact LeO.refl _)
  | (with_reducible exact LeO.none _)
  | (with_reducible refine LeO.ite ?_ ?_)
  | (with_reducible refine LeO.bind ?_ (fun _ => ?_))
  | exact ih0 _ _ _ _ _ _ _
  | exact ih1 _ _ _ _ _ _ _
  | exact ih2 _ _ _ _ _ _ _
  | exact drydockref17_has.mono _ _ _ _ _ _ _ _
  | exact LeO.none _
  | refine LeO.ite ?_ ?_
  | refine LeO.bind ?_ (fun _ => ?_)
def drydockref17_May.T6 : Bool × List (List Nat × List Nat) := (true, [([], []), ([], []), ([1, 0], [0, 1]), ([2], [2]), ([3], [3]), ([4], [4]), ([5], [5]), ([5], [5]), ([7, 6, 5], [5, 6, 7]), ([8, 5], [5, 8]), ([5], [5]), ([10, 5], [5, 10]), ([9, 11, 5], [5, 9, 11]), ([5, 12], [5, 12])])
def drydockref17_May.B6 : List Nat := [0, 0, 3, 7, 15, 31, 63, 63, 255, 511, 63, 1087, 4095, 8191]
theorem drydockref17_May.tab6 : rtab .any (opsOf Try.f24 6) = drydockref17_May.T6 := by kernel_rfl
theorem drydockref17_May.bits6 : waitsOk drydockref17_May.T6.2 drydockref17_May.B6 = true := by kernel_rfl
def drydockref17_May.T12 : Bool × List (List Nat × List Nat) := (true, [([], []), ([0], [0]), ([1], [1]), ([2], [2]), ([3], [3]), ([4, 3], [3, 4]), ([5, 3], [3, 5]), ([3, 6], [3, 6]), ([7, 3], [7]), ([8], [8]), ([9, 8], [8, 9]), ([8], [8]), ([11, 8], [8, 11]), ([10, 12, 8], [8, 10, 12]), ([8, 13], [8, 13]), ([14, 8], [14]), ([15], [15]), ([16, 15], [15, 16]), ([17, 15, 15], [15, 17]), ([18], [18]), ([19, 18], [18, 19]), ([18], [18]), ([21, 18], [18, 21]), ([18], [18]), ([23, 18], [18, 23]), ([22, 24, 18], [18, 22, 24]), ([25, 18], [18, 25]), ([26, 18], [18, 26]), ([20, 27, 18], [18, 20, 27]), ([18, 28, 15], [15, 18, 28]), ([15, 29], [15, 29]), ([30, 18], [30]), ([31], [31]), ([32, 31], [31, 32]), ([31], [31]), ([33, 34, 31], [31, 33, 34]), ([35, 31], [31, 35]), ([31], [31]), ([37, 31], [31, 37]), ([36, 38, 31, 31], [31, 36, 38]), ([31, 39], [31, 39])])
def drydockref17_May.B12 : List Nat := [0, 1, 3, 7, 15, 31, 63, 127, 255, 511, 1023, 511, 2559, 8191, 16383, 32767, 65535, 131071, 262143, 524287, 1048575, 524287, 2621439, 524287, 8912895, 31981567, 65535999, 132644863, 268435455, 536870911, 1073741823, 2147483647, 4294967295, 8589934591, 4294967295, 34359738367, 68719476735, 4294967295, 141733920767, 549755813887, 1099511627775]
theorem drydockref17_May.tab12 : rtab .any (opsOf Try.f24 12) = drydockref17_May.T12 := by kernel_rfl
theorem drydockref17_May.bits12 : waitsOk drydockref17_May.T12.2 drydockref17_May.B12 = true := by kernel_rfl
set_option maxHeartbeats 8000000 in
set_option maxRecDepth 100000 in
theorem drydockref17_May.calls (k : Nat) (a0_0 : Int) (a0_1 : Int) (a0_2 : Int) (a0_3 : Int) (a0_4 : Int) (A0_5 : Option Addr) (c0_5 : Nat) (l0_5 : List (S43)) (r : Bool) (w : World) (hr0_5 : Kd.C k43 w A0_5 l0_5.length l0_5) (hc0_5 : l0_5.length ≤ c0_5) (h : drydockref17_May.f k a0_0 a0_1 a0_2 a0_3 a0_4 l0_5 = some r) :
    Calls Try.prog 24 #[.agg #[.int .i64 a0_0, .int .i64 a0_1, .int .i64 a0_2, .int .i64 a0_3, .int .i64 a0_4, .slice A0_5 l0_5.length c0_5]] w fun e w' => e = .returned (.bool r) ∧ Below w.heap.size w w' := by
 have hu25 := Try.underlying25
 have hu43 := Try.underlying43
 have HR0_5 := Aside0.mk hr0_5
 have HC0_5 := Aside0.mk hc0_5
 clear hr0_5 hc0_5
 have HB := Aside0.mk (Below.refl w.heap.size w)
 have H : (if a0_0 < 1 then (drydockref17_May.j0 k true a0_0 a0_1 a0_2 a0_3 a0_4 l0_5) else (if a0_0 > 1073741824 then (drydockref17_May.j0 k true a0_0 a0_1 a0_2 a0_3 a0_4 l0_5) else (drydockref17_May.j0 k (decide ((l0_5.length : Int) > 16)) a0_0 a0_1 a0_2 a0_3 a0_4 l0_5))) = some r := h
 clear h
 have HC2 := Aside0.mk H
 clear H
 go_enter Try.func24, Try.ntmps24
 go_upto_region 1 with (first | ((with_reducible refine gate_dst (N := 1) rfl ?_); (try (refine gate_guard (by rfl) ?_; dsimp only)); refine box_event ?hg (N := 1) ?hd (cs := #[.int .i64 a0_0, .int .i64 a0_1, .int .i64 a0_2, .int .i64 a0_3, .int .i64 a0_4, .slice A0_5 l0_5.length c0_5]) (t := 25) ?hr ?_; (case hd => rfl); (case hg => rfl); (case hr => first | (go_simp; done) | (go_simp; rfl)); intro gb241 hg w3 hbox hb; have n0_ := Aside0.mk (below_step bs_ hb); have n1_ := Aside0.mk (hbox); have n2_ := Aside0.mk ((by rw [hg]; exact (below_size bs_) : w.heap.size ≤ gb241)); have n3_ := Aside0.mk ((by rw [hg]; exact (below_size bs_) : w.heap.size ≤ gb241)); clear HB; have HB := n0_; have BK241 := n1_; have GW241 := n2_; have GE241 := n3_; clear n0_ n1_ n2_ n3_; clear hb hbox hg))
 (try simp only [Act.put, List.setIfInBounds_toArray, List.set_cons_zero, List.set_cons_succ])
 go_cut [19] (fun v19 wc => ∃ (kq : Nat) (x19_1 : Bool), v19 = .bool x19_1 ∧ Aside0 (drydockref17_May.j0 kq x19_1 a0_0 a0_1 a0_2 a0_3 a0_4 l0_5 = some r) ∧ Aside0 (kq ≤ k) ∧ Aside0 (wc.heap[gb241]? = some (.cells #[.int .i64 a0_0, .int .i64 a0_1, .int .i64 a0_2, .int .i64 a0_3, .int .i64 a0_4, (.slice A0_5 l0_5.length c0_5)] 25 (0, 0))) ∧ Aside0 (Below w.heap.size w wc))
 case first =>
  have H := HC2.out
  clear HC2
  by_cases c4 : a0_0 < 1
  ·rw [if_pos c4] at H
   have c4b0 : decide (a0_0 < 1) = true := decide_eq_true c4
   clear c4
   (first | rw [c4b0] | (simp only [i64_w, i32_w]; rw [c4b0]) | skip)
   have H' := Aside0.mk H
   clear H
   obtain ⟨hcz5_0, hcz5_1, hcz5_2, hcz5_3, hcz5_4, hcz5_5, hfz5_0, hfz5_1, hfz5_2, hfz5_3, hfz5_4, hfz5_5⟩ := blk6 BK241
   go_wp2
   go_meet
   case rel => exact ⟨_, (true), eq_, H', ⟨by first | omega | exact Nat.le_refl _⟩, ⟨bk_ BK241⟩, ⟨bs_⟩⟩
  ·rw [if_neg c4] at H
   have c4b0 : decide (a0_0 < 1) = false := decide_eq_false c4
   clear c4
   (first | rw [c4b0] | (simp only [i64_w, i32_w]; rw [c4b0]) | skip)
   by_cases c6 : a0_0 > 1073741824
   ·rw [if_pos c6] at H
    have c6b0 : decide (1073741824 < a0_0) = true := decide_eq_true c6
    clear c6
    have H' := Aside0.mk H
    clear H
    obtain ⟨hcz7_0, hcz7_1, hcz7_2, hcz7_3, hcz7_4, hcz7_5, hfz7_0, hfz7_1, hfz7_2, hfz7_3, hfz7_4, hfz7_5⟩ := blk6 BK241
    go_wp2
    go_meet
    case rel => exact ⟨_, (true), eq_, H', ⟨by first | omega | exact Nat.le_refl _⟩, ⟨bk_ BK241⟩, ⟨bs_⟩⟩
   ·rw [if_neg c6] at H
    have c6b0 : decide (1073741824 < a0_0) = false := decide_eq_false c6
    clear c6
    have H' := Aside0.mk H
    clear H
    obtain ⟨hcz8_0, hcz8_1, hcz8_2, hcz8_3, hcz8_4, hcz8_5, hfz8_0, hfz8_1, hfz8_2, hfz8_3, hfz8_4, hfz8_5⟩ := blk6 BK241
    go_wp2
    go_meet
    case rel => exact ⟨_, (decide ((l0_5.length : Int) > 16)), eq_, H', ⟨by first | omega | exact Nat.le_refl _⟩, ⟨bk_ BK241⟩, ⟨bs_⟩⟩
 case rest =>
  clear HC2
  obtain ⟨kq, x19_1, rfl, HA, HJ1, BK241, HB⟩ := hcut
  cases kq with
  | zero => exact absurd HA.out (by simp [drydockref17_May.j0])
  | succ kj1 =>
   have H := HA.out
   clear HA
   simp only [drydockref17_May.j0] at H
   by_cases c9 : x19_1 = true
   ·subst c9
    have H1 : (some false) = some r := by rw [if_pos rfl] at H; exact H
    clear H
    have H := H1
    clear H1
    obtain rfl := Option.some.inj H
    go_wp2
    go_ret
    exact ⟨by first | rfl | (simp [errW_none, errW_some] <;> rfl) | (simp [*, errW_none, errW_some] <;> rfl), by repeat (first | (with_reducible first | exact HB.out | apply below_alloc | apply pw_below_drewN | apply below_drew1 | refine below_set ?_ GE241.out) | exact HB.out)⟩
   ·replace c9 := Bool.eq_false_iff.mpr c9
    subst c9
    have H1 : (drydockref17_May.l0 kj1 0 a0_0 a0_1 a0_2 a0_3 a0_4 l0_5) = some r := by rw [if_neg (show ¬ (false = true) by decide)] at H; exact H
    clear H
    have H := H1
    clear H1
    have H' := Aside0.mk H
    clear H
    go_wp2
    go_loopg [3] kj1 (fun kq v3 w' => ∃ (x3_2 : Int), v3 = .int .i64 x3_2 ∧ Aside0 (drydockref17_May.l0 kq x3_2 a0_0 a0_1 a0_2 a0_3 a0_4 l0_5 = some r) ∧ Aside0 (kq ≤ kj1) ∧ Aside0 (w'.heap[gb241]? = some (.cells #[.int .i64 a0_0, .int .i64 a0_1, .int .i64 a0_2, .int .i64 a0_3, .int .i64 a0_4, (.slice A0_5 l0_5.length c0_5)] 25 (0, 0))) ∧ Aside0 (Below w.heap.size w w'))
    case atStart => exact ⟨(0), eq_, H', ⟨Nat.le_refl _⟩, ⟨bk_ BK241⟩, ⟨bs_⟩⟩
    case round =>
     clear H'
     try clear c9
     obtain ⟨x3_2, rfl, HA, HK2, BK241, HB⟩ := hrel
     cases gk with
     | zero => exact absurd HA.out (by simp [drydockref17_May.l0])
     | succ k2 =>
      have H := HA.out
      clear HA
      simp only [drydockref17_May.l0] at H
      by_cases c10 : x3_2 < 4
      ·rw [if_pos c10] at H
       have c10b0 : decide (x3_2 < 4) = true := decide_eq_true c10
       clear c10
       by_cases c11 : 0 ≤ x3_2
       ·rw [if_pos c11] at H
        have c11b0 : decide (0 ≤ x3_2) = true := decide_eq_true c11
        clear c11
        by_cases c12 : (sel4I a0_1 a0_2 a0_3 a0_4 x3_2) < 0
        ·rw [if_pos c12] at H
         have c12b0 : decide ((sel4I a0_1 a0_2 a0_3 a0_4 x3_2) < 0) = true := decide_eq_true c12
         clear c12
         obtain rfl := Option.some.inj H
         try go_wp2
         have n0_ := Aside0.mk (blk_drew BK241.out)
         have n1_ := Aside0.mk (below_drew1 HB.out)
         clear BK241
         clear HB
         have BK241 := n0_
         have HB := n1_
         clear n0_ n1_
         have pz14 : (0 ≤ (x3_2 : Int)) = True := eq_true (of_decide_eq_true (by first | (with_reducible assumption) | assumption))
         have qz14 : ((x3_2 : Int) < 4) = True := eq_true (of_decide_eq_true (by first | (with_reducible assumption) | assumption))
         refine start_ (n := 14) (S := fun w' => w'.cell? ⟨gb241, 0, none⟩ = some (.int .i64 a0_0) ∧ w'.cell? ⟨gb241, 1, none⟩ = some (.int .i64 a0_1) ∧ w'.cell? ⟨gb241, 2, none⟩ = some (.int .i64 a0_2) ∧ w'.cell? ⟨gb241, 3, none⟩ = some (.int .i64 a0_3) ∧ w'.cell? ⟨gb241, 4, none⟩ = some (.int .i64 a0_4) ∧ w'.cell? ⟨gb241, 5, none⟩ = some (.slice A0_5 l0_5.length c0_5) ∧ w'.cell? ⟨gb241, 1 + (x3_2).toNat, none⟩ = some (.int .i64 (sel4I a0_1 a0_2 a0_3 a0_4 x3_2))) (ds := []) #[false, false, false, false, false, false, false, false, false, false, false, false, false, false] (by kernel_rfl) rfl rfl ⟨(blk_cell BK241.out 0).trans rfl, (blk_cell BK241.out 1).trans rfl, (blk_cell BK241.out 2).trans rfl, (blk_cell BK241.out 3).trans rfl, (blk_cell BK241.out 4).trans rfl, (blk_cell BK241.out 5).trans rfl, (blk_sel4I BK241.out rfl rfl rfl rfl (of_eq_true pz14) (of_eq_true qz14))⟩ (fun hHeld => ?_); refine with_tabW drydockref17_May.tab6 drydockref17_May.bits6 (fun HT_ HW_ => ?_)
         generalize wr.drew = w13 at BK241 HB hHeld ⊢
         refine pv_ 0 (some 24) HT_ (h := ?_)
         refine pv_ 1 (some 25) HT_ (h := ?_)
         refine pv_ 2 (some 26) HT_ (h := ?_)
         refine tk_ 3 (some 27) HT_ HW_ hHeld (h := ?_)
         refine pv_ 4 (some 28) HT_ (h := ?_)
         refine pv_ 5 (some 29) HT_ (h := ?_)
         refine pu_ 6 (some 30) HT_ (h := ?_)
         refine pu_ 7 (some 31) HT_ (h := ?_)
         refine pu_ 8 (some 32) HT_ (h := ?_)
         refine pu_ 9 (some 33) HT_ (h := ?_)
         refine pu_ 10 (some 34) HT_ (h := ?_)
         refine pu_ 11 (some 35) HT_ (h := ?_)
         refine pu_ 12 (some 36) HT_ (h := ?_)
         refine pv_ 13 (some 37) HT_ (h := ?_)
         refine done_ (done_of HT_.out (by kernel_rfl)) ?_
         try go_wp2
         go_ret
         exact ⟨by first | rfl | (simp [errW_none, errW_some] <;> rfl) | (simp [*, errW_none, errW_some] <;> rfl), by repeat (first | (with_reducible first | exact HB.out | apply below_alloc | apply pw_below_drewN | apply below_drew1 | refine below_set ?_ GE241.out) | exact HB.out)⟩
        ·rw [if_neg c12] at H
         have c12b0 : decide ((sel4I a0_1 a0_2 a0_3 a0_4 x3_2) < 0) = false := decide_eq_false c12
         clear c12
         by_cases c15 : (sel4I a0_1 a0_2 a0_3 a0_4 x3_2) > a0_0
         ·rw [if_pos c15] at H
          have c15b0 : decide (a0_0 < (sel4I a0_1 a0_2 a0_3 a0_4 x3_2)) = true := decide_eq_true c15
          clear c15
          obtain rfl := Option.some.inj H
          try go_wp2
          have n0_ := Aside0.mk (blk_drew BK241.out)
          have n1_ := Aside0.mk (below_drew1 HB.out)
          clear BK241
          clear HB
          have BK241 := n0_
          have HB := n1_
          clear n0_ n1_
          have pz17 : (0 ≤ (x3_2 : Int)) = True := eq_true (of_decide_eq_true (by first | (with_reducible assumption) | assumption))
          have qz17 : ((x3_2 : Int) < 4) = True := eq_true (of_decide_eq_true (by first | (with_reducible assumption) | assumption))
          refine start_ (n := 14) (S := fun w' => w'.cell? ⟨gb241, 0, none⟩ = some (.int .i64 a0_0) ∧ w'.cell? ⟨gb241, 1, none⟩ = some (.int .i64 a0_1) ∧ w'.cell? ⟨gb241, 2, none⟩ = some (.int .i64 a0_2) ∧ w'.cell? ⟨gb241, 3, none⟩ = some (.int .i64 a0_3) ∧ w'.cell? ⟨gb241, 4, none⟩ = some (.int .i64 a0_4) ∧ w'.cell? ⟨gb241, 5, none⟩ = some (.slice A0_5 l0_5.length c0_5) ∧ w'.cell? ⟨gb241, 1 + (x3_2).toNat, none⟩ = some (.int .i64 (sel4I a0_1 a0_2 a0_3 a0_4 x3_2))) (ds := []) #[false, false, false, false, false, false, false, false, false, false, false, false, false, false] (by kernel_rfl) rfl rfl ⟨(blk_cell BK241.out 0).trans rfl, (blk_cell BK241.out 1).trans rfl, (blk_cell BK241.out 2).trans rfl, (blk_cell BK241.out 3).trans rfl, (blk_cell BK241.out 4).trans rfl, (blk_cell BK241.out 5).trans rfl, (blk_sel4I BK241.out rfl rfl rfl rfl (of_eq_true pz17) (of_eq_true qz17))⟩ (fun hHeld => ?_); refine with_tabW drydockref17_May.tab6 drydockref17_May.bits6 (fun HT_ HW_ => ?_)
          generalize wr.drew = w16 at BK241 HB hHeld ⊢
          refine pv_ 0 (some 24) HT_ (h := ?_)
          refine pv_ 1 (some 25) HT_ (h := ?_)
          refine pv_ 2 (some 26) HT_ (h := ?_)
          refine tk_ 3 (some 27) HT_ HW_ hHeld (h := ?_)
          refine pv_ 4 (some 28) HT_ (h := ?_)
          refine pv_ 5 (some 29) HT_ (h := ?_)
          refine pv_ 6 (some 30) HT_ (h := ?_)
          refine pv_ 7 (some 31) HT_ (h := ?_)
          refine pv_ 8 (some 32) HT_ (h := ?_)
          refine pv_ 10 (some 34) HT_ (h := ?_)
          refine tk_ 9 (some 33) HT_ HW_ hHeld (h := ?_)
          refine tk_ 11 (some 35) HT_ HW_ hHeld (h := ?_)
          refine pv_ 12 (some 36) HT_ (h := ?_)
          refine pv_ 13 (some 37) HT_ (h := ?_)
          refine done_ (done_of HT_.out (by kernel_rfl)) ?_
          try go_wp2
          go_ret
          exact ⟨by first | rfl | (simp [errW_none, errW_some] <;> rfl) | (simp [*, errW_none, errW_some] <;> rfl), by repeat (first | (with_reducible first | exact HB.out | apply below_alloc | apply pw_below_drewN | apply below_drew1 | refine below_set ?_ GE241.out) | exact HB.out)⟩
         ·rw [if_neg c15] at H
          have c15b0 : decide (a0_0 < (sel4I a0_1 a0_2 a0_3 a0_4 x3_2)) = false := decide_eq_false c15
          clear c15
          have H' := Aside0.mk H
          clear H
          try go_wp2
          have n0_ := Aside0.mk (blk_drew BK241.out)
          have n1_ := Aside0.mk (below_drew1 HB.out)
          clear BK241
          clear HB
          have BK241 := n0_
          have HB := n1_
          clear n0_ n1_
          have pz20 : (0 ≤ (x3_2 : Int)) = True := eq_true (of_decide_eq_true (by first | (with_reducible assumption) | assumption))
          have qz20 : ((x3_2 : Int) < 4) = True := eq_true (of_decide_eq_true (by first | (with_reducible assumption) | assumption))
          refine start_ (n := 14) (S := fun w' => w'.cell? ⟨gb241, 0, none⟩ = some (.int .i64 a0_0) ∧ w'.cell? ⟨gb241, 1, none⟩ = some (.int .i64 a0_1) ∧ w'.cell? ⟨gb241, 2, none⟩ = some (.int .i64 a0_2) ∧ w'.cell? ⟨gb241, 3, none⟩ = some (.int .i64 a0_3) ∧ w'.cell? ⟨gb241, 4, none⟩ = some (.int .i64 a0_4) ∧ w'.cell? ⟨gb241, 5, none⟩ = some (.slice A0_5 l0_5.length c0_5) ∧ w'.cell? ⟨gb241, 1 + (x3_2).toNat, none⟩ = some (.int .i64 (sel4I a0_1 a0_2 a0_3 a0_4 x3_2))) (ds := []) #[false, false, false, false, false, false, false, false, false, false, false, false, false, false] (by kernel_rfl) rfl rfl ⟨(blk_cell BK241.out 0).trans rfl, (blk_cell BK241.out 1).trans rfl, (blk_cell BK241.out 2).trans rfl, (blk_cell BK241.out 3).trans rfl, (blk_cell BK241.out 4).trans rfl, (blk_cell BK241.out 5).trans rfl, (blk_sel4I BK241.out rfl rfl rfl rfl (of_eq_true pz20) (of_eq_true qz20))⟩ (fun hHeld => ?_); refine with_tabW drydockref17_May.tab6 drydockref17_May.bits6 (fun HT_ HW_ => ?_)
          generalize wr.drew = w19 at BK241 HB hHeld ⊢
          refine pv_ 0 (some 24) HT_ (h := ?_)
          refine pv_ 1 (some 25) HT_ (h := ?_)
          refine pv_ 2 (some 26) HT_ (h := ?_)
          refine tk_ 3 (some 27) HT_ HW_ hHeld (h := ?_)
          refine pv_ 4 (some 28) HT_ (h := ?_)
          refine pv_ 5 (some 29) HT_ (h := ?_)
          refine pv_ 6 (some 30) HT_ (h := ?_)
          refine pv_ 7 (some 31) HT_ (h := ?_)
          refine pv_ 8 (some 32) HT_ (h := ?_)
          refine pv_ 10 (some 34) HT_ (h := ?_)
          refine tk_ 9 (some 33) HT_ HW_ hHeld (h := ?_)
          refine tk_ 11 (some 35) HT_ HW_ hHeld (h := ?_)
          refine pv_ 12 (some 36) HT_ (h := ?_)
          refine pv_ 13 (some 37) HT_ (h := ?_)
          refine done_ (done_of HT_.out (by kernel_rfl)) ?_
          try go_wp2
          go_roundg k2
          case measure => have := HJ1.out; have := HK2.out; omega
          case rel => exact ⟨(wrap64 (x3_2 + 1)), eq_, H', ⟨by have := HJ1.out; have := HK2.out; omega⟩, ⟨bk_ BK241⟩, ⟨bs_⟩⟩
       ·rw [if_neg c11] at H
        exact absurd H (by simp)
      ·rw [if_neg c10] at H
       have c10b0 : decide (x3_2 < 4) = false := decide_eq_false c10
       clear c10
       have H' := Aside0.mk H
       clear H
       go_wp2
       go_loopg [4] k2 (fun kq v4 w' => ∃ (x4_3 : Int), v4 = .int .i64 x4_3 ∧ Aside0 (drydockref17_May.l1 kq x4_3 a0_0 a0_1 a0_2 a0_3 a0_4 l0_5 = some r) ∧ Aside0 (kq ≤ k2) ∧ Aside0 (w'.heap[gb241]? = some (.cells #[.int .i64 a0_0, .int .i64 a0_1, .int .i64 a0_2, .int .i64 a0_3, .int .i64 a0_4, (.slice A0_5 l0_5.length c0_5)] 25 (0, 0))) ∧ Aside0 (Below w.heap.size w w'))
       case atStart => exact ⟨(0), eq_, H', ⟨Nat.le_refl _⟩, ⟨bk_ BK241⟩, ⟨bs_⟩⟩
       case round =>
        clear H'
        try clear c9
        try clear c10
        obtain ⟨x4_3, rfl, HA, HK3, BK241, HB⟩ := hrel
        cases gk with
        | zero => exact absurd HA.out (by simp [drydockref17_May.l1])
        | succ k3 =>
         have H := HA.out
         clear HA
         simp only [drydockref17_May.l1] at H
         by_cases c22 : x4_3 < (l0_5.length : Int)
         ·rw [if_pos c22] at H
          have c22b0 : decide (x4_3 < (l0_5.length : Int)) = true := decide_eq_true c22
          clear c22
          by_cases c23 : 0 ≤ x4_3
          ·rw [if_pos c23] at H
           have c23b0 : decide (0 ≤ x4_3) = true := decide_eq_true c23
           clear c23
           by_cases c24 : ((rd_T43 l0_5 x4_3).f0) < 1
           ·rw [if_pos c24] at H
            have c24b0 : decide (((rd_T43 l0_5 x4_3).f0) < 1) = true := decide_eq_true c24
            clear c24
            obtain rfl := Option.some.inj H
            obtain ⟨hcz25_0, hcz25_1, hcz25_2, hcz25_3, hcz25_4, hcz25_5, hfz25_0, hfz25_1, hfz25_2, hfz25_3, hfz25_4, hfz25_5⟩ := blk6 BK241
            have p242 : 0 ≤ (x4_3 : Int) := of_decide_eq_true (by first | (with_reducible assumption) | assumption)
            have q242 : x4_3 < (l0_5.length : Int) := of_decide_eq_true (by first | (with_reducible assumption) | assumption)
            obtain ⟨ad242, e242, hx242_0, hx242_1⟩ := at_T43 HR0_5.out x4_3 p242 q242
            cases e242
            replace hx242_0 := (HB.out.cell (World.block_lt_of_cell? w _ hx242_0)).trans hx242_0
            replace hx242_1 := (HB.out.cell (World.block_lt_of_cell? w _ hx242_1)).trans hx242_1
            replace p242 := eq_true p242
            replace q242 := eq_true q242
            try go_wp2_with (first | ((with_reducible refine gate_dst (N := 5) rfl ?_); (try (refine gate_guard (by rfl) ?_; dsimp only)); refine box_event ?hg (N := 5) ?hd (cs := #[.int .i64 0, .int .i64 0]) (t := 43) ?hr ?_; (case hd => rfl); (case hg => rfl); (case hr => first | (go_simp; done) | (go_simp; rfl)); intro gb243 hg w26 hbox hb; have n0_ := Aside0.mk (blk_below (bk_ BK241) hb); have n1_ := Aside0.mk (below_step bs_ hb); have n2_ := Aside0.mk (hbox); have n3_ := Aside0.mk ((by rw [hg]; exact (below_size bs_) : w.heap.size ≤ gb243)); have n4_ := Aside0.mk ((by rw [hg]; exact (below_size bs_) : w.heap.size ≤ gb243)); have n5_ := Aside0.mk ((by rw [hg]; exact Nat.ne_of_lt (blk_lt (bk_ BK241)) : gb241 ≠ gb243)); have n6_ := Aside0.mk ((by rw [hg]; exact Nat.ne_of_gt (blk_lt (bk_ BK241)) : gb243 ≠ gb241)); clear BK241 HB; have BK241 := n0_; have HB := n1_; have BK243 := n2_; have GW243 := n3_; have GE243 := n4_; have NB241_243 := n5_; have NB243_241 := n6_; clear n0_ n1_ n2_ n3_ n4_ n5_ n6_; clear hb hbox hg; have hnb27 := NB243_241.out; have hnc27 := NB241_243.out; obtain ⟨hcz28_0, hcz28_1, hfz28_0, hfz28_1⟩ := blk2 BK243))
            have n0_ : Aside0 (((w26.setCell ⟨gb243, 0, none⟩ (.int .i64 ((rd_T43 l0_5 x4_3).f0))).setCell ⟨gb243, 1, none⟩ (.int .i64 ((rd_T43 l0_5 x4_3).f1))).heap[gb241]? = some (.cells #[.int .i64 a0_0, .int .i64 a0_1, .int .i64 a0_2, .int .i64 a0_3, .int .i64 a0_4, .slice (some ad242) l0_5.length c0_5] 25 (0, 0))) := ⟨bf_ BK241⟩
            have n1_ : Aside0 (((w26.setCell ⟨gb243, 0, none⟩ (.int .i64 ((rd_T43 l0_5 x4_3).f0))).setCell ⟨gb243, 1, none⟩ (.int .i64 ((rd_T43 l0_5 x4_3).f1))).heap[gb243]? = some (.cells #[.int .i64 ((rd_T43 l0_5 x4_3).f0), .int .i64 ((rd_T43 l0_5 x4_3).f1)] 43 (0, 0))) := ⟨bp_ BK243⟩
            have n2_ : Aside0 (Below w.heap.size w ((w26.setCell ⟨gb243, 0, none⟩ (.int .i64 ((rd_T43 l0_5 x4_3).f0))).setCell ⟨gb243, 1, none⟩ (.int .i64 ((rd_T43 l0_5 x4_3).f1)))) := ⟨bs_⟩
            (try clear BK241)
            (try clear BK243)
            (try clear HB)
            generalize ((w26.setCell ⟨gb243, 0, none⟩ (.int .i64 ((rd_T43 l0_5 x4_3).f0))).setCell ⟨gb243, 1, none⟩ (.int .i64 ((rd_T43 l0_5 x4_3).f1))) = w29 at n0_ n1_ n2_ ⊢
            have BK241 := n0_
            have BK243 := n1_
            have HB := n2_
            clear n0_ n1_ n2_
            have n0_ := Aside0.mk (blk_drew BK241.out)
            have n1_ := Aside0.mk (blk_drew BK243.out)
            have n2_ := Aside0.mk (below_drew1 HB.out)
            clear BK241
            clear BK243
            clear HB
            have BK241 := n0_
            have BK243 := n1_
            have HB := n2_
            clear n0_ n1_ n2_
            refine start_ (n := 41) (S := fun w' => w'.cell? ⟨gb243, 0, none⟩ = some (.int .i64 ((rd_T43 l0_5 x4_3).f0)) ∧ w'.cell? ⟨gb243, 1, none⟩ = some (.int .i64 ((rd_T43 l0_5 x4_3).f1))) (ds := []) #[false, false, false, false, false, false, false, false, false, false, false, false, false, false, false, false, false, false, false, false, false, false, false, false, false, false, false, false, false, false, false, false, false, false, false, false, false, false, false, false, false] (by kernel_rfl) rfl rfl ⟨(blk_cell BK243.out 0).trans rfl, (blk_cell BK243.out 1).trans rfl⟩ (fun hHeld => ?_); refine with_tabW drydockref17_May.tab12 drydockref17_May.bits12 (fun HT_ HW_ => ?_)
            generalize w29.drew = w30 at BK241 BK243 HB hHeld ⊢
            refine pv_ 0 (some 50) HT_ (h := ?_)
            refine tk_ 1 (some 51) HT_ HW_ hHeld (h := ?_)
            refine pv_ 2 (some 52) HT_ (h := ?_)
            refine pv_ 3 (some 53) HT_ (h := ?_)
            refine pu_ 4 (some 54) HT_ (h := ?_)
            refine pu_ 5 (some 55) HT_ (h := ?_)
            refine pu_ 6 (some 56) HT_ (h := ?_)
            refine pv_ 7 (some 57) HT_ (h := ?_)
            refine pv_ 8 (some 58) HT_ (h := ?_)
            refine pu_ 9 (some 59) HT_ (h := ?_)
            refine pu_ 10 (some 60) HT_ (h := ?_)
            refine pu_ 11 (some 61) HT_ (h := ?_)
            refine pu_ 12 (some 62) HT_ (h := ?_)
            refine pu_ 13 (some 63) HT_ (h := ?_)
            refine pv_ 14 (some 64) HT_ (h := ?_)
            refine pv_ 15 (some 65) HT_ (h := ?_)
            refine pu_ 16 (some 66) HT_ (h := ?_)
            refine pu_ 17 (some 67) HT_ (h := ?_)
            refine pu_ 18 (some 68) HT_ (h := ?_)
            refine pu_ 19 (some 69) HT_ (h := ?_)
            refine pu_ 20 (some 70) HT_ (h := ?_)
            refine pu_ 21 (some 71) HT_ (h := ?_)
            refine pu_ 22 (some 72) HT_ (h := ?_)
            refine pu_ 23 (some 73) HT_ (h := ?_)
            refine pu_ 24 (some 74) HT_ (h := ?_)
            refine pu_ 25 (some 75) HT_ (h := ?_)
            refine pu_ 26 (some 76) HT_ (h := ?_)
            refine pu_ 27 (some 77) HT_ (h := ?_)
            refine pu_ 28 (some 78) HT_ (h := ?_)
            refine pu_ 29 (some 79) HT_ (h := ?_)
            refine pv_ 30 (some 80) HT_ (h := ?_)
            refine pv_ 31 (some 81) HT_ (h := ?_)
            refine pu_ 32 (some 82) HT_ (h := ?_)
            refine pu_ 33 (some 83) HT_ (h := ?_)
            refine pu_ 34 (some 84) HT_ (h := ?_)
            refine pu_ 35 (some 85) HT_ (h := ?_)
            refine pu_ 36 (some 86) HT_ (h := ?_)
            refine pu_ 37 (some 87) HT_ (h := ?_)
            refine pu_ 38 (some 88) HT_ (h := ?_)
            refine pu_ 39 (some 89) HT_ (h := ?_)
            refine pv_ 40 (some 90) HT_ (h := ?_)
            refine done_ (done_of HT_.out (by kernel_rfl)) ?_
            try go_wp2
            go_ret
            exact ⟨by first | rfl | (simp [errW_none, errW_some] <;> rfl) | (simp [*, errW_none, errW_some] <;> rfl), by repeat (first | (with_reducible first | exact HB.out | apply below_alloc | apply pw_below_drewN | apply below_drew1 | refine below_set ?_ GE241.out | refine below_set ?_ GE243.out) | exact HB.out)⟩
           ·rw [if_neg c24] at H
            have c24b0 : decide (((rd_T43 l0_5 x4_3).f0) < 1) = false := decide_eq_false c24
            clear c24
            by_cases c31 : ((rd_T43 l0_5 x4_3).f1) < 1
            ·rw [if_pos c31] at H
             have c31b0 : decide (((rd_T43 l0_5 x4_3).f1) < 1) = true := decide_eq_true c31
             clear c31
             obtain rfl := Option.some.inj H
             obtain ⟨hcz32_0, hcz32_1, hcz32_2, hcz32_3, hcz32_4, hcz32_5, hfz32_0, hfz32_1, hfz32_2, hfz32_3, hfz32_4, hfz32_5⟩ := blk6 BK241
             have p242 : 0 ≤ (x4_3 : Int) := of_decide_eq_true (by first | (with_reducible assumption) | assumption)
             have q242 : x4_3 < (l0_5.length : Int) := of_decide_eq_true (by first | (with_reducible assumption) | assumption)
             obtain ⟨ad242, e242, hx242_0, hx242_1⟩ := at_T43 HR0_5.out x4_3 p242 q242
             cases e242
             replace hx242_0 := (HB.out.cell (World.block_lt_of_cell? w _ hx242_0)).trans hx242_0
             replace hx242_1 := (HB.out.cell (World.block_lt_of_cell? w _ hx242_1)).trans hx242_1
             replace p242 := eq_true p242
             replace q242 := eq_true q242
             try go_wp2_with (first | ((with_reducible refine gate_dst (N := 5) rfl ?_); (try (refine gate_guard (by rfl) ?_; dsimp only)); refine box_event ?hg (N := 5) ?hd (cs := #[.int .i64 0, .int .i64 0]) (t := 43) ?hr ?_; (case hd => rfl); (case hg => rfl); (case hr => first | (go_simp; done) | (go_simp; rfl)); intro gb243 hg w33 hbox hb; have n0_ := Aside0.mk (blk_below (bk_ BK241) hb); have n1_ := Aside0.mk (below_step bs_ hb); have n2_ := Aside0.mk (hbox); have n3_ := Aside0.mk ((by rw [hg]; exact (below_size bs_) : w.heap.size ≤ gb243)); have n4_ := Aside0.mk ((by rw [hg]; exact (below_size bs_) : w.heap.size ≤ gb243)); have n5_ := Aside0.mk ((by rw [hg]; exact Nat.ne_of_lt (blk_lt (bk_ BK241)) : gb241 ≠ gb243)); have n6_ := Aside0.mk ((by rw [hg]; exact Nat.ne_of_gt (blk_lt (bk_ BK241)) : gb243 ≠ gb241)); clear BK241 HB; have BK241 := n0_; have HB := n1_; have BK243 := n2_; have GW243 := n3_; have GE243 := n4_; have NB241_243 := n5_; have NB243_241 := n6_; clear n0_ n1_ n2_ n3_ n4_ n5_ n6_; clear hb hbox hg; have hnb34 := NB243_241.out; have hnc34 := NB241_243.out; obtain ⟨hcz35_0, hcz35_1, hfz35_0, hfz35_1⟩ := blk2 BK243))
             have n0_ : Aside0 (((w33.setCell ⟨gb243, 0, none⟩ (.int .i64 ((rd_T43 l0_5 x4_3).f0))).setCell ⟨gb243, 1, none⟩ (.int .i64 ((rd_T43 l0_5 x4_3).f1))).heap[gb241]? = some (.cells #[.int .i64 a0_0, .int .i64 a0_1, .int .i64 a0_2, .int .i64 a0_3, .int .i64 a0_4, .slice (some ad242) l0_5.length c0_5] 25 (0, 0))) := ⟨bf_ BK241⟩
             have n1_ : Aside0 (((w33.setCell ⟨gb243, 0, none⟩ (.int .i64 ((rd_T43 l0_5 x4_3).f0))).setCell ⟨gb243, 1, none⟩ (.int .i64 ((rd_T43 l0_5 x4_3).f1))).heap[gb243]? = some (.cells #[.int .i64 ((rd_T43 l0_5 x4_3).f0), .int .i64 ((rd_T43 l0_5 x4_3).f1)] 43 (0, 0))) := ⟨bp_ BK243⟩
             have n2_ : Aside0 (Below w.heap.size w ((w33.setCell ⟨gb243, 0, none⟩ (.int .i64 ((rd_T43 l0_5 x4_3).f0))).setCell ⟨gb243, 1, none⟩ (.int .i64 ((rd_T43 l0_5 x4_3).f1)))) := ⟨bs_⟩
             (try clear BK241)
             (try clear BK243)
             (try clear HB)
             generalize ((w33.setCell ⟨gb243, 0, none⟩ (.int .i64 ((rd_T43 l0_5 x4_3).f0))).setCell ⟨gb243, 1, none⟩ (.int .i64 ((rd_T43 l0_5 x4_3).f1))) = w36 at n0_ n1_ n2_ ⊢
             have BK241 := n0_
             have BK243 := n1_
             have HB := n2_
             clear n0_ n1_ n2_
             have n0_ := Aside0.mk (blk_drew BK241.out)
             have n1_ := Aside0.mk (blk_drew BK243.out)
             have n2_ := Aside0.mk (below_drew1 HB.out)
             clear BK241
             clear BK243
             clear HB
             have BK241 := n0_
             have BK243 := n1_
             have HB := n2_
             clear n0_ n1_ n2_
             refine start_ (n := 41) (S := fun w' => w'.cell? ⟨gb243, 0, none⟩ = some (.int .i64 ((rd_T43 l0_5 x4_3).f0)) ∧ w'.cell? ⟨gb243, 1, none⟩ = some (.int .i64 ((rd_T43 l0_5 x4_3).f1))) (ds := []) #[false, false, false, false, false, false, false, false, false, false, false, false, false, false, false, false, false, false, false, false, false, false, false, false, false, false, false, false, false, false, false, false, false, false, false, false, false, false, false, false, false] (by kernel_rfl) rfl rfl ⟨(blk_cell BK243.out 0).trans rfl, (blk_cell BK243.out 1).trans rfl⟩ (fun hHeld => ?_); refine with_tabW drydockref17_May.tab12 drydockref17_May.bits12 (fun HT_ HW_ => ?_)
             generalize w36.drew = w37 at BK241 BK243 HB hHeld ⊢
             refine pv_ 0 (some 50) HT_ (h := ?_)
             refine tk_ 1 (some 51) HT_ HW_ hHeld (h := ?_)
             refine pv_ 2 (some 52) HT_ (h := ?_)
             refine pv_ 3 (some 53) HT_ (h := ?_)
             refine pv_ 4 (some 54) HT_ (h := ?_)
             refine tk_ 5 (some 55) HT_ HW_ hHeld (h := ?_)
             refine pv_ 6 (some 56) HT_ (h := ?_)
             refine pv_ 7 (some 57) HT_ (h := ?_)
             refine pv_ 8 (some 58) HT_ (h := ?_)
             refine pu_ 9 (some 59) HT_ (h := ?_)
             refine pu_ 10 (some 60) HT_ (h := ?_)
             refine pu_ 11 (some 61) HT_ (h := ?_)
             refine pu_ 12 (some 62) HT_ (h := ?_)
             refine pu_ 13 (some 63) HT_ (h := ?_)
             refine pv_ 14 (some 64) HT_ (h := ?_)
             refine pv_ 15 (some 65) HT_ (h := ?_)
             refine pu_ 16 (some 66) HT_ (h := ?_)
             refine pu_ 17 (some 67) HT_ (h := ?_)
             refine pu_ 18 (some 68) HT_ (h := ?_)
             refine pu_ 19 (some 69) HT_ (h := ?_)
             refine pu_ 20 (some 70) HT_ (h := ?_)
             refine pu_ 21 (some 71) HT_ (h := ?_)
             refine pu_ 22 (some 72) HT_ (h := ?_)
             refine pu_ 23 (some 73) HT_ (h := ?_)
             refine pu_ 24 (some 74) HT_ (h := ?_)
             refine pu_ 25 (some 75) HT_ (h := ?_)
             refine pu_ 26 (some 76) HT_ (h := ?_)
             refine pu_ 27 (some 77) HT_ (h := ?_)
             refine pu_ 28 (some 78) HT_ (h := ?_)
             refine pu_ 29 (some 79) HT_ (h := ?_)
             refine pv_ 30 (some 80) HT_ (h := ?_)
             refine pv_ 31 (some 81) HT_ (h := ?_)
             refine pu_ 32 (some 82) HT_ (h := ?_)
             refine pu_ 33 (some 83) HT_ (h := ?_)
             refine pu_ 34 (some 84) HT_ (h := ?_)
             refine pu_ 35 (some 85) HT_ (h := ?_)
             refine pu_ 36 (some 86) HT_ (h := ?_)
             refine pu_ 37 (some 87) HT_ (h := ?_)
             refine pu_ 38 (some 88) HT_ (h := ?_)
             refine pu_ 39 (some 89) HT_ (h := ?_)
             refine pv_ 40 (some 90) HT_ (h := ?_)
             refine done_ (done_of HT_.out (by kernel_rfl)) ?_
             try go_wp2
             go_ret
             exact ⟨by first | rfl | (simp [errW_none, errW_some] <;> rfl) | (simp [*, errW_none, errW_some] <;> rfl), by repeat (first | (with_reducible first | exact HB.out | apply below_alloc | apply pw_below_drewN | apply below_drew1 | refine below_set ?_ GE241.out | refine below_set ?_ GE243.out) | exact HB.out)⟩
            ·rw [if_neg c31] at H
             have c31b0 : decide (((rd_T43 l0_5 x4_3).f1) < 1) = false := decide_eq_false c31
             clear c31
             by_cases c38 : ((rd_T43 l0_5 x4_3).f1) ≥ a0_0
             ·rw [if_pos c38] at H
              have c38b0 : decide (a0_0 ≤ ((rd_T43 l0_5 x4_3).f1)) = true := decide_eq_true c38
              clear c38
              obtain rfl := Option.some.inj H
              obtain ⟨hcz39_0, hcz39_1, hcz39_2, hcz39_3, hcz39_4, hcz39_5, hfz39_0, hfz39_1, hfz39_2, hfz39_3, hfz39_4, hfz39_5⟩ := blk6 BK241
              have p242 : 0 ≤ (x4_3 : Int) := of_decide_eq_true (by first | (with_reducible assumption) | assumption)
              have q242 : x4_3 < (l0_5.length : Int) := of_decide_eq_true (by first | (with_reducible assumption) | assumption)
              obtain ⟨ad242, e242, hx242_0, hx242_1⟩ := at_T43 HR0_5.out x4_3 p242 q242
              cases e242
              replace hx242_0 := (HB.out.cell (World.block_lt_of_cell? w _ hx242_0)).trans hx242_0
              replace hx242_1 := (HB.out.cell (World.block_lt_of_cell? w _ hx242_1)).trans hx242_1
              replace p242 := eq_true p242
              replace q242 := eq_true q242
              try go_wp2_with (first | ((with_reducible refine gate_dst (N := 5) rfl ?_); (try (refine gate_guard (by rfl) ?_; dsimp only)); refine box_event ?hg (N := 5) ?hd (cs := #[.int .i64 0, .int .i64 0]) (t := 43) ?hr ?_; (case hd => rfl); (case hg => rfl); (case hr => first | (go_simp; done) | (go_simp; rfl)); intro gb243 hg w40 hbox hb; have n0_ := Aside0.mk (blk_below (bk_ BK241) hb); have n1_ := Aside0.mk (below_step bs_ hb); have n2_ := Aside0.mk (hbox); have n3_ := Aside0.mk ((by rw [hg]; exact (below_size bs_) : w.heap.size ≤ gb243)); have n4_ := Aside0.mk ((by rw [hg]; exact (below_size bs_) : w.heap.size ≤ gb243)); have n5_ := Aside0.mk ((by rw [hg]; exact Nat.ne_of_lt (blk_lt (bk_ BK241)) : gb241 ≠ gb243)); have n6_ := Aside0.mk ((by rw [hg]; exact Nat.ne_of_gt (blk_lt (bk_ BK241)) : gb243 ≠ gb241)); clear BK241 HB; have BK241 := n0_; have HB := n1_; have BK243 := n2_; have GW243 := n3_; have GE243 := n4_; have NB241_243 := n5_; have NB243_241 := n6_; clear n0_ n1_ n2_ n3_ n4_ n5_ n6_; clear hb hbox hg; have hnb41 := NB243_241.out; have hnc41 := NB241_243.out; obtain ⟨hcz42_0, hcz42_1, hfz42_0, hfz42_1⟩ := blk2 BK243))
              have n0_ : Aside0 (((w40.setCell ⟨gb243, 0, none⟩ (.int .i64 ((rd_T43 l0_5 x4_3).f0))).setCell ⟨gb243, 1, none⟩ (.int .i64 ((rd_T43 l0_5 x4_3).f1))).heap[gb241]? = some (.cells #[.int .i64 a0_0, .int .i64 a0_1, .int .i64 a0_2, .int .i64 a0_3, .int .i64 a0_4, .slice (some ad242) l0_5.length c0_5] 25 (0, 0))) := ⟨bf_ BK241⟩
              have n1_ : Aside0 (((w40.setCell ⟨gb243, 0, none⟩ (.int .i64 ((rd_T43 l0_5 x4_3).f0))).setCell ⟨gb243, 1, none⟩ (.int .i64 ((rd_T43 l0_5 x4_3).f1))).heap[gb243]? = some (.cells #[.int .i64 ((rd_T43 l0_5 x4_3).f0), .int .i64 ((rd_T43 l0_5 x4_3).f1)] 43 (0, 0))) := ⟨bp_ BK243⟩
              have n2_ : Aside0 (Below w.heap.size w ((w40.setCell ⟨gb243, 0, none⟩ (.int .i64 ((rd_T43 l0_5 x4_3).f0))).setCell ⟨gb243, 1, none⟩ (.int .i64 ((rd_T43 l0_5 x4_3).f1)))) := ⟨bs_⟩
              (try clear BK241)
              (try clear BK243)
              (try clear HB)
              generalize ((w40.setCell ⟨gb243, 0, none⟩ (.int .i64 ((rd_T43 l0_5 x4_3).f0))).setCell ⟨gb243, 1, none⟩ (.int .i64 ((rd_T43 l0_5 x4_3).f1))) = w43 at n0_ n1_ n2_ ⊢
              have BK241 := n0_
              have BK243 := n1_
              have HB := n2_
              clear n0_ n1_ n2_
              have n0_ := Aside0.mk (blk_drew BK241.out)
              have n1_ := Aside0.mk (blk_drew BK243.out)
              have n2_ := Aside0.mk (below_drew1 HB.out)
              clear BK241
              clear BK243
              clear HB
              have BK241 := n0_
              have BK243 := n1_
              have HB := n2_
              clear n0_ n1_ n2_
              refine start_ (n := 41) (S := fun w' => w'.cell? ⟨gb243, 0, none⟩ = some (.int .i64 ((rd_T43 l0_5 x4_3).f0)) ∧ w'.cell? ⟨gb243, 1, none⟩ = some (.int .i64 ((rd_T43 l0_5 x4_3).f1)) ∧ w'.cell? ⟨gb241, 0, none⟩ = some (.int .i64 a0_0) ∧ w'.cell? ⟨gb241, 1, none⟩ = some (.int .i64 a0_1) ∧ w'.cell? ⟨gb241, 2, none⟩ = some (.int .i64 a0_2) ∧ w'.cell? ⟨gb241, 3, none⟩ = some (.int .i64 a0_3) ∧ w'.cell? ⟨gb241, 4, none⟩ = some (.int .i64 a0_4) ∧ w'.cell? ⟨gb241, 5, none⟩ = some (.slice (some ad242) l0_5.length c0_5)) (ds := []) #[false, false, false, false, false, false, false, false, false, false, false, false, false, false, false, false, false, false, false, false, false, false, false, false, false, false, false, false, false, false, false, false, false, false, false, false, false, false, false, false, false] (by kernel_rfl) rfl rfl ⟨(blk_cell BK243.out 0).trans rfl, (blk_cell BK243.out 1).trans rfl, (blk_cell BK241.out 0).trans rfl, (blk_cell BK241.out 1).trans rfl, (blk_cell BK241.out 2).trans rfl, (blk_cell BK241.out 3).trans rfl, (blk_cell BK241.out 4).trans rfl, (blk_cell BK241.out 5).trans rfl⟩ (fun hHeld => ?_); refine with_tabW drydockref17_May.tab12 drydockref17_May.bits12 (fun HT_ HW_ => ?_)
              generalize w43.drew = w44 at BK241 BK243 HB hHeld ⊢
              refine pv_ 0 (some 50) HT_ (h := ?_)
              refine tk_ 1 (some 51) HT_ HW_ hHeld (h := ?_)
              refine pv_ 2 (some 52) HT_ (h := ?_)
              refine pv_ 3 (some 53) HT_ (h := ?_)
              refine pv_ 4 (some 54) HT_ (h := ?_)
              refine tk_ 5 (some 55) HT_ HW_ hHeld (h := ?_)
              refine pv_ 6 (some 56) HT_ (h := ?_)
              refine pv_ 7 (some 57) HT_ (h := ?_)
              refine pv_ 8 (some 58) HT_ (h := ?_)
              refine pv_ 9 (some 59) HT_ (h := ?_)
              refine pv_ 11 (some 61) HT_ (h := ?_)
              refine tk_ 10 (some 60) HT_ HW_ hHeld (h := ?_)
              refine tk_ 12 (some 62) HT_ HW_ hHeld (h := ?_)
              refine pv_ 13 (some 63) HT_ (h := ?_)
              refine pv_ 14 (some 64) HT_ (h := ?_)
              refine pv_ 15 (some 65) HT_ (h := ?_)
              refine pu_ 16 (some 66) HT_ (h := ?_)
              refine pu_ 17 (some 67) HT_ (h := ?_)
              refine pu_ 18 (some 68) HT_ (h := ?_)
              refine pu_ 19 (some 69) HT_ (h := ?_)
              refine pu_ 20 (some 70) HT_ (h := ?_)
              refine pu_ 21 (some 71) HT_ (h := ?_)
              refine pu_ 22 (some 72) HT_ (h := ?_)
              refine pu_ 23 (some 73) HT_ (h := ?_)
              refine pu_ 24 (some 74) HT_ (h := ?_)
              refine pu_ 25 (some 75) HT_ (h := ?_)
              refine pu_ 26 (some 76) HT_ (h := ?_)
              refine pu_ 27 (some 77) HT_ (h := ?_)
              refine pu_ 28 (some 78) HT_ (h := ?_)
              refine pu_ 29 (some 79) HT_ (h := ?_)
              refine pv_ 30 (some 80) HT_ (h := ?_)
              refine pv_ 31 (some 81) HT_ (h := ?_)
              refine pu_ 32 (some 82) HT_ (h := ?_)
              refine pu_ 33 (some 83) HT_ (h := ?_)
              refine pu_ 34 (some 84) HT_ (h := ?_)
              refine pu_ 35 (some 85) HT_ (h := ?_)
              refine pu_ 36 (some 86) HT_ (h := ?_)
              refine pu_ 37 (some 87) HT_ (h := ?_)
              refine pu_ 38 (some 88) HT_ (h := ?_)
              refine pu_ 39 (some 89) HT_ (h := ?_)
              refine pv_ 40 (some 90) HT_ (h := ?_)
              refine done_ (done_of HT_.out (by kernel_rfl)) ?_
              try go_wp2
              go_ret
              exact ⟨by first | rfl | (simp [errW_none, errW_some] <;> rfl) | (simp [*, errW_none, errW_some] <;> rfl), by repeat (first | (with_reducible first | exact HB.out | apply below_alloc | apply pw_below_drewN | apply below_drew1 | refine below_set ?_ GE241.out | refine below_set ?_ GE243.out) | exact HB.out)⟩
             ·rw [if_neg c38] at H
              have c38b0 : decide (a0_0 ≤ ((rd_T43 l0_5 x4_3).f1)) = false := decide_eq_false c38
              clear c38
              by_cases c45 : x4_3 > 0
              ·rw [if_pos c45] at H
               have c45b0 : decide (0 < x4_3) = true := decide_eq_true c45
               clear c45
               obtain ⟨ji46, hji46⟩ : ∃ j_ : Int, (wrap64 (x4_3 - 1)) = j_ := ⟨_, rfl⟩
               replace H : (if 0 ≤ (ji46) then (if (ji46) < (l0_5.length : Int) then (if ((rd_T43 l0_5 x4_3).f1) < ((rd_T43 l0_5 (ji46)).f1) then (some false) else (if x4_3 ≤ (l0_5.length : Int) then ((drydockref17_has.f k3 0 0 0 0 0 (l0_5.take (x4_3 : Int).toNat) ((rd_T43 l0_5 x4_3).f0)).bind fun t249 => (if t249 = true then (some false) else (drydockref17_May.l1 k3 (wrap64 (x4_3 + 1)) a0_0 a0_1 a0_2 a0_3 a0_4 l0_5))) else (none))) else (none)) else (none)) = some r := by first | (rw [hji46] at H; exact H) | (simp only [hji46] at H ⊢; exact H)
               have hji46w : (IntKind.i64.wrap (x4_3 - 1)) = ji46 := (i64_w _).trans hji46
               by_cases c47 : 0 ≤ (ji46)
               ·rw [if_pos c47] at H
                have c47b0 : decide (0 ≤ (ji46)) = true := decide_eq_true c47
                clear c47
                by_cases c48 : (ji46) < (l0_5.length : Int)
                ·rw [if_pos c48] at H
                 have c48b0 : decide ((ji46) < (l0_5.length : Int)) = true := decide_eq_true c48
                 clear c48
                 by_cases c49 : ((rd_T43 l0_5 x4_3).f1) < ((rd_T43 l0_5 (ji46)).f1)
                 ·rw [if_pos c49] at H
                  have c49b0 : decide (((rd_T43 l0_5 x4_3).f1) < ((rd_T43 l0_5 (ji46)).f1)) = true := decide_eq_true c49
                  clear c49
                  obtain rfl := Option.some.inj H
                  obtain ⟨hcz50_0, hcz50_1, hcz50_2, hcz50_3, hcz50_4, hcz50_5, hfz50_0, hfz50_1, hfz50_2, hfz50_3, hfz50_4, hfz50_5⟩ := blk6 BK241
                  have p242 : 0 ≤ (x4_3 : Int) := of_decide_eq_true (by first | (with_reducible assumption) | assumption)
                  have q242 : x4_3 < (l0_5.length : Int) := of_decide_eq_true (by first | (with_reducible assumption) | assumption)
                  obtain ⟨ad242, e242, hx242_0, hx242_1⟩ := at_T43 HR0_5.out x4_3 p242 q242
                  cases e242
                  replace hx242_0 := (HB.out.cell (World.block_lt_of_cell? w _ hx242_0)).trans hx242_0
                  replace hx242_1 := (HB.out.cell (World.block_lt_of_cell? w _ hx242_1)).trans hx242_1
                  replace p242 := eq_true p242
                  replace q242 := eq_true q242
                  try go_wp2_with (first | ((with_reducible refine gate_dst (N := 5) rfl ?_); (try (refine gate_guard (by rfl) ?_; dsimp only)); refine box_event ?hg (N := 5) ?hd (cs := #[.int .i64 0, .int .i64 0]) (t := 43) ?hr ?_; (case hd => rfl); (case hg => rfl); (case hr => first | (go_simp; done) | (go_simp; rfl)); intro gb243 hg w51 hbox hb; have n0_ := Aside0.mk (blk_below (bk_ BK241) hb); have n1_ := Aside0.mk (below_step bs_ hb); have n2_ := Aside0.mk (hbox); have n3_ := Aside0.mk ((by rw [hg]; exact (below_size bs_) : w.heap.size ≤ gb243)); have n4_ := Aside0.mk ((by rw [hg]; exact (below_size bs_) : w.heap.size ≤ gb243)); have n5_ := Aside0.mk ((by rw [hg]; exact Nat.ne_of_lt (blk_lt (bk_ BK241)) : gb241 ≠ gb243)); have n6_ := Aside0.mk ((by rw [hg]; exact Nat.ne_of_gt (blk_lt (bk_ BK241)) : gb243 ≠ gb241)); clear BK241 HB; have BK241 := n0_; have HB := n1_; have BK243 := n2_; have GW243 := n3_; have GE243 := n4_; have NB241_243 := n5_; have NB243_241 := n6_; clear n0_ n1_ n2_ n3_ n4_ n5_ n6_; clear hb hbox hg; have hnb52 := NB243_241.out; have hnc52 := NB241_243.out; obtain ⟨hcz53_0, hcz53_1, hfz53_0, hfz53_1⟩ := blk2 BK243))
                  have n0_ : Aside0 (((w51.setCell ⟨gb243, 0, none⟩ (.int .i64 ((rd_T43 l0_5 x4_3).f0))).setCell ⟨gb243, 1, none⟩ (.int .i64 ((rd_T43 l0_5 x4_3).f1))).heap[gb241]? = some (.cells #[.int .i64 a0_0, .int .i64 a0_1, .int .i64 a0_2, .int .i64 a0_3, .int .i64 a0_4, .slice (some ad242) l0_5.length c0_5] 25 (0, 0))) := ⟨bf_ BK241⟩
                  have n1_ : Aside0 (((w51.setCell ⟨gb243, 0, none⟩ (.int .i64 ((rd_T43 l0_5 x4_3).f0))).setCell ⟨gb243, 1, none⟩ (.int .i64 ((rd_T43 l0_5 x4_3).f1))).heap[gb243]? = some (.cells #[.int .i64 ((rd_T43 l0_5 x4_3).f0), .int .i64 ((rd_T43 l0_5 x4_3).f1)] 43 (0, 0))) := ⟨bp_ BK243⟩
                  have n2_ : Aside0 (Below w.heap.size w ((w51.setCell ⟨gb243, 0, none⟩ (.int .i64 ((rd_T43 l0_5 x4_3).f0))).setCell ⟨gb243, 1, none⟩ (.int .i64 ((rd_T43 l0_5 x4_3).f1)))) := ⟨bs_⟩
                  (try clear BK241)
                  (try clear BK243)
                  (try clear HB)
                  generalize ((w51.setCell ⟨gb243, 0, none⟩ (.int .i64 ((rd_T43 l0_5 x4_3).f0))).setCell ⟨gb243, 1, none⟩ (.int .i64 ((rd_T43 l0_5 x4_3).f1))) = w54 at n0_ n1_ n2_ ⊢
                  have BK241 := n0_
                  have BK243 := n1_
                  have HB := n2_
                  clear n0_ n1_ n2_
                  have n0_ := Aside0.mk (blk_drew BK241.out)
                  have n1_ := Aside0.mk (blk_drew BK243.out)
                  have n2_ := Aside0.mk (below_drew1 HB.out)
                  clear BK241
                  clear BK243
                  clear HB
                  have BK241 := n0_
                  have BK243 := n1_
                  have HB := n2_
                  clear n0_ n1_ n2_
                  have p244 : 0 ≤ ((ji46) : Int) := of_decide_eq_true (by first | (with_reducible assumption) | assumption)
                  have q244 : (ji46) < (l0_5.length : Int) := of_decide_eq_true (by first | (with_reducible assumption) | assumption)
                  obtain ⟨ad244, e244, hx244_0, hx244_1⟩ := at_T43 HR0_5.out (ji46) p244 q244
                  have hw244_1 := hx244_1
                  have hw244_0 := hx244_0
                  obtain rfl : ad242 = ad244 := (by injection e244)
                  replace hx244_0 := (HB.out.cell (World.block_lt_of_cell? w _ hx244_0)).trans hx244_0
                  replace hx244_1 := (HB.out.cell (World.block_lt_of_cell? w _ hx244_1)).trans hx244_1
                  replace p244 := eq_true p244
                  replace q244 := eq_true q244
                  refine start_ (n := 41) (S := fun w' => w'.cell? ⟨gb243, 0, none⟩ = some (.int .i64 ((rd_T43 l0_5 x4_3).f0)) ∧ w'.cell? ⟨gb243, 1, none⟩ = some (.int .i64 ((rd_T43 l0_5 x4_3).f1)) ∧ w'.cell? ⟨gb241, 0, none⟩ = some (.int .i64 a0_0) ∧ w'.cell? ⟨gb241, 1, none⟩ = some (.int .i64 a0_1) ∧ w'.cell? ⟨gb241, 2, none⟩ = some (.int .i64 a0_2) ∧ w'.cell? ⟨gb241, 3, none⟩ = some (.int .i64 a0_3) ∧ w'.cell? ⟨gb241, 4, none⟩ = some (.int .i64 a0_4) ∧ w'.cell? ⟨gb241, 5, none⟩ = some (.slice (some ad242) l0_5.length c0_5) ∧ w'.cell? (ad242.add (((ji46)).toNat * 2)) = some (.int .i64 ((rd_T43 l0_5 (ji46)).f0)) ∧ w'.cell? ⟨(ad242.add (((ji46)).toNat * 2)).block, (ad242.add (((ji46)).toNat * 2)).off + 1, none⟩ = some (.int .i64 ((rd_T43 l0_5 (ji46)).f1))) (ds := []) #[false, false, false, false, false, false, false, false, false, false, false, false, false, false, false, false, false, false, false, false, false, false, false, false, false, false, false, false, false, false, false, false, false, false, false, false, false, false, false, false, false] (by kernel_rfl) rfl rfl ⟨(blk_cell BK243.out 0).trans rfl, (blk_cell BK243.out 1).trans rfl, (blk_cell BK241.out 0).trans rfl, (blk_cell BK241.out 1).trans rfl, (blk_cell BK241.out 2).trans rfl, (blk_cell BK241.out 3).trans rfl, (blk_cell BK241.out 4).trans rfl, (blk_cell BK241.out 5).trans rfl, ((HB.out.cell (World.block_lt_of_cell? w _ hw244_0)).trans hw244_0), ((HB.out.cell (World.block_lt_of_cell? w _ hw244_1)).trans hw244_1)⟩ (fun hHeld => ?_); refine with_tabW drydockref17_May.tab12 drydockref17_May.bits12 (fun HT_ HW_ => ?_)
                  generalize w54.drew = w55 at BK241 BK243 HB hx244_0 hx244_1 hHeld ⊢
                  refine pv_ 0 (some 50) HT_ (h := ?_)
                  refine tk_ 1 (some 51) HT_ HW_ hHeld (h := ?_)
                  refine pv_ 2 (some 52) HT_ (h := ?_)
                  refine pv_ 3 (some 53) HT_ (h := ?_)
                  refine pv_ 4 (some 54) HT_ (h := ?_)
                  refine tk_ 5 (some 55) HT_ HW_ hHeld (h := ?_)
                  refine pv_ 6 (some 56) HT_ (h := ?_)
                  refine pv_ 7 (some 57) HT_ (h := ?_)
                  refine pv_ 8 (some 58) HT_ (h := ?_)
                  refine pv_ 9 (some 59) HT_ (h := ?_)
                  refine pv_ 11 (some 61) HT_ (h := ?_)
                  refine tk_ 10 (some 60) HT_ HW_ hHeld (h := ?_)
                  refine tk_ 12 (some 62) HT_ HW_ hHeld (h := ?_)
                  refine pv_ 13 (some 63) HT_ (h := ?_)
                  refine pv_ 14 (some 64) HT_ (h := ?_)
                  refine pv_ 15 (some 65) HT_ (h := ?_)
                  refine pv_ 16 (some 66) HT_ (h := ?_)
                  refine pv_ 17 (some 67) HT_ (h := ?_)
                  refine pv_ 18 (some 68) HT_ (h := ?_)
                  refine pv_ 19 (some 69) HT_ (h := ?_)
                  refine pv_ 21 (some 71) HT_ (h := ?_)
                  refine pv_ 23 (some 73) HT_ (h := ?_)
                  refine pv_ 24 (some 74) HT_ (h := ?_)
                  refine tk_ 20 (some 70) HT_ HW_ hHeld (h := ?_)
                  refine tk_ 22 (some 72) HT_ HW_ hHeld (h := ?_)
                  refine pv_ 25 (some 75) HT_ (h := ?_)
                  refine pv_ 26 (some 76) HT_ (h := ?_)
                  refine tk_ 27 (some 77) HT_ HW_ hHeld (h := ?_)
                  refine pv_ 28 (some 78) HT_ (h := ?_)
                  refine pv_ 29 (some 79) HT_ (h := ?_)
                  refine pv_ 30 (some 80) HT_ (h := ?_)
                  refine pv_ 31 (some 81) HT_ (h := ?_)
                  refine pu_ 32 (some 82) HT_ (h := ?_)
                  refine pu_ 33 (some 83) HT_ (h := ?_)
                  refine pu_ 34 (some 84) HT_ (h := ?_)
                  refine pu_ 35 (some 85) HT_ (h := ?_)
                  refine pu_ 36 (some 86) HT_ (h := ?_)
                  refine pu_ 37 (some 87) HT_ (h := ?_)
                  refine pu_ 38 (some 88) HT_ (h := ?_)
                  refine pu_ 39 (some 89) HT_ (h := ?_)
                  refine pv_ 40 (some 90) HT_ (h := ?_)
                  refine done_ (done_of HT_.out (by kernel_rfl)) ?_
                  try go_wp2
                  go_ret
                  exact ⟨by first | rfl | (simp [errW_none, errW_some] <;> rfl) | (simp only [← hji46]; first | rfl | (simp [errW_none, errW_some] <;> rfl)) | (simp [*, errW_none, errW_some] <;> rfl), by repeat (first | (with_reducible first | exact HB.out | apply below_alloc | apply pw_below_drewN | apply below_drew1 | refine below_set ?_ GE241.out | refine below_set ?_ GE243.out) | exact HB.out)⟩
                 ·rw [if_neg c49] at H
                  have c49b0 : decide (((rd_T43 l0_5 x4_3).f1) < ((rd_T43 l0_5 (ji46)).f1)) = false := decide_eq_false c49
                  clear c49
                  have c56b0 := eq_true (of_decide_eq_true (by first | (with_reducible assumption) | assumption) : 0 ≤ x4_3)
                  by_cases c57 : x4_3 ≤ (l0_5.length : Int)
                  ·rw [if_pos c57] at H
                   have c57b0 := eq_true c57
                   have c57b1 : decide (x4_3 ≤ (l0_5.length : Int)) = true := decide_eq_true c57
                   clear c57
                   obtain ⟨y245, hy245⟩ : ∃ y_ : List (S43), y_ = (l0_5.take (x4_3 : Int).toNat) := ⟨_, rfl⟩
                   replace H : ((drydockref17_has.f k3 0 0 0 0 0 y245 ((rd_T43 l0_5 x4_3).f0)).bind fun t249 => (if t249 = true then (some false) else (drydockref17_May.l1 k3 (wrap64 (x4_3 + 1)) a0_0 a0_1 a0_2 a0_3 a0_4 l0_5))) = some r := by first | (rw [hy245]; with_reducible exact H) | (have H2_ := (Option.bind_some _ _).symm.trans H; rw [hy245]; with_reducible exact H2_) | (have H2_ := (Option.bind_some _ _).symm.trans H; with_reducible exact H2_) | with_reducible exact H | (rw [hy245]; exact H) | exact H
                   have Ny245 := Aside0.mk hy245
                   clear hy245
                   replace H := Option.bind_eq_some_iff.mp H
                   obtain ⟨t249, A580, H⟩ := H
                   replace H : (if t249 = true then (some false) else (drydockref17_May.l1 k3 (wrap64 (x4_3 + 1)) a0_0 a0_1 a0_2 a0_3 a0_4 l0_5)) = some r := H
                   have A58 := Aside0.mk A580
                   clear A580
                   by_cases c59 : t249 = true
                   ·subst c59
                    have H1 : (some false) = some r := by rw [if_pos rfl] at H; exact H
                    clear H
                    have H := H1
                    clear H1
                    obtain rfl := Option.some.inj H
                    obtain ⟨hcz60_0, hcz60_1, hcz60_2, hcz60_3, hcz60_4, hcz60_5, hfz60_0, hfz60_1, hfz60_2, hfz60_3, hfz60_4, hfz60_5⟩ := blk6 BK241
                    have p242 : 0 ≤ (x4_3 : Int) := of_decide_eq_true (by first | (with_reducible assumption) | assumption)
                    have q242 : x4_3 < (l0_5.length : Int) := of_decide_eq_true (by first | (with_reducible assumption) | assumption)
                    obtain ⟨ad242, e242, hx242_0, hx242_1⟩ := at_T43 HR0_5.out x4_3 p242 q242
                    cases e242
                    replace hx242_0 := (HB.out.cell (World.block_lt_of_cell? w _ hx242_0)).trans hx242_0
                    replace hx242_1 := (HB.out.cell (World.block_lt_of_cell? w _ hx242_1)).trans hx242_1
                    replace p242 := eq_true p242
                    replace q242 := eq_true q242
                    try go_wp2_with (first | ((with_reducible refine gate_dst (N := 5) rfl ?_); (try (refine gate_guard (by rfl) ?_; dsimp only)); refine box_event ?hg (N := 5) ?hd (cs := #[.int .i64 0, .int .i64 0]) (t := 43) ?hr ?_; (case hd => rfl); (case hg => rfl); (case hr => first | (go_simp; done) | (go_simp; rfl)); intro gb243 hg w61 hbox hb; have n0_ := Aside0.mk (blk_below (bk_ BK241) hb); have n1_ := Aside0.mk (below_step bs_ hb); have n2_ := Aside0.mk (hbox); have n3_ := Aside0.mk ((by rw [hg]; exact (below_size bs_) : w.heap.size ≤ gb243)); have n4_ := Aside0.mk ((by rw [hg]; exact (below_size bs_) : w.heap.size ≤ gb243)); have n5_ := Aside0.mk ((by rw [hg]; exact Nat.ne_of_lt (blk_lt (bk_ BK241)) : gb241 ≠ gb243)); have n6_ := Aside0.mk ((by rw [hg]; exact Nat.ne_of_gt (blk_lt (bk_ BK241)) : gb243 ≠ gb241)); clear BK241 HB; have BK241 := n0_; have HB := n1_; have BK243 := n2_; have GW243 := n3_; have GE243 := n4_; have NB241_243 := n5_; have NB243_241 := n6_; clear n0_ n1_ n2_ n3_ n4_ n5_ n6_; clear hb hbox hg; have hnb62 := NB243_241.out; have hnc62 := NB241_243.out; obtain ⟨hcz63_0, hcz63_1, hfz63_0, hfz63_1⟩ := blk2 BK243))
                    have n0_ : Aside0 (((w61.setCell ⟨gb243, 0, none⟩ (.int .i64 ((rd_T43 l0_5 x4_3).f0))).setCell ⟨gb243, 1, none⟩ (.int .i64 ((rd_T43 l0_5 x4_3).f1))).heap[gb241]? = some (.cells #[.int .i64 a0_0, .int .i64 a0_1, .int .i64 a0_2, .int .i64 a0_3, .int .i64 a0_4, .slice (some ad242) l0_5.length c0_5] 25 (0, 0))) := ⟨bf_ BK241⟩
                    have n1_ : Aside0 (((w61.setCell ⟨gb243, 0, none⟩ (.int .i64 ((rd_T43 l0_5 x4_3).f0))).setCell ⟨gb243, 1, none⟩ (.int .i64 ((rd_T43 l0_5 x4_3).f1))).heap[gb243]? = some (.cells #[.int .i64 ((rd_T43 l0_5 x4_3).f0), .int .i64 ((rd_T43 l0_5 x4_3).f1)] 43 (0, 0))) := ⟨bp_ BK243⟩
                    have n2_ : Aside0 (Below w.heap.size w ((w61.setCell ⟨gb243, 0, none⟩ (.int .i64 ((rd_T43 l0_5 x4_3).f0))).setCell ⟨gb243, 1, none⟩ (.int .i64 ((rd_T43 l0_5 x4_3).f1)))) := ⟨bs_⟩
                    (try clear BK241)
                    (try clear BK243)
                    (try clear HB)
                    generalize ((w61.setCell ⟨gb243, 0, none⟩ (.int .i64 ((rd_T43 l0_5 x4_3).f0))).setCell ⟨gb243, 1, none⟩ (.int .i64 ((rd_T43 l0_5 x4_3).f1))) = w64 at n0_ n1_ n2_ ⊢
                    have BK241 := n0_
                    have BK243 := n1_
                    have HB := n2_
                    clear n0_ n1_ n2_
                    have n0_ := Aside0.mk (blk_drew BK241.out)
                    have n1_ := Aside0.mk (blk_drew BK243.out)
                    have n2_ := Aside0.mk (below_drew1 HB.out)
                    clear BK241
                    clear BK243
                    clear HB
                    have BK241 := n0_
                    have BK243 := n1_
                    have HB := n2_
                    clear n0_ n1_ n2_
                    have p244 : 0 ≤ ((ji46) : Int) := of_decide_eq_true (by first | (with_reducible assumption) | assumption)
                    have q244 : (ji46) < (l0_5.length : Int) := of_decide_eq_true (by first | (with_reducible assumption) | assumption)
                    obtain ⟨ad244, e244, hx244_0, hx244_1⟩ := at_T43 HR0_5.out (ji46) p244 q244
                    have hw244_1 := hx244_1
                    have hw244_0 := hx244_0
                    obtain rfl : ad242 = ad244 := (by injection e244)
                    replace hx244_0 := (HB.out.cell (World.block_lt_of_cell? w _ hx244_0)).trans hx244_0
                    replace hx244_1 := (HB.out.cell (World.block_lt_of_cell? w _ hx244_1)).trans hx244_1
                    replace p244 := eq_true p244
                    replace q244 := eq_true q244
                    have q66 : (x4_3 : Int) ≤ ((l0_5.length : Int) : Int) := of_decide_eq_true (by first | (with_reducible assumption) | assumption)
                    obtain ⟨i066, hi066, _, hsz66, _⟩ := info_parts info43
                    have hroom66 : l0_5.length ≤ c0_5 := HC0_5.out
                    have hC66 : Kd.C k43 _ (some ad242) l0_5.length l0_5 := HR0_5.out
                    have hcut66 := cut_to (P := Try.prog) 23 43 .i64 Try.underlying23 hi066 (some ad242) l0_5.length c0_5 x4_3 (of_decide_eq_true (by first | (with_reducible assumption) | assumption)) q66 hroom66
                    have hr66 := Kd.C_take (m := (x4_3 : Int).toNat) hC66 (by omega)
                    have hy66 : y245.length = (x4_3 : Int).toNat := (by rw [Ny245.out, List.length_take]; omega)
                    rw [← Ny245.out] at hr66
                    rw [← hy66] at hcut66
                    have HR248 := Aside0.mk hr66
                    have HC248 := Aside0.mk (show y245.length ≤ c0_5 from by omega)
                    clear hr66 hC66 hroom66 hi066 hsz66
                    have KY66 := Aside0.mk hy66
                    clear hy66
                    replace q66 := eq_true q66
                    refine start_ (n := 41) (S := fun w' => w'.cell? ⟨gb243, 0, none⟩ = some (.int .i64 ((rd_T43 l0_5 x4_3).f0)) ∧ w'.cell? ⟨gb243, 1, none⟩ = some (.int .i64 ((rd_T43 l0_5 x4_3).f1)) ∧ w'.cell? ⟨gb241, 0, none⟩ = some (.int .i64 a0_0) ∧ w'.cell? ⟨gb241, 1, none⟩ = some (.int .i64 a0_1) ∧ w'.cell? ⟨gb241, 2, none⟩ = some (.int .i64 a0_2) ∧ w'.cell? ⟨gb241, 3, none⟩ = some (.int .i64 a0_3) ∧ w'.cell? ⟨gb241, 4, none⟩ = some (.int .i64 a0_4) ∧ w'.cell? ⟨gb241, 5, none⟩ = some (.slice (some ad242) l0_5.length c0_5) ∧ w'.cell? (ad242.add (((ji46)).toNat * 2)) = some (.int .i64 ((rd_T43 l0_5 (ji46)).f0)) ∧ w'.cell? ⟨(ad242.add (((ji46)).toNat * 2)).block, (ad242.add (((ji46)).toNat * 2)).off + 1, none⟩ = some (.int .i64 ((rd_T43 l0_5 (ji46)).f1))) (ds := []) #[false, false, false, false, false, false, false, false, false, false, false, false, false, false, false, false, false, false, false, false, false, false, false, false, false, false, false, false, false, false, false, false, false, false, false, false, false, false, false, false, false] (by kernel_rfl) rfl rfl ⟨(blk_cell BK243.out 0).trans rfl, (blk_cell BK243.out 1).trans rfl, (blk_cell BK241.out 0).trans rfl, (blk_cell BK241.out 1).trans rfl, (blk_cell BK241.out 2).trans rfl, (blk_cell BK241.out 3).trans rfl, (blk_cell BK241.out 4).trans rfl, (blk_cell BK241.out 5).trans rfl, ((HB.out.cell (World.block_lt_of_cell? w _ hw244_0)).trans hw244_0), ((HB.out.cell (World.block_lt_of_cell? w _ hw244_1)).trans hw244_1)⟩ (fun hHeld => ?_); refine with_tabW drydockref17_May.tab12 drydockref17_May.bits12 (fun HT_ HW_ => ?_)
                    generalize w64.drew = w65 at BK241 BK243 HB HR248 hx244_0 hx244_1 hHeld ⊢
                    refine pv_ 0 (some 50) HT_ (h := ?_)
                    refine tk_ 1 (some 51) HT_ HW_ hHeld (h := ?_)
                    refine pv_ 2 (some 52) HT_ (h := ?_)
                    refine pv_ 3 (some 53) HT_ (h := ?_)
                    refine pv_ 4 (some 54) HT_ (h := ?_)
                    refine tk_ 5 (some 55) HT_ HW_ hHeld (h := ?_)
                    refine pv_ 6 (some 56) HT_ (h := ?_)
                    refine pv_ 7 (some 57) HT_ (h := ?_)
                    refine pv_ 8 (some 58) HT_ (h := ?_)
                    refine pv_ 9 (some 59) HT_ (h := ?_)
                    refine pv_ 11 (some 61) HT_ (h := ?_)
                    refine tk_ 10 (some 60) HT_ HW_ hHeld (h := ?_)
                    refine tk_ 12 (some 62) HT_ HW_ hHeld (h := ?_)
                    refine pv_ 13 (some 63) HT_ (h := ?_)
                    refine pv_ 14 (some 64) HT_ (h := ?_)
                    refine pv_ 15 (some 65) HT_ (h := ?_)
                    refine pv_ 16 (some 66) HT_ (h := ?_)
                    refine pv_ 17 (some 67) HT_ (h := ?_)
                    refine pv_ 18 (some 68) HT_ (h := ?_)
                    refine pv_ 19 (some 69) HT_ (h := ?_)
                    refine pv_ 21 (some 71) HT_ (h := ?_)
                    refine pv_ 23 (some 73) HT_ (h := ?_)
                    refine pv_ 24 (some 74) HT_ (h := ?_)
                    refine tk_ 20 (some 70) HT_ HW_ hHeld (h := ?_)
                    refine tk_ 22 (some 72) HT_ HW_ hHeld (h := ?_)
                    refine pv_ 25 (some 75) HT_ (h := ?_)
                    refine pv_ 26 (some 76) HT_ (h := ?_)
                    refine tk_ 27 (some 77) HT_ HW_ hHeld (h := ?_)
                    refine pv_ 28 (some 78) HT_ (h := ?_)
                    refine pv_ 29 (some 79) HT_ (h := ?_)
                    refine pv_ 30 (some 80) HT_ (h := ?_)
                    refine pv_ 31 (some 81) HT_ (h := ?_)
                    refine pv_ 32 (some 82) HT_ (h := ?_)
                    refine pv_ 34 (some 84) HT_ (h := ?_)
                    refine pv_ 37 (some 87) HT_ (h := ?_)
                    refine tk_ 33 (some 83) HT_ HW_ hHeld (h := ?_)
                    refine pv_ 35 (some 85) HT_ (h := ?_)
                    refine pv_ 36 (some 86) HT_ (h := ?_)
                    refine tk_ 38 (some 88) HT_ HW_ hHeld (h := ?_)
                    refine one_ (i := 39) (N := some 89) #[true, true, true, true, true, true, true, true, true, true, true, true, true, true, true, true, true, true, true, true, true, true, true, true, true, true, true, true, true, true, true, true, true, true, true, true, true, true, true, true, false] rfl rfl (one_of HT_.out (by kernel_rfl)) (by decide) (fun K hK => ?_)
                    refine goes_ Try.func28 (by kernel_rfl) rfl #[.agg #[.int .i64 0, .int .i64 0, .int .i64 0, .int .i64 0, .int .i64 0, .slice (some ad242) y245.length c0_5], .int .i64 ((rd_T43 l0_5 x4_3).f0)] (by rfl) rfl rfl (by (try simp only [List.map_toArray, List.map_cons, List.map_nil]); first | done | rfl | (simp only [List.length_drop, List.length_take]; rfl)) ?_
                    with_reducible refine (drydockref17_has.calls k3 0 0 0 0 0 _ _ y245 ((rd_T43 l0_5 x4_3).f0) true _ ?side1 ?side2 A58.out).mono ?_
                    (case side1 => repeat (first | exact (Kd.C_below HR248.out HB.out) | (with_reducible refine Kd.C_alloc ?_ _) | (with_reducible refine Kd.C_drewN ?_ _) | (with_reducible refine Kd.C_drew ?_)))
                    (case side2 => exact HC248.out)
                    rintro e w67 ⟨rfl, hb⟩
                    refine ⟨_, rfl, ?_⟩
                    have n0_ := Aside0.mk (blk_below (bk_ BK241) hb)
                    have n1_ := Aside0.mk (blk_below (bk_ BK243) hb)
                    have n2_ := Aside0.mk (below_step bs_ hb)
                    clear BK241
                    clear BK243
                    clear HB
                    have BK241 := n0_
                    have BK243 := n1_
                    have HB := n2_
                    clear n0_ n1_ n2_
                    (try clear hb)
                    (try clear hb2)
                    (try clear hk)
                    (try clear hi)
                    refine hK.out _ _ ⟨(blk_cell BK243.out 0).trans rfl, (blk_cell BK243.out 1).trans rfl, (blk_cell BK241.out 0).trans rfl, (blk_cell BK241.out 1).trans rfl, (blk_cell BK241.out 2).trans rfl, (blk_cell BK241.out 3).trans rfl, (blk_cell BK241.out 4).trans rfl, (blk_cell BK241.out 5).trans rfl, ((HB.out.cell (World.block_lt_of_cell? w _ hw244_0)).trans hw244_0), ((HB.out.cell (World.block_lt_of_cell? w _ hw244_1)).trans hw244_1)⟩ (fun hHeld => ?_)
                    clear hK K
                    refine norm_ (a' := ?_) ?_ ?_
                    rotate_left
                    ·show Act.put _ (some 89) _ = _
                     simp only [Act.put, List.setIfInBounds_toArray, List.set_cons_zero, List.set_cons_succ, i64_w, i32_w]
                     rfl
                    refine pv_ 40 (some 90) HT_ (h := ?_)
                    refine done_ (done_of HT_.out (by kernel_rfl)) ?_
                    try go_wp2
                    go_ret
                    exact ⟨by first | rfl | (simp [errW_none, errW_some] <;> rfl) | (simp only [← hji46]; first | rfl | (simp [errW_none, errW_some] <;> rfl)) | (simp [*, errW_none, errW_some] <;> rfl), by repeat (first | (with_reducible first | exact HB.out | apply below_alloc | apply pw_below_drewN | apply below_drew1 | refine below_set ?_ GE241.out | refine below_set ?_ GE243.out) | exact HB.out)⟩
                   ·replace c59 := Bool.eq_false_iff.mpr c59
                    subst c59
                    have H1 : (drydockref17_May.l1 k3 (wrap64 (x4_3 + 1)) a0_0 a0_1 a0_2 a0_3 a0_4 l0_5) = some r := by rw [if_neg (show ¬ (false = true) by decide)] at H; exact H
                    clear H
                    have H := H1
                    clear H1
                    have H' := Aside0.mk H
                    clear H
                    obtain ⟨hcz68_0, hcz68_1, hcz68_2, hcz68_3, hcz68_4, hcz68_5, hfz68_0, hfz68_1, hfz68_2, hfz68_3, hfz68_4, hfz68_5⟩ := blk6 BK241
                    have p242 : 0 ≤ (x4_3 : Int) := of_decide_eq_true (by first | (with_reducible assumption) | assumption)
                    have q242 : x4_3 < (l0_5.length : Int) := of_decide_eq_true (by first | (with_reducible assumption) | assumption)
                    obtain ⟨ad242, e242, hx242_0, hx242_1⟩ := at_T43 HR0_5.out x4_3 p242 q242
                    cases e242
                    replace hx242_0 := (HB.out.cell (World.block_lt_of_cell? w _ hx242_0)).trans hx242_0
                    replace hx242_1 := (HB.out.cell (World.block_lt_of_cell? w _ hx242_1)).trans hx242_1
                    replace p242 := eq_true p242
                    replace q242 := eq_true q242
                    try go_wp2_with (first | ((with_reducible refine gate_dst (N := 5) rfl ?_); (try (refine gate_guard (by rfl) ?_; dsimp only)); refine box_event ?hg (N := 5) ?hd (cs := #[.int .i64 0, .int .i64 0]) (t := 43) ?hr ?_; (case hd => rfl); (case hg => rfl); (case hr => first | (go_simp; done) | (go_simp; rfl)); intro gb243 hg w69 hbox hb; have n0_ := Aside0.mk (blk_below (bk_ BK241) hb); have n1_ := Aside0.mk (below_step bs_ hb); have n2_ := Aside0.mk (hbox); have n3_ := Aside0.mk ((by rw [hg]; exact (below_size bs_) : w.heap.size ≤ gb243)); have n4_ := Aside0.mk ((by rw [hg]; exact (below_size bs_) : w.heap.size ≤ gb243)); have n5_ := Aside0.mk ((by rw [hg]; exact Nat.ne_of_lt (blk_lt (bk_ BK241)) : gb241 ≠ gb243)); have n6_ := Aside0.mk ((by rw [hg]; exact Nat.ne_of_gt (blk_lt (bk_ BK241)) : gb243 ≠ gb241)); clear BK241 HB; have BK241 := n0_; have HB := n1_; have BK243 := n2_; have GW243 := n3_; have GE243 := n4_; have NB241_243 := n5_; have NB243_241 := n6_; clear n0_ n1_ n2_ n3_ n4_ n5_ n6_; clear hb hbox hg; have hnb70 := NB243_241.out; have hnc70 := NB241_243.out; obtain ⟨hcz71_0, hcz71_1, hfz71_0, hfz71_1⟩ := blk2 BK243))
                    have n0_ : Aside0 (((w69.setCell ⟨gb243, 0, none⟩ (.int .i64 ((rd_T43 l0_5 x4_3).f0))).setCell ⟨gb243, 1, none⟩ (.int .i64 ((rd_T43 l0_5 x4_3).f1))).heap[gb241]? = some (.cells #[.int .i64 a0_0, .int .i64 a0_1, .int .i64 a0_2, .int .i64 a0_3, .int .i64 a0_4, .slice (some ad242) l0_5.length c0_5] 25 (0, 0))) := ⟨bf_ BK241⟩
                    have n1_ : Aside0 (((w69.setCell ⟨gb243, 0, none⟩ (.int .i64 ((rd_T43 l0_5 x4_3).f0))).setCell ⟨gb243, 1, none⟩ (.int .i64 ((rd_T43 l0_5 x4_3).f1))).heap[gb243]? = some (.cells #[.int .i64 ((rd_T43 l0_5 x4_3).f0), .int .i64 ((rd_T43 l0_5 x4_3).f1)] 43 (0, 0))) := ⟨bp_ BK243⟩
                    have n2_ : Aside0 (Below w.heap.size w ((w69.setCell ⟨gb243, 0, none⟩ (.int .i64 ((rd_T43 l0_5 x4_3).f0))).setCell ⟨gb243, 1, none⟩ (.int .i64 ((rd_T43 l0_5 x4_3).f1)))) := ⟨bs_⟩
                    (try clear BK241)
                    (try clear BK243)
                    (try clear HB)
                    generalize ((w69.setCell ⟨gb243, 0, none⟩ (.int .i64 ((rd_T43 l0_5 x4_3).f0))).setCell ⟨gb243, 1, none⟩ (.int .i64 ((rd_T43 l0_5 x4_3).f1))) = w72 at n0_ n1_ n2_ ⊢
                    have BK241 := n0_
                    have BK243 := n1_
                    have HB := n2_
                    clear n0_ n1_ n2_
                    have n0_ := Aside0.mk (blk_drew BK241.out)
                    have n1_ := Aside0.mk (blk_drew BK243.out)
                    have n2_ := Aside0.mk (below_drew1 HB.out)
                    clear BK241
                    clear BK243
                    clear HB
                    have BK241 := n0_
                    have BK243 := n1_
                    have HB := n2_
                    clear n0_ n1_ n2_
                    have p244 : 0 ≤ ((ji46) : Int) := of_decide_eq_true (by first | (with_reducible assumption) | assumption)
                    have q244 : (ji46) < (l0_5.length : Int) := of_decide_eq_true (by first | (with_reducible assumption) | assumption)
                    obtain ⟨ad244, e244, hx244_0, hx244_1⟩ := at_T43 HR0_5.out (ji46) p244 q244
                    have hw244_1 := hx244_1
                    have hw244_0 := hx244_0
                    obtain rfl : ad242 = ad244 := (by injection e244)
                    replace hx244_0 := (HB.out.cell (World.block_lt_of_cell? w _ hx244_0)).trans hx244_0
                    replace hx244_1 := (HB.out.cell (World.block_lt_of_cell? w _ hx244_1)).trans hx244_1
                    replace p244 := eq_true p244
                    replace q244 := eq_true q244
                    have q74 : (x4_3 : Int) ≤ ((l0_5.length : Int) : Int) := of_decide_eq_true (by first | (with_reducible assumption) | assumption)
                    obtain ⟨i074, hi074, _, hsz74, _⟩ := info_parts info43
                    have hroom74 : l0_5.length ≤ c0_5 := HC0_5.out
                    have hC74 : Kd.C k43 _ (some ad242) l0_5.length l0_5 := HR0_5.out
                    have hcut74 := cut_to (P := Try.prog) 23 43 .i64 Try.underlying23 hi074 (some ad242) l0_5.length c0_5 x4_3 (of_decide_eq_true (by first | (with_reducible assumption) | assumption)) q74 hroom74
                    have hr74 := Kd.C_take (m := (x4_3 : Int).toNat) hC74 (by omega)
                    have hy74 : y245.length = (x4_3 : Int).toNat := (by rw [Ny245.out, List.length_take]; omega)
                    rw [← Ny245.out] at hr74
                    rw [← hy74] at hcut74
                    have HR248 := Aside0.mk hr74
                    have HC248 := Aside0.mk (show y245.length ≤ c0_5 from by omega)
                    clear hr74 hC74 hroom74 hi074 hsz74
                    have KY74 := Aside0.mk hy74
                    clear hy74
                    replace q74 := eq_true q74
                    refine start_ (n := 41) (S := fun w' => w'.cell? ⟨gb243, 0, none⟩ = some (.int .i64 ((rd_T43 l0_5 x4_3).f0)) ∧ w'.cell? ⟨gb243, 1, none⟩ = some (.int .i64 ((rd_T43 l0_5 x4_3).f1)) ∧ w'.cell? ⟨gb241, 0, none⟩ = some (.int .i64 a0_0) ∧ w'.cell? ⟨gb241, 1, none⟩ = some (.int .i64 a0_1) ∧ w'.cell? ⟨gb241, 2, none⟩ = some (.int .i64 a0_2) ∧ w'.cell? ⟨gb241, 3, none⟩ = some (.int .i64 a0_3) ∧ w'.cell? ⟨gb241, 4, none⟩ = some (.int .i64 a0_4) ∧ w'.cell? ⟨gb241, 5, none⟩ = some (.slice (some ad242) l0_5.length c0_5) ∧ w'.cell? (ad242.add (((ji46)).toNat * 2)) = some (.int .i64 ((rd_T43 l0_5 (ji46)).f0)) ∧ w'.cell? ⟨(ad242.add (((ji46)).toNat * 2)).block, (ad242.add (((ji46)).toNat * 2)).off + 1, none⟩ = some (.int .i64 ((rd_T43 l0_5 (ji46)).f1))) (ds := []) #[false, false, false, false, false, false, false, false, false, false, false, false, false, false, false, false, false, false, false, false, false, false, false, false, false, false, false, false, false, false, false, false, false, false, false, false, false, false, false, false, false] (by kernel_rfl) rfl rfl ⟨(blk_cell BK243.out 0).trans rfl, (blk_cell BK243.out 1).trans rfl, (blk_cell BK241.out 0).trans rfl, (blk_cell BK241.out 1).trans rfl, (blk_cell BK241.out 2).trans rfl, (blk_cell BK241.out 3).trans rfl, (blk_cell BK241.out 4).trans rfl, (blk_cell BK241.out 5).trans rfl, ((HB.out.cell (World.block_lt_of_cell? w _ hw244_0)).trans hw244_0), ((HB.out.cell (World.block_lt_of_cell? w _ hw244_1)).trans hw244_1)⟩ (fun hHeld => ?_); refine with_tabW drydockref17_May.tab12 drydockref17_May.bits12 (fun HT_ HW_ => ?_)
                    generalize w72.drew = w73 at BK241 BK243 HB HR248 hx244_0 hx244_1 hHeld ⊢
                    refine pv_ 0 (some 50) HT_ (h := ?_)
                    refine tk_ 1 (some 51) HT_ HW_ hHeld (h := ?_)
                    refine pv_ 2 (some 52) HT_ (h := ?_)
                    refine pv_ 3 (some 53) HT_ (h := ?_)
                    refine pv_ 4 (some 54) HT_ (h := ?_)
                    refine tk_ 5 (some 55) HT_ HW_ hHeld (h := ?_)
                    refine pv_ 6 (some 56) HT_ (h := ?_)
                    refine pv_ 7 (some 57) HT_ (h := ?_)
                    refine pv_ 8 (some 58) HT_ (h := ?_)
                    refine pv_ 9 (some 59) HT_ (h := ?_)
                    refine pv_ 11 (some 61) HT_ (h := ?_)
                    refine tk_ 10 (some 60) HT_ HW_ hHeld (h := ?_)
                    refine tk_ 12 (some 62) HT_ HW_ hHeld (h := ?_)
                    refine pv_ 13 (some 63) HT_ (h := ?_)
                    refine pv_ 14 (some 64) HT_ (h := ?_)
                    refine pv_ 15 (some 65) HT_ (h := ?_)
                    refine pv_ 16 (some 66) HT_ (h := ?_)
                    refine pv_ 17 (some 67) HT_ (h := ?_)
                    refine pv_ 18 (some 68) HT_ (h := ?_)
                    refine pv_ 19 (some 69) HT_ (h := ?_)
                    refine pv_ 21 (some 71) HT_ (h := ?_)
                    refine pv_ 23 (some 73) HT_ (h := ?_)
                    refine pv_ 24 (some 74) HT_ (h := ?_)
                    refine tk_ 20 (some 70) HT_ HW_ hHeld (h := ?_)
                    refine tk_ 22 (some 72) HT_ HW_ hHeld (h := ?_)
                    refine pv_ 25 (some 75) HT_ (h := ?_)
                    refine pv_ 26 (some 76) HT_ (h := ?_)
                    refine tk_ 27 (some 77) HT_ HW_ hHeld (h := ?_)
                    refine pv_ 28 (some 78) HT_ (h := ?_)
                    refine pv_ 29 (some 79) HT_ (h := ?_)
                    refine pv_ 30 (some 80) HT_ (h := ?_)
                    refine pv_ 31 (some 81) HT_ (h := ?_)
                    refine pv_ 32 (some 82) HT_ (h := ?_)
                    refine pv_ 34 (some 84) HT_ (h := ?_)
                    refine pv_ 37 (some 87) HT_ (h := ?_)
                    refine tk_ 33 (some 83) HT_ HW_ hHeld (h := ?_)
                    refine pv_ 35 (some 85) HT_ (h := ?_)
                    refine pv_ 36 (some 86) HT_ (h := ?_)
                    refine tk_ 38 (some 88) HT_ HW_ hHeld (h := ?_)
                    refine one_ (i := 39) (N := some 89) #[true, true, true, true, true, true, true, true, true, true, true, true, true, true, true, true, true, true, true, true, true, true, true, true, true, true, true, true, true, true, true, true, true, true, true, true, true, true, true, true, false] rfl rfl (one_of HT_.out (by kernel_rfl)) (by decide) (fun K hK => ?_)
                    refine goes_ Try.func28 (by kernel_rfl) rfl #[.agg #[.int .i64 0, .int .i64 0, .int .i64 0, .int .i64 0, .int .i64 0, .slice (some ad242) y245.length c0_5], .int .i64 ((rd_T43 l0_5 x4_3).f0)] (by rfl) rfl rfl (by (try simp only [List.map_toArray, List.map_cons, List.map_nil]); first | done | rfl | (simp only [List.length_drop, List.length_take]; rfl)) ?_
                    with_reducible refine (drydockref17_has.calls k3 0 0 0 0 0 _ _ y245 ((rd_T43 l0_5 x4_3).f0) false _ ?side1 ?side2 A58.out).mono ?_
                    (case side1 => repeat (first | exact (Kd.C_below HR248.out HB.out) | (with_reducible refine Kd.C_alloc ?_ _) | (with_reducible refine Kd.C_drewN ?_ _) | (with_reducible refine Kd.C_drew ?_)))
                    (case side2 => exact HC248.out)
                    rintro e w75 ⟨rfl, hb⟩
                    refine ⟨_, rfl, ?_⟩
                    have n0_ := Aside0.mk (blk_below (bk_ BK241) hb)
                    have n1_ := Aside0.mk (blk_below (bk_ BK243) hb)
                    have n2_ := Aside0.mk (below_step bs_ hb)
                    clear BK241
                    clear BK243
                    clear HB
                    have BK241 := n0_
                    have BK243 := n1_
                    have HB := n2_
                    clear n0_ n1_ n2_
                    (try clear hb)
                    (try clear hb2)
                    (try clear hk)
                    (try clear hi)
                    refine hK.out _ _ ⟨(blk_cell BK243.out 0).trans rfl, (blk_cell BK243.out 1).trans rfl, (blk_cell BK241.out 0).trans rfl, (blk_cell BK241.out 1).trans rfl, (blk_cell BK241.out 2).trans rfl, (blk_cell BK241.out 3).trans rfl, (blk_cell BK241.out 4).trans rfl, (blk_cell BK241.out 5).trans rfl, ((HB.out.cell (World.block_lt_of_cell? w _ hw244_0)).trans hw244_0), ((HB.out.cell (World.block_lt_of_cell? w _ hw244_1)).trans hw244_1)⟩ (fun hHeld => ?_)
                    clear hK K
                    refine norm_ (a' := ?_) ?_ ?_
                    rotate_left
                    ·show Act.put _ (some 89) _ = _
                     simp only [Act.put, List.setIfInBounds_toArray, List.set_cons_zero, List.set_cons_succ, i64_w, i32_w]
                     rfl
                    refine pv_ 40 (some 90) HT_ (h := ?_)
                    refine done_ (done_of HT_.out (by kernel_rfl)) ?_
                    try go_wp2
                    go_roundg k3
                    case measure => have := HJ1.out; have := HK2.out; have := HK3.out; omega
                    case rel => exact ⟨(wrap64 (x4_3 + 1)), eq_, H', ⟨by have := HJ1.out; have := HK2.out; have := HK3.out; omega⟩, ⟨bk_ BK241⟩, ⟨bs_⟩⟩
                  ·rw [if_neg c57] at H
                   exact absurd H (by simp)
                ·rw [if_neg c48] at H
                 exact absurd H (by simp)
               ·rw [if_neg c47] at H
                exact absurd H (by simp)
              ·rw [if_neg c45] at H
               have c45b0 : decide (0 < x4_3) = false := decide_eq_false c45
               clear c45
               have c76b0 := eq_true (of_decide_eq_true (by first | (with_reducible assumption) | assumption) : 0 ≤ x4_3)
               by_cases c77 : x4_3 ≤ (l0_5.length : Int)
               ·rw [if_pos c77] at H
                have c77b0 := eq_true c77
                have c77b1 : decide (x4_3 ≤ (l0_5.length : Int)) = true := decide_eq_true c77
                clear c77
                obtain ⟨y250, hy250⟩ : ∃ y_ : List (S43), y_ = (l0_5.take (x4_3 : Int).toNat) := ⟨_, rfl⟩
                replace H : ((drydockref17_has.f k3 0 0 0 0 0 y250 ((rd_T43 l0_5 x4_3).f0)).bind fun t254 => (if t254 = true then (some false) else (drydockref17_May.l1 k3 (wrap64 (x4_3 + 1)) a0_0 a0_1 a0_2 a0_3 a0_4 l0_5))) = some r := by first | (rw [hy250]; with_reducible exact H) | (have H2_ := (Option.bind_some _ _).symm.trans H; rw [hy250]; with_reducible exact H2_) | (have H2_ := (Option.bind_some _ _).symm.trans H; with_reducible exact H2_) | with_reducible exact H | (rw [hy250]; exact H) | exact H
                have Ny250 := Aside0.mk hy250
                clear hy250
                replace H := Option.bind_eq_some_iff.mp H
                obtain ⟨t254, A780, H⟩ := H
                replace H : (if t254 = true then (some false) else (drydockref17_May.l1 k3 (wrap64 (x4_3 + 1)) a0_0 a0_1 a0_2 a0_3 a0_4 l0_5)) = some r := H
                have A78 := Aside0.mk A780
                clear A780
                by_cases c79 : t254 = true
                ·subst c79
                 have H1 : (some false) = some r := by rw [if_pos rfl] at H; exact H
                 clear H
                 have H := H1
                 clear H1
                 obtain rfl := Option.some.inj H
                 obtain ⟨hcz80_0, hcz80_1, hcz80_2, hcz80_3, hcz80_4, hcz80_5, hfz80_0, hfz80_1, hfz80_2, hfz80_3, hfz80_4, hfz80_5⟩ := blk6 BK241
                 have p242 : 0 ≤ (x4_3 : Int) := of_decide_eq_true (by first | (with_reducible assumption) | assumption)
                 have q242 : x4_3 < (l0_5.length : Int) := of_decide_eq_true (by first | (with_reducible assumption) | assumption)
                 obtain ⟨ad242, e242, hx242_0, hx242_1⟩ := at_T43 HR0_5.out x4_3 p242 q242
                 cases e242
                 replace hx242_0 := (HB.out.cell (World.block_lt_of_cell? w _ hx242_0)).trans hx242_0
                 replace hx242_1 := (HB.out.cell (World.block_lt_of_cell? w _ hx242_1)).trans hx242_1
                 replace p242 := eq_true p242
                 replace q242 := eq_true q242
                 try go_wp2_with (first | ((with_reducible refine gate_dst (N := 5) rfl ?_); (try (refine gate_guard (by rfl) ?_; dsimp only)); refine box_event ?hg (N := 5) ?hd (cs := #[.int .i64 0, .int .i64 0]) (t := 43) ?hr ?_; (case hd => rfl); (case hg => rfl); (case hr => first | (go_simp; done) | (go_simp; rfl)); intro gb243 hg w81 hbox hb; have n0_ := Aside0.mk (blk_below (bk_ BK241) hb); have n1_ := Aside0.mk (below_step bs_ hb); have n2_ := Aside0.mk (hbox); have n3_ := Aside0.mk ((by rw [hg]; exact (below_size bs_) : w.heap.size ≤ gb243)); have n4_ := Aside0.mk ((by rw [hg]; exact (below_size bs_) : w.heap.size ≤ gb243)); have n5_ := Aside0.mk ((by rw [hg]; exact Nat.ne_of_lt (blk_lt (bk_ BK241)) : gb241 ≠ gb243)); have n6_ := Aside0.mk ((by rw [hg]; exact Nat.ne_of_gt (blk_lt (bk_ BK241)) : gb243 ≠ gb241)); clear BK241 HB; have BK241 := n0_; have HB := n1_; have BK243 := n2_; have GW243 := n3_; have GE243 := n4_; have NB241_243 := n5_; have NB243_241 := n6_; clear n0_ n1_ n2_ n3_ n4_ n5_ n6_; clear hb hbox hg; have hnb82 := NB243_241.out; have hnc82 := NB241_243.out; obtain ⟨hcz83_0, hcz83_1, hfz83_0, hfz83_1⟩ := blk2 BK243))
                 have n0_ : Aside0 (((w81.setCell ⟨gb243, 0, none⟩ (.int .i64 ((rd_T43 l0_5 x4_3).f0))).setCell ⟨gb243, 1, none⟩ (.int .i64 ((rd_T43 l0_5 x4_3).f1))).heap[gb241]? = some (.cells #[.int .i64 a0_0, .int .i64 a0_1, .int .i64 a0_2, .int .i64 a0_3, .int .i64 a0_4, .slice (some ad242) l0_5.length c0_5] 25 (0, 0))) := ⟨bf_ BK241⟩
                 have n1_ : Aside0 (((w81.setCell ⟨gb243, 0, none⟩ (.int .i64 ((rd_T43 l0_5 x4_3).f0))).setCell ⟨gb243, 1, none⟩ (.int .i64 ((rd_T43 l0_5 x4_3).f1))).heap[gb243]? = some (.cells #[.int .i64 ((rd_T43 l0_5 x4_3).f0), .int .i64 ((rd_T43 l0_5 x4_3).f1)] 43 (0, 0))) := ⟨bp_ BK243⟩
                 have n2_ : Aside0 (Below w.heap.size w ((w81.setCell ⟨gb243, 0, none⟩ (.int .i64 ((rd_T43 l0_5 x4_3).f0))).setCell ⟨gb243, 1, none⟩ (.int .i64 ((rd_T43 l0_5 x4_3).f1)))) := ⟨bs_⟩
                 (try clear BK241)
                 (try clear BK243)
                 (try clear HB)
                 generalize ((w81.setCell ⟨gb243, 0, none⟩ (.int .i64 ((rd_T43 l0_5 x4_3).f0))).setCell ⟨gb243, 1, none⟩ (.int .i64 ((rd_T43 l0_5 x4_3).f1))) = w84 at n0_ n1_ n2_ ⊢
                 have BK241 := n0_
                 have BK243 := n1_
                 have HB := n2_
                 clear n0_ n1_ n2_
                 have n0_ := Aside0.mk (blk_drew BK241.out)
                 have n1_ := Aside0.mk (blk_drew BK243.out)
                 have n2_ := Aside0.mk (below_drew1 HB.out)
                 clear BK241
                 clear BK243
                 clear HB
                 have BK241 := n0_
                 have BK243 := n1_
                 have HB := n2_
                 clear n0_ n1_ n2_
                 have q86 : (x4_3 : Int) ≤ ((l0_5.length : Int) : Int) := of_decide_eq_true (by first | (with_reducible assumption) | assumption)
                 obtain ⟨i086, hi086, _, hsz86, _⟩ := info_parts info43
                 have hroom86 : l0_5.length ≤ c0_5 := HC0_5.out
                 have hC86 : Kd.C k43 _ (some ad242) l0_5.length l0_5 := HR0_5.out
                 have hcut86 := cut_to (P := Try.prog) 23 43 .i64 Try.underlying23 hi086 (some ad242) l0_5.length c0_5 x4_3 (of_decide_eq_true (by first | (with_reducible assumption) | assumption)) q86 hroom86
                 have hr86 := Kd.C_take (m := (x4_3 : Int).toNat) hC86 (by omega)
                 have hy86 : y250.length = (x4_3 : Int).toNat := (by rw [Ny250.out, List.length_take]; omega)
                 rw [← Ny250.out] at hr86
                 rw [← hy86] at hcut86
                 have HR253 := Aside0.mk hr86
                 have HC253 := Aside0.mk (show y250.length ≤ c0_5 from by omega)
                 clear hr86 hC86 hroom86 hi086 hsz86
                 have KY86 := Aside0.mk hy86
                 clear hy86
                 replace q86 := eq_true q86
                 refine start_ (n := 41) (S := fun w' => w'.cell? ⟨gb243, 0, none⟩ = some (.int .i64 ((rd_T43 l0_5 x4_3).f0)) ∧ w'.cell? ⟨gb243, 1, none⟩ = some (.int .i64 ((rd_T43 l0_5 x4_3).f1)) ∧ w'.cell? ⟨gb241, 0, none⟩ = some (.int .i64 a0_0) ∧ w'.cell? ⟨gb241, 1, none⟩ = some (.int .i64 a0_1) ∧ w'.cell? ⟨gb241, 2, none⟩ = some (.int .i64 a0_2) ∧ w'.cell? ⟨gb241, 3, none⟩ = some (.int .i64 a0_3) ∧ w'.cell? ⟨gb241, 4, none⟩ = some (.int .i64 a0_4) ∧ w'.cell? ⟨gb241, 5, none⟩ = some (.slice (some ad242) l0_5.length c0_5)) (ds := []) #[false, false, false, false, false, false, false, false, false, false, false, false, false, false, false, false, false, false, false, false, false, false, false, false, false, false, false, false, false, false, false, false, false, false, false, false, false, false, false, false, false] (by kernel_rfl) rfl rfl ⟨(blk_cell BK243.out 0).trans rfl, (blk_cell BK243.out 1).trans rfl, (blk_cell BK241.out 0).trans rfl, (blk_cell BK241.out 1).trans rfl, (blk_cell BK241.out 2).trans rfl, (blk_cell BK241.out 3).trans rfl, (blk_cell BK241.out 4).trans rfl, (blk_cell BK241.out 5).trans rfl⟩ (fun hHeld => ?_); refine with_tabW drydockref17_May.tab12 drydockref17_May.bits12 (fun HT_ HW_ => ?_)
                 generalize w84.drew = w85 at BK241 BK243 HB HR253 hHeld ⊢
                 refine pv_ 0 (some 50) HT_ (h := ?_)
                 refine tk_ 1 (some 51) HT_ HW_ hHeld (h := ?_)
                 refine pv_ 2 (some 52) HT_ (h := ?_)
                 refine pv_ 3 (some 53) HT_ (h := ?_)
                 refine pv_ 4 (some 54) HT_ (h := ?_)
                 refine tk_ 5 (some 55) HT_ HW_ hHeld (h := ?_)
                 refine pv_ 6 (some 56) HT_ (h := ?_)
                 refine pv_ 7 (some 57) HT_ (h := ?_)
                 refine pv_ 8 (some 58) HT_ (h := ?_)
                 refine pv_ 9 (some 59) HT_ (h := ?_)
                 refine pv_ 11 (some 61) HT_ (h := ?_)
                 refine tk_ 10 (some 60) HT_ HW_ hHeld (h := ?_)
                 refine tk_ 12 (some 62) HT_ HW_ hHeld (h := ?_)
                 refine pv_ 13 (some 63) HT_ (h := ?_)
                 refine pv_ 14 (some 64) HT_ (h := ?_)
                 refine pv_ 15 (some 65) HT_ (h := ?_)
                 refine pv_ 16 (some 66) HT_ (h := ?_)
                 refine pv_ 17 (some 67) HT_ (h := ?_)
                 refine pv_ 18 (some 68) HT_ (h := ?_)
                 refine pu_ 19 (some 69) HT_ (h := ?_)
                 refine pu_ 20 (some 70) HT_ (h := ?_)
                 refine pu_ 21 (some 71) HT_ (h := ?_)
                 refine pu_ 22 (some 72) HT_ (h := ?_)
                 refine pu_ 23 (some 73) HT_ (h := ?_)
                 refine pu_ 24 (some 74) HT_ (h := ?_)
                 refine pu_ 25 (some 75) HT_ (h := ?_)
                 refine pu_ 26 (some 76) HT_ (h := ?_)
                 refine pu_ 27 (some 77) HT_ (h := ?_)
                 refine pu_ 28 (some 78) HT_ (h := ?_)
                 refine pv_ 29 (some 79) HT_ (h := ?_)
                 refine pv_ 30 (some 80) HT_ (h := ?_)
                 refine pv_ 31 (some 81) HT_ (h := ?_)
                 refine pv_ 32 (some 82) HT_ (h := ?_)
                 refine pv_ 34 (some 84) HT_ (h := ?_)
                 refine pv_ 37 (some 87) HT_ (h := ?_)
                 refine tk_ 33 (some 83) HT_ HW_ hHeld (h := ?_)
                 refine pv_ 35 (some 85) HT_ (h := ?_)
                 refine pv_ 36 (some 86) HT_ (h := ?_)
                 refine tk_ 38 (some 88) HT_ HW_ hHeld (h := ?_)
                 refine one_ (i := 39) (N := some 89) #[true, true, true, true, true, true, true, true, true, true, true, true, true, true, true, true, true, true, true, true, true, true, true, true, true, true, true, true, true, true, true, true, true, true, true, true, true, true, true, true, false] rfl rfl (one_of HT_.out (by kernel_rfl)) (by decide) (fun K hK => ?_)
                 refine goes_ Try.func28 (by kernel_rfl) rfl #[.agg #[.int .i64 0, .int .i64 0, .int .i64 0, .int .i64 0, .int .i64 0, .slice (some ad242) y250.length c0_5], .int .i64 ((rd_T43 l0_5 x4_3).f0)] (by rfl) rfl rfl (by (try simp only [List.map_toArray, List.map_cons, List.map_nil]); first | done | rfl | (simp only [List.length_drop, List.length_take]; rfl)) ?_
                 with_reducible refine (drydockref17_has.calls k3 0 0 0 0 0 _ _ y250 ((rd_T43 l0_5 x4_3).f0) true _ ?side1 ?side2 A78.out).mono ?_
                 (case side1 => repeat (first | exact (Kd.C_below HR253.out HB.out) | (with_reducible refine Kd.C_alloc ?_ _) | (with_reducible refine Kd.C_drewN ?_ _) | (with_reducible refine Kd.C_drew ?_)))
                 (case side2 => exact HC253.out)
                 rintro e w87 ⟨rfl, hb⟩
                 refine ⟨_, rfl, ?_⟩
                 have n0_ := Aside0.mk (blk_below (bk_ BK241) hb)
                 have n1_ := Aside0.mk (blk_below (bk_ BK243) hb)
                 have n2_ := Aside0.mk (below_step bs_ hb)
                 clear BK241
                 clear BK243
                 clear HB
                 have BK241 := n0_
                 have BK243 := n1_
                 have HB := n2_
                 clear n0_ n1_ n2_
                 (try clear hb)
                 (try clear hb2)
                 (try clear hk)
                 (try clear hi)
                 refine hK.out _ _ ⟨(blk_cell BK243.out 0).trans rfl, (blk_cell BK243.out 1).trans rfl, (blk_cell BK241.out 0).trans rfl, (blk_cell BK241.out 1).trans rfl, (blk_cell BK241.out 2).trans rfl, (blk_cell BK241.out 3).trans rfl, (blk_cell BK241.out 4).trans rfl, (blk_cell BK241.out 5).trans rfl⟩ (fun hHeld => ?_)
                 clear hK K
                 refine norm_ (a' := ?_) ?_ ?_
                 rotate_left
                 ·show Act.put _ (some 89) _ = _
                  simp only [Act.put, List.setIfInBounds_toArray, List.set_cons_zero, List.set_cons_succ, i64_w, i32_w]
                  rfl
                 refine pv_ 40 (some 90) HT_ (h := ?_)
                 refine done_ (done_of HT_.out (by kernel_rfl)) ?_
                 try go_wp2
                 go_ret
                 exact ⟨by first | rfl | (simp [errW_none, errW_some] <;> rfl) | (simp [*, errW_none, errW_some] <;> rfl), by repeat (first | (with_reducible first | exact HB.out | apply below_alloc | apply pw_below_drewN | apply below_drew1 | refine below_set ?_ GE241.out | refine below_set ?_ GE243.out) | exact HB.out)⟩
                ·replace c79 := Bool.eq_false_iff.mpr c79
                 subst c79
                 have H1 : (drydockref17_May.l1 k3 (wrap64 (x4_3 + 1)) a0_0 a0_1 a0_2 a0_3 a0_4 l0_5) = some r := by rw [if_neg (show ¬ (false = true) by decide)] at H; exact H
                 clear H
                 have H := H1
                 clear H1
                 have H' := Aside0.mk H
                 clear H
                 obtain ⟨hcz88_0, hcz88_1, hcz88_2, hcz88_3, hcz88_4, hcz88_5, hfz88_0, hfz88_1, hfz88_2, hfz88_3, hfz88_4, hfz88_5⟩ := blk6 BK241
                 have p242 : 0 ≤ (x4_3 : Int) := of_decide_eq_true (by first | (with_reducible assumption) | assumption)
                 have q242 : x4_3 < (l0_5.length : Int) := of_decide_eq_true (by first | (with_reducible assumption) | assumption)
                 obtain ⟨ad242, e242, hx242_0, hx242_1⟩ := at_T43 HR0_5.out x4_3 p242 q242
                 cases e242
                 replace hx242_0 := (HB.out.cell (World.block_lt_of_cell? w _ hx242_0)).trans hx242_0
                 replace hx242_1 := (HB.out.cell (World.block_lt_of_cell? w _ hx242_1)).trans hx242_1
                 replace p242 := eq_true p242
                 replace q242 := eq_true q242
                 try go_wp2_with (first | ((with_reducible refine gate_dst (N := 5) rfl ?_); (try (refine gate_guard (by rfl) ?_; dsimp only)); refine box_event ?hg (N := 5) ?hd (cs := #[.int .i64 0, .int .i64 0]) (t := 43) ?hr ?_; (case hd => rfl); (case hg => rfl); (case hr => first | (go_simp; done) | (go_simp; rfl)); intro gb243 hg w89 hbox hb; have n0_ := Aside0.mk (blk_below (bk_ BK241) hb); have n1_ := Aside0.mk (below_step bs_ hb); have n2_ := Aside0.mk (hbox); have n3_ := Aside0.mk ((by rw [hg]; exact (below_size bs_) : w.heap.size ≤ gb243)); have n4_ := Aside0.mk ((by rw [hg]; exact (below_size bs_) : w.heap.size ≤ gb243)); have n5_ := Aside0.mk ((by rw [hg]; exact Nat.ne_of_lt (blk_lt (bk_ BK241)) : gb241 ≠ gb243)); have n6_ := Aside0.mk ((by rw [hg]; exact Nat.ne_of_gt (blk_lt (bk_ BK241)) : gb243 ≠ gb241)); clear BK241 HB; have BK241 := n0_; have HB := n1_; have BK243 := n2_; have GW243 := n3_; have GE243 := n4_; have NB241_243 := n5_; have NB243_241 := n6_; clear n0_ n1_ n2_ n3_ n4_ n5_ n6_; clear hb hbox hg; have hnb90 := NB243_241.out; have hnc90 := NB241_243.out; obtain ⟨hcz91_0, hcz91_1, hfz91_0, hfz91_1⟩ := blk2 BK243))
                 have n0_ : Aside0 (((w89.setCell ⟨gb243, 0, none⟩ (.int .i64 ((rd_T43 l0_5 x4_3).f0))).setCell ⟨gb243, 1, none⟩ (.int .i64 ((rd_T43 l0_5 x4_3).f1))).heap[gb241]? = some (.cells #[.int .i64 a0_0, .int .i64 a0_1, .int .i64 a0_2, .int .i64 a0_3, .int .i64 a0_4, .slice (some ad242) l0_5.length c0_5] 25 (0, 0))) := ⟨bf_ BK241⟩
                 have n1_ : Aside0 (((w89.setCell ⟨gb243, 0, none⟩ (.int .i64 ((rd_T43 l0_5 x4_3).f0))).setCell ⟨gb243, 1, none⟩ (.int .i64 ((rd_T43 l0_5 x4_3).f1))).heap[gb243]? = some (.cells #[.int .i64 ((rd_T43 l0_5 x4_3).f0), .int .i64 ((rd_T43 l0_5 x4_3).f1)] 43 (0, 0))) := ⟨bp_ BK243⟩
                 have n2_ : Aside0 (Below w.heap.size w ((w89.setCell ⟨gb243, 0, none⟩ (.int .i64 ((rd_T43 l0_5 x4_3).f0))).setCell ⟨gb243, 1, none⟩ (.int .i64 ((rd_T43 l0_5 x4_3).f1)))) := ⟨bs_⟩
                 (try clear BK241)
                 (try clear BK243)
                 (try clear HB)
                 generalize ((w89.setCell ⟨gb243, 0, none⟩ (.int .i64 ((rd_T43 l0_5 x4_3).f0))).setCell ⟨gb243, 1, none⟩ (.int .i64 ((rd_T43 l0_5 x4_3).f1))) = w92 at n0_ n1_ n2_ ⊢
                 have BK241 := n0_
                 have BK243 := n1_
                 have HB := n2_
                 clear n0_ n1_ n2_
                 have n0_ := Aside0.mk (blk_drew BK241.out)
                 have n1_ := Aside0.mk (blk_drew BK243.out)
                 have n2_ := Aside0.mk (below_drew1 HB.out)
                 clear BK241
                 clear BK243
                 clear HB
                 have BK241 := n0_
                 have BK243 := n1_
                 have HB := n2_
                 clear n0_ n1_ n2_
                 have q94 : (x4_3 : Int) ≤ ((l0_5.length : Int) : Int) := of_decide_eq_true (by first | (with_reducible assumption) | assumption)
                 obtain ⟨i094, hi094, _, hsz94, _⟩ := info_parts info43
                 have hroom94 : l0_5.length ≤ c0_5 := HC0_5.out
                 have hC94 : Kd.C k43 _ (some ad242) l0_5.length l0_5 := HR0_5.out
                 have hcut94 := cut_to (P := Try.prog) 23 43 .i64 Try.underlying23 hi094 (some ad242) l0_5.length c0_5 x4_3 (of_decide_eq_true (by first | (with_reducible assumption) | assumption)) q94 hroom94
                 have hr94 := Kd.C_take (m := (x4_3 : Int).toNat) hC94 (by omega)
                 have hy94 : y250.length = (x4_3 : Int).toNat := (by rw [Ny250.out, List.length_take]; omega)
                 rw [← Ny250.out] at hr94
                 rw [← hy94] at hcut94
                 have HR253 := Aside0.mk hr94
                 have HC253 := Aside0.mk (show y250.length ≤ c0_5 from by omega)
                 clear hr94 hC94 hroom94 hi094 hsz94
                 have KY94 := Aside0.mk hy94
                 clear hy94
                 replace q94 := eq_true q94
                 refine start_ (n := 41) (S := fun w' => w'.cell? ⟨gb243, 0, none⟩ = some (.int .i64 ((rd_T43 l0_5 x4_3).f0)) ∧ w'.cell? ⟨gb243, 1, none⟩ = some (.int .i64 ((rd_T43 l0_5 x4_3).f1)) ∧ w'.cell? ⟨gb241, 0, none⟩ = some (.int .i64 a0_0) ∧ w'.cell? ⟨gb241, 1, none⟩ = some (.int .i64 a0_1) ∧ w'.cell? ⟨gb241, 2, none⟩ = some (.int .i64 a0_2) ∧ w'.cell? ⟨gb241, 3, none⟩ = some (.int .i64 a0_3) ∧ w'.cell? ⟨gb241, 4, none⟩ = some (.int .i64 a0_4) ∧ w'.cell? ⟨gb241, 5, none⟩ = some (.slice (some ad242) l0_5.length c0_5)) (ds := []) #[false, false, false, false, false, false, false, false, false, false, false, false, false, false, false, false, false, false, false, false, false, false, false, false, false, false, false, false, false, false, false, false, false, false, false, false, false, false, false, false, false] (by kernel_rfl) rfl rfl ⟨(blk_cell BK243.out 0).trans rfl, (blk_cell BK243.out 1).trans rfl, (blk_cell BK241.out 0).trans rfl, (blk_cell BK241.out 1).trans rfl, (blk_cell BK241.out 2).trans rfl, (blk_cell BK241.out 3).trans rfl, (blk_cell BK241.out 4).trans rfl, (blk_cell BK241.out 5).trans rfl⟩ (fun hHeld => ?_); refine with_tabW drydockref17_May.tab12 drydockref17_May.bits12 (fun HT_ HW_ => ?_)
                 generalize w92.drew = w93 at BK241 BK243 HB HR253 hHeld ⊢
                 refine pv_ 0 (some 50) HT_ (h := ?_)
                 refine tk_ 1 (some 51) HT_ HW_ hHeld (h := ?_)
                 refine pv_ 2 (some 52) HT_ (h := ?_)
                 refine pv_ 3 (some 53) HT_ (h := ?_)
                 refine pv_ 4 (some 54) HT_ (h := ?_)
                 refine tk_ 5 (some 55) HT_ HW_ hHeld (h := ?_)
                 refine pv_ 6 (some 56) HT_ (h := ?_)
                 refine pv_ 7 (some 57) HT_ (h := ?_)
                 refine pv_ 8 (some 58) HT_ (h := ?_)
                 refine pv_ 9 (some 59) HT_ (h := ?_)
                 refine pv_ 11 (some 61) HT_ (h := ?_)
                 refine tk_ 10 (some 60) HT_ HW_ hHeld (h := ?_)
                 refine tk_ 12 (some 62) HT_ HW_ hHeld (h := ?_)
                 refine pv_ 13 (some 63) HT_ (h := ?_)
                 refine pv_ 14 (some 64) HT_ (h := ?_)
                 refine pv_ 15 (some 65) HT_ (h := ?_)
                 refine pv_ 16 (some 66) HT_ (h := ?_)
                 refine pv_ 17 (some 67) HT_ (h := ?_)
                 refine pv_ 18 (some 68) HT_ (h := ?_)
                 refine pu_ 19 (some 69) HT_ (h := ?_)
                 refine pu_ 20 (some 70) HT_ (h := ?_)
                 refine pu_ 21 (some 71) HT_ (h := ?_)
                 refine pu_ 22 (some 72) HT_ (h := ?_)
                 refine pu_ 23 (some 73) HT_ (h := ?_)
                 refine pu_ 24 (some 74) HT_ (h := ?_)
                 refine pu_ 25 (some 75) HT_ (h := ?_)
                 refine pu_ 26 (some 76) HT_ (h := ?_)
                 refine pu_ 27 (some 77) HT_ (h := ?_)
                 refine pu_ 28 (some 78) HT_ (h := ?_)
                 refine pv_ 29 (some 79) HT_ (h := ?_)
                 refine pv_ 30 (some 80) HT_ (h := ?_)
                 refine pv_ 31 (some 81) HT_ (h := ?_)
                 refine pv_ 32 (some 82) HT_ (h := ?_)
                 refine pv_ 34 (some 84) HT_ (h := ?_)
                 refine pv_ 37 (some 87) HT_ (h := ?_)
                 refine tk_ 33 (some 83) HT_ HW_ hHeld (h := ?_)
                 refine pv_ 35 (some 85) HT_ (h := ?_)
                 refine pv_ 36 (some 86) HT_ (h := ?_)
                 refine tk_ 38 (some 88) HT_ HW_ hHeld (h := ?_)
                 refine one_ (i := 39) (N := some 89) #[true, true, true, true, true, true, true, true, true, true, true, true, true, true, true, true, true, true, true, true, true, true, true, true, true, true, true, true, true, true, true, true, true, true, true, true, true, true, true, true, false] rfl rfl (one_of HT_.out (by kernel_rfl)) (by decide) (fun K hK => ?_)
                 refine goes_ Try.func28 (by kernel_rfl) rfl #[.agg #[.int .i64 0, .int .i64 0, .int .i64 0, .int .i64 0, .int .i64 0, .slice (some ad242) y250.length c0_5], .int .i64 ((rd_T43 l0_5 x4_3).f0)] (by rfl) rfl rfl (by (try simp only [List.map_toArray, List.map_cons, List.map_nil]); first | done | rfl | (simp only [List.length_drop, List.length_take]; rfl)) ?_
                 with_reducible refine (drydockref17_has.calls k3 0 0 0 0 0 _ _ y250 ((rd_T43 l0_5 x4_3).f0) false _ ?side1 ?side2 A78.out).mono ?_
                 (case side1 => repeat (first | exact (Kd.C_below HR253.out HB.out) | (with_reducible refine Kd.C_alloc ?_ _) | (with_reducible refine Kd.C_drewN ?_ _) | (with_reducible refine Kd.C_drew ?_)))
                 (case side2 => exact HC253.out)
                 rintro e w95 ⟨rfl, hb⟩
                 refine ⟨_, rfl, ?_⟩
                 have n0_ := Aside0.mk (blk_below (bk_ BK241) hb)
                 have n1_ := Aside0.mk (blk_below (bk_ BK243) hb)
                 have n2_ := Aside0.mk (below_step bs_ hb)
                 clear BK241
                 clear BK243
                 clear HB
                 have BK241 := n0_
                 have BK243 := n1_
                 have HB := n2_
                 clear n0_ n1_ n2_
                 (try clear hb)
                 (try clear hb2)
                 (try clear hk)
                 (try clear hi)
                 refine hK.out _ _ ⟨(blk_cell BK243.out 0).trans rfl, (blk_cell BK243.out 1).trans rfl, (blk_cell BK241.out 0).trans rfl, (blk_cell BK241.out 1).trans rfl, (blk_cell BK241.out 2).trans rfl, (blk_cell BK241.out 3).trans rfl, (blk_cell BK241.out 4).trans rfl, (blk_cell BK241.out 5).trans rfl⟩ (fun hHeld => ?_)
                 clear hK K
                 refine norm_ (a' := ?_) ?_ ?_
                 rotate_left
                 ·show Act.put _ (some 89) _ = _
                  simp only [Act.put, List.setIfInBounds_toArray, List.set_cons_zero, List.set_cons_succ, i64_w, i32_w]
                  rfl
                 refine pv_ 40 (some 90) HT_ (h := ?_)
                 refine done_ (done_of HT_.out (by kernel_rfl)) ?_
                 try go_wp2
                 go_roundg k3
                 case measure => have := HJ1.out; have := HK2.out; have := HK3.out; omega
                 case rel => exact ⟨(wrap64 (x4_3 + 1)), eq_, H', ⟨by have := HJ1.out; have := HK2.out; have := HK3.out; omega⟩, ⟨bk_ BK241⟩, ⟨bs_⟩⟩
               ·rw [if_neg c77] at H
                exact absurd H (by simp)
          ·rw [if_neg c23] at H
           exact absurd H (by simp)
         ·rw [if_neg c22] at H
          have c22b0 : decide (x4_3 < (l0_5.length : Int)) = false := decide_eq_false c22
          clear c22
          obtain rfl := Option.some.inj H
          obtain ⟨hcz96_0, hcz96_1, hcz96_2, hcz96_3, hcz96_4, hcz96_5, hfz96_0, hfz96_1, hfz96_2, hfz96_3, hfz96_4, hfz96_5⟩ := blk6 BK241
          go_wp2
          go_ret
          exact ⟨by first | rfl | (simp [errW_none, errW_some] <;> rfl) | (simp [*, errW_none, errW_some] <;> rfl), by repeat (first | (with_reducible first | exact HB.out | apply below_alloc | apply pw_below_drewN | apply below_drew1 | refine below_set ?_ GE241.out) | exact HB.out)⟩

end Go.Proofs.Ytipnfcicpnmggaa.P
