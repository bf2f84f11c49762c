-- Written by a program of this session over the kit's print of the translation. Lean checks it.
import Derived.Test.YtlboachgeepadaaPx0
import Derived.Test.YtlboachgeepadaaPx3
import Derived.Test.YtlboachgeepadaaPx4
import Derived.Test.YtlboachgeepadaaPx5
import Derived.Test.YtlboachgeepadaaPx6
import Derived.Test.YtlboachgeepadaaPx8
import Derived.Test.YtlboachgeepadaaPx10
import Derived.Test.YtlboachgeepadaaPx11
import Derived.Test.YtlboachgeepadaaPx14
import Derived.Test.YtlboachgeepadaaPx15
import Derived.Test.YtlboachgeepadaaPx16
import Derived.Test.YtlboachgeepadaaPx17
import Derived.Test.YtlboachgeepadaaPx18
import Derived.Test.YtlboachgeepadaaPx22
import Derived.Test.YtlboachgeepadaaHPut
import Derived.Test.YtlboachgeepadaaFarN
-- shorter
namespace Go.Proofs.Ytlboachgeepadaa.P
open Go.RowKit Go.Proofs.YtlboachgeepadaaW.PrintWords Go.Proofs.YtlboachgeepadaaW.PrintLast Go.Proofs.YtlboachgeepadaaW.PrintMore
attribute [local go_sem] max2_int min2_int max_two min_two max_three min_three max_four min_four   -- for this text's walks alone
set_option linter.unusedVariables false
set_option linter.unusedSimpArgs false

/-! ### drydocklaw19_DeltaTells: function 5 -/
def drydocklaw19_DeltaTells.j0 : Nat → Int → Int → List Int → Bool → Bool → List Int → Bool → Int → Int → Int → Int → List (S61) → List Int → Int → Int → Int → Int → List (S63) → Int → Option (Bool)
  | 0, _, _, _, _, _, _, _, _, _, _, _, _, _, _, _, _, _, _, _ => none
  | k + 1, x1, x2, x3, x11, x63, x320000, x320001, x321000, x321001, x321002, x321003, x321004, x321005, x321006, x321007, x321008, x321009, x321010, x321011 => if x63 = true then (some x11) else ((drydockref18_Own.f k x321000 x321001 x321002 x321003 x321004 x321005 x321006 x321007 x321008 x321009 x321010 x321011).bind fun bt327 => ((delta_Note.f k x320000 x320001 x1).bind fun bt346 => ((drydockref19_Note.f k x320000 x320001 x1).bind fun bt350 => ((drydockref19_Same.f k bt346.1 bt346.2 bt350.1 bt350.2).bind fun t354 => ((delta_Of.f x2 x3).bind fun bt355 => ((drydockref19_Of.f k x2 x3).bind fun bt358 => ((delta_Put.f x320000 x320001 x321000 x321001 x321002 x321003 x321004 x321005 x321006 x321007 x321008 x321009 x321010 x321011).bind fun bt361 => ((drydockref19_Put.f k x320000 x320001 x321000 x321001 x321002 x321003 x321004 x321005 x321006 x321007 x321008 x321009 x321010 x321011).bind fun bt386 => ((drydockref19_Same.f k bt361.1 bt361.2.1 bt386.1 bt386.2.1).bind fun t411 => (if t411 = true then ((drydockref18_Same.f k bt361.2.2.1 bt361.2.2.2.1 bt361.2.2.2.2.1 bt361.2.2.2.2.2.1 bt361.2.2.2.2.2.2.1 bt361.2.2.2.2.2.2.2.1 bt361.2.2.2.2.2.2.2.2.1 bt361.2.2.2.2.2.2.2.2.2.1 bt361.2.2.2.2.2.2.2.2.2.2.1 bt361.2.2.2.2.2.2.2.2.2.2.2.1 bt361.2.2.2.2.2.2.2.2.2.2.2.2.1 bt361.2.2.2.2.2.2.2.2.2.2.2.2.2.1 bt386.2.2.1 bt386.2.2.2.1 bt386.2.2.2.2.1 bt386.2.2.2.2.2.1 bt386.2.2.2.2.2.2.1 bt386.2.2.2.2.2.2.2.1 bt386.2.2.2.2.2.2.2.2.1 bt386.2.2.2.2.2.2.2.2.2.1 bt386.2.2.2.2.2.2.2.2.2.2.1 bt386.2.2.2.2.2.2.2.2.2.2.2.1 bt386.2.2.2.2.2.2.2.2.2.2.2.2.1 bt386.2.2.2.2.2.2.2.2.2.2.2.2.2.1).bind fun t412 => (if t412 = true then (if t354 = true then (if bt355.1 = bt358.1 then (if bt355.2.1 = bt358.2.1 then (if (bt355.2.2 == bt358.2.2) = true then (if bt361.2.2.2.2.2.2.2.2.2.2.2.2.2.2 = bt386.2.2.2.2.2.2.2.2.2.2.2.2.2.2 then ((drydockref18_Same.f k x321000 x321001 x321002 x321003 x321004 x321005 x321006 x321007 x321008 x321009 x321010 x321011 bt327.1 bt327.2.1 bt327.2.2.1 bt327.2.2.2.1 bt327.2.2.2.2.1 bt327.2.2.2.2.2.1 bt327.2.2.2.2.2.2.1 bt327.2.2.2.2.2.2.2.1 bt327.2.2.2.2.2.2.2.2.1 bt327.2.2.2.2.2.2.2.2.2.1 bt327.2.2.2.2.2.2.2.2.2.2.1 bt327.2.2.2.2.2.2.2.2.2.2.2).bind fun t413 => (if t413 = true then ((delta_May.f k x320000 x320001).bind fun t414 => ((drydockref19_May.f k x320000 x320001).bind fun t415 => (some (t414 == t415)))) else (none))) else (none)) else (none)) else (none)) else (none)) else (none)) else (none))) else (none)))))))))))
def drydocklaw19_DeltaTells.f (k : Nat) (l0_0 : List Int) (a0_1 : Bool) (a1 : Int) (a2 : Int) (l3 : List Int) (a4_0 : Int) (a4_1 : Int) (a4_2 : Int) (a4_3 : Int) (l4_4 : List (S61)) (l4_5 : List Int) (a4_6 : Int) (a4_7 : Int) (a4_8 : Int) (a4_9 : Int) (l4_10 : List (S63)) (a4_11 : Int) : Option (Bool) := (drydocklaw19_awake.f k).bind fun t321 => ((drydockref03_Few.f k l4_4).bind fun t322 => ((drydockref05_Few.f k (([(⟨(⟨a4_6, a4_7, a4_8, a4_9⟩ : S34), l4_10, a4_11⟩ : S40)] : List (S40)))).bind fun t326 => (if t321 = true then (if t322 = true then (if t326 = true then (if (l0_0.length : Int) > 20 then (drydocklaw19_DeltaTells.j0 k a1 a2 l3 t321 true l0_0 a0_1 a4_0 a4_1 a4_2 a4_3 l4_4 l4_5 a4_6 a4_7 a4_8 a4_9 l4_10 a4_11) else (if (l3.length : Int) > 10 then (drydocklaw19_DeltaTells.j0 k a1 a2 l3 t321 true l0_0 a0_1 a4_0 a4_1 a4_2 a4_3 l4_4 l4_5 a4_6 a4_7 a4_8 a4_9 l4_10 a4_11) else (drydocklaw19_DeltaTells.j0 k a1 a2 l3 t321 (decide ((l4_5.length : Int) > 40)) l0_0 a0_1 a4_0 a4_1 a4_2 a4_3 l4_4 l4_5 a4_6 a4_7 a4_8 a4_9 l4_10 a4_11))) else (drydocklaw19_DeltaTells.j0 k a1 a2 l3 t321 true l0_0 a0_1 a4_0 a4_1 a4_2 a4_3 l4_4 l4_5 a4_6 a4_7 a4_8 a4_9 l4_10 a4_11)) else (drydocklaw19_DeltaTells.j0 k a1 a2 l3 t321 true l0_0 a0_1 a4_0 a4_1 a4_2 a4_3 l4_4 l4_5 a4_6 a4_7 a4_8 a4_9 l4_10 a4_11)) else (drydocklaw19_DeltaTells.j0 k a1 a2 l3 t321 true l0_0 a0_1 a4_0 a4_1 a4_2 a4_3 l4_4 l4_5 a4_6 a4_7 a4_8 a4_9 l4_10 a4_11))))
theorem drydocklaw19_DeltaTells.mono_l : ∀ k, (∀ y0 y1 y2 y3 y4 y5 y6 y7 y8 y9 y10 y11 y12 y13 y14 y15 y16 y17 y18, LeO (drydocklaw19_DeltaTells.j0 k y0 y1 y2 y3 y4 y5 y6 y7 y8 y9 y10 y11 y12 y13 y14 y15 y16 y17 y18) (drydocklaw19_DeltaTells.j0 (k + 1) y0 y1 y2 y3 y4 y5 y6 y7 y8 y9 y10 y11 y12 y13 y14 y15 y16 y17 y18))
  | 0 => fun _ _ _ _ _ _ _ _ _ _ _ _ _ _ _ _ _ _ _ r h => by simp [drydocklaw19_DeltaTells.j0] at h
  | k + 1 => by
    have ih0 := drydocklaw19_DeltaTells.mono_l k
    · intro y0 y1 y2 y3 y4 y5 y6 y7 y8 y9 y10 y11 y12 y13 y14 y15 y16 y17 y18
      unfold drydocklaw19_DeltaTells.j0
      repeat' first
      | (with_reducible exact ih0 _ _ _ _ _ _ _ _ _ _ _ _ _ _ _ _ _ _ _)
      | (with_reducible exact delta_May.mono _ _ _)
      | (with_reducible exact delta_Note.mono _ _ _ _)
      | (with_reducible exact drydocklaw19_awake.mono _)
      | (with_reducible exact drydockref03_Few.mono _ _)
      | (with_reducible exact drydockref05_Few.mono _ _)
      | (with_reducible exact drydockref18_Own.mono _ _ _ _ _ _ _ _ _ _ _ _ _)
      | (with_reducible exact drydockref18_Same.mono _ _ _ _ _ _ _ _ _ _ _ _ _ _ _ _ _ _ _ _ _ _ _ _ _)
      | (with_reducible exact drydockref19_May.mono _ _ _)
      | (with_reducible exact drydockref19_Note.mono _ _ _ _)
      | (with_reducible exact drydockref19_Of.mono _ _ _)
      | (with_reducible exact drydockref19_Put.mono _ _ _ _ _ _ _ _ _ _ _ _ _ _ _)
      | (with_reducible exact drydockref19_Same.mono _ _ _ _ _)
      | (with_reducible exact LeO.refl _)
      | (with_reducible exact LeO.none _)
      | (with_reducible refine LeO.ite ?_ ?_)
      | (with_reducible refine LeO.bind ?_ (fun _ => ?_))
      | exact ih0 _ _ _ _ _ _ _ _ _ _ _ _ _ _ _ _ _ _ _
      | exact delta_May.mono _ _ _
      | exact delta_Note.mono _ _ _ _
      | exact drydocklaw19_awake.mono _
      | exact drydockref03_Few.mono _ _
      | exact drydockref05_Few.mono _ _
      | exact drydockref18_Own.mono _ _ _ _ _ _ _ _ _ _ _ _ _
      | exact drydockref18_Same.mono _ _ _ _ _ _ _ _ _ _ _ _ _ _ _ _ _ _ _ _ _ _ _ _ _
      | exact drydockref19_May.mono _ _ _
      | exact drydockref19_Note.mono _ _ _ _
      | exact drydockref19_Of.mono _ _ _
      | exact drydockref19_Put.mono _ _ _ _ _ _ _ _ _ _ _ _ _ _ _
      | exact drydockref19_Same.mono _ _ _ _ _
      | exact LeO.none _
      | refine LeO.ite ?_ ?_
      | refine LeO.bind ?_ (fun _ => ?_)
theorem drydocklaw19_DeltaTells.mono : ∀ a0 a1 a2 a3 a4 a5 a6 a7 a8 a9 a10 a11 a12 a13 a14 a15 a16 k, LeO (drydocklaw19_DeltaTells.f k a0 a1 a2 a3 a4 a5 a6 a7 a8 a9 a10 a11 a12 a13 a14 a15 a16) (drydocklaw19_DeltaTells.f (k + 1) a0 a1 a2 a3 a4 a5 a6 a7 a8 a9 a10 a11 a12 a13 a14 a15 a16) := by
 intro a0 a1 a2 a3 a4 a5 a6 a7 a8 a9 a10 a11 a12 a13 a14 a15 a16 k
 have ih0 := drydocklaw19_DeltaTells.mono_l k
 unfold drydocklaw19_DeltaTells.f
 repeat' first
  | (with_reducible exact ih0 _ _ _ _ _ _ _ _ _ _ _ _ _ _ _ _ _ _ _)
  | (with_reducible exact delta_May.mono _ _ _)
  | (with_reducible exact delta_Note.mono _ _ _ _)
  | (with_reducible exact drydocklaw19_awake.mono _)
  | (with_reducible exact drydockref03_Few.mono _ _)
  | (with_reducible exact drydockref05_Few.mono _ _)
  | (with_reducible exact drydockref18_Own.mono _ _ _ _ _ _ _ _ _ _ _ _ _)
  | (with_reducible exact drydockref18_Same.mono _ _ _ _ _ _ _ _ _ _ _ _ _ _ _ _ _ _ _ _ _ _ _ _ _)
  | (with_reducible exact drydockref19_May.mono _ _ _)
  | (with_reducible exact drydockref19_Note.mono _ _ _ _)
  | (with_reducible exact drydockref19_Of.mono _ _ _)
  | (with_reducible exact drydockref19_Put.mono _ _ _ _ _ _ _ _ _ _ _ _ _ _ _)
  | (with_reducible exact drydockref19_Same.mono _ _ _ _ _)
  | (with_reducible exact LeO.refl _)
  | (with_reducible exact LeO.none _)
  | (with_reducible refine LeO.ite ?_ ?_)
  | (with_reducible refine LeO.bind ?_ (fun _ => ?_))
  | exact ih0 _ _ _ _ _ _ _ _ _ _ _ _ _ _ _ _ _ _ _
  | exact delta_May.mono _ _ _
  | exact delta_Note.mono _ _ _ _
  | exact drydocklaw19_awake.mono _
  | exact drydockref03_Few.mono _ _
  | exact drydockref05_Few.mono _ _
  | exact drydockref18_Own.mono _ _ _ _ _ _ _ _ _ _ _ _ _
  | exact drydockref18_Same.mono _ _ _ _ _ _ _ _ _ _ _ _ _ _ _ _ _ _ _ _ _ _ _ _ _
  | exact drydockref19_May.mono _ _ _
  | exact drydockref19_Note.mono _ _ _ _
  | exact drydockref19_Of.mono _ _ _
  | exact drydockref19_Put.mono _ _ _ _ _ _ _ _ _ _ _ _ _ _ _
  | exact drydockref19_Same.mono _ _ _ _ _
  | exact LeO.none _
  | refine LeO.ite ?_ ?_
  | refine LeO.bind ?_ (fun _ => ?_)
def drydocklaw19_DeltaTells.T7 : Bool × List (List Nat × List Nat) := (true, [([], []), ([], []), ([0, 1], [0, 1]), ([], []), ([], []), ([3, 4, 2], [3, 4]), ([2, 5, 5], [2, 5]), ([6, 6, 0, 1, 2, 3, 4, 5, 6], [6])])
def drydocklaw19_DeltaTells.B7 : List Nat := [0, 0, 3, 0, 0, 31, 63, 127]
theorem drydocklaw19_DeltaTells.tab7 : rtab .any (opsOf Try.f5 7) = drydocklaw19_DeltaTells.T7 := by kernel_rfl
theorem drydocklaw19_DeltaTells.bits7 : waitsOk drydocklaw19_DeltaTells.T7.2 drydocklaw19_DeltaTells.B7 = true := by kernel_rfl
def drydocklaw19_DeltaTells.T13 : Bool × List (List Nat × List Nat) := (true, [([], []), ([0], [0]), ([1], [1]), ([1], [1]), ([2, 3, 1], [1, 2, 3]), ([1, 4], [1, 4]), ([5, 1], [5]), ([6], [6]), ([6], [6]), ([7, 8, 6], [6, 7, 8]), ([6, 9], [6, 9]), ([10, 6], [10]), ([11], [11]), ([11], [11]), ([12, 13, 11], [11, 12, 13]), ([11, 14], [11, 14]), ([15, 11], [15]), ([16], [16]), ([16, 17], [16, 17]), ([18, 16], [18]), ([19], [19]), ([19], [19]), ([20, 21, 19, 19], [19, 20, 21]), ([19, 22], [19, 22]), ([23, 22], [23]), ([24], [24]), ([25, 24, 24], [24, 25]), ([24], [24]), ([27, 26, 24], [24, 27]), ([26, 28, 24], [24, 26, 28]), ([24, 29], [24, 29]), ([30, 28, 0, 1, 2, 3, 4, 5, 6, 7, 8, 9, 10, 11, 12, 13, 14, 15, 16, 17, 18, 19, 20, 21, 22, 23, 24, 25, 26, 27, 28, 29, 30], [30])])
def drydocklaw19_DeltaTells.B13 : List Nat := [0, 1, 3, 3, 15, 31, 63, 127, 127, 511, 1023, 2047, 4095, 4095, 16383, 32767, 65535, 131071, 262143, 524287, 1048575, 1048575, 4194303, 8388607, 16777215, 33554431, 67108863, 33554431, 268435455, 536870911, 1073741823, 2147483647]
theorem drydocklaw19_DeltaTells.tab13 : rtab .any (opsOf Try.f5 13) = drydocklaw19_DeltaTells.T13 := by kernel_rfl
theorem drydocklaw19_DeltaTells.bits13 : waitsOk drydocklaw19_DeltaTells.T13.2 drydocklaw19_DeltaTells.B13 = true := by kernel_rfl
set_option maxHeartbeats 8000000 in
set_option maxRecDepth 100000 in
theorem drydocklaw19_DeltaTells.calls (k : Nat) (A0_0 : Option Addr) (c0_0 : Nat) (l0_0 : List Int) (a0_1 : Bool) (a1 : Int) (a2 : Int) (A3 : Option Addr) (c3 : Nat) (l3 : List Int) (a4_0 : Int) (a4_1 : Int) (a4_2 : Int) (a4_3 : Int) (A4_4 : Option Addr) (c4_4 : Nat) (l4_4 : List (S61)) (A4_5 : Option Addr) (c4_5 : Nat) (l4_5 : List Int) (a4_6 : Int) (a4_7 : Int) (a4_8 : Int) (a4_9 : Int) (P4_10_ : Nat → Prop) (A4_10 : Option Addr) (c4_10 : Nat) (l4_10 : List (S63)) (a4_11 : Int) (r : Bool) (w : World) (hr0_0 : Kd.C (Kd.int .u32) w A0_0 l0_0.length l0_0) (hc0_0 : l0_0.length ≤ c0_0) (hr3 : Kd.C (Kd.int .u32) w A3 l3.length l3) (hc3 : l3.length ≤ c3) (hr4_4 : Kd.C k61 w A4_4 l4_4.length l4_4) (hc4_4 : l4_4.length ≤ c4_4) (hr4_5 : Kd.C (Kd.int .u32) w A4_5 l4_5.length l4_5) (hc4_5 : l4_5.length ≤ c4_5) (hs4_10 : Kd.V k63 63 w w.heap.size (fun k_ => P4_10_ k_) (.slice A4_10 l4_10.length c4_10) l4_10) (h : drydocklaw19_DeltaTells.f k l0_0 a0_1 a1 a2 l3 a4_0 a4_1 a4_2 a4_3 l4_4 l4_5 a4_6 a4_7 a4_8 a4_9 l4_10 a4_11 = some r) :
    Calls Try.prog 5 #[.agg #[.slice A0_0 l0_0.length c0_0, .bool a0_1], .int .u32 a1, .int .i64 a2, .slice A3 l3.length c3, .agg #[.int .i64 a4_0, .int .i64 a4_1, .int .i64 a4_2, .int .i64 a4_3, .slice A4_4 l4_4.length c4_4, .slice A4_5 l4_5.length c4_5, .int .i64 a4_6, .int .i64 a4_7, .int .i64 a4_8, .int .i64 a4_9, .slice A4_10 l4_10.length c4_10, .int .u32 a4_11]] w fun e w' => e = .returned (.bool r) ∧ Below w.heap.size w w' := by
 have hu25 := Try.underlying25
 have hu42 := Try.underlying42
 have hu37 := Try.underlying37
 have hu40 := Try.underlying40
 have HR0_0 := Aside0.mk hr0_0
 have HC0_0 := Aside0.mk hc0_0
 clear hr0_0 hc0_0
 have HR3 := Aside0.mk hr3
 have HC3 := Aside0.mk hc3
 clear hr3 hc3
 have HR4_4 := Aside0.mk hr4_4
 have HC4_4 := Aside0.mk hc4_4
 clear hr4_4 hc4_4
 have HR4_5 := Aside0.mk hr4_5
 have HC4_5 := Aside0.mk hc4_5
 clear hr4_5 hc4_5
 have HRX_ := Aside0.mk (Kd.V_reads' hs4_10).2.2
 have HCX_ := Aside0.mk (Kd.V_reads' hs4_10).2.1
 have HO4_10 := Aside0.mk (show Kd.V k63 63 w w.heap.size (fun k_ => (P4_10_ k_ ∨ w.heap.size ≤ k_)) (.slice A4_10 l4_10.length c4_10) l4_10 from Kd.V_mono hs4_10 (fun k_ hk => .inl hk))
 have HB := Aside0.mk (Below.refl w.heap.size w)
 have H : ((drydocklaw19_awake.f k).bind fun t321 => ((drydockref03_Few.f k l4_4).bind fun t322 => ((drydockref05_Few.f k (([(⟨(⟨a4_6, a4_7, a4_8, a4_9⟩ : S34), l4_10, a4_11⟩ : S40)] : List (S40)))).bind fun t326 => (if t321 = true then (if t322 = true then (if t326 = true then (if (l0_0.length : Int) > 20 then (drydocklaw19_DeltaTells.j0 k a1 a2 l3 t321 true l0_0 a0_1 a4_0 a4_1 a4_2 a4_3 l4_4 l4_5 a4_6 a4_7 a4_8 a4_9 l4_10 a4_11) else (if (l3.length : Int) > 10 then (drydocklaw19_DeltaTells.j0 k a1 a2 l3 t321 true l0_0 a0_1 a4_0 a4_1 a4_2 a4_3 l4_4 l4_5 a4_6 a4_7 a4_8 a4_9 l4_10 a4_11) else (drydocklaw19_DeltaTells.j0 k a1 a2 l3 t321 (decide ((l4_5.length : Int) > 40)) l0_0 a0_1 a4_0 a4_1 a4_2 a4_3 l4_4 l4_5 a4_6 a4_7 a4_8 a4_9 l4_10 a4_11))) else (drydocklaw19_DeltaTells.j0 k a1 a2 l3 t321 true l0_0 a0_1 a4_0 a4_1 a4_2 a4_3 l4_4 l4_5 a4_6 a4_7 a4_8 a4_9 l4_10 a4_11)) else (drydocklaw19_DeltaTells.j0 k a1 a2 l3 t321 true l0_0 a0_1 a4_0 a4_1 a4_2 a4_3 l4_4 l4_5 a4_6 a4_7 a4_8 a4_9 l4_10 a4_11)) else (drydocklaw19_DeltaTells.j0 k a1 a2 l3 t321 true l0_0 a0_1 a4_0 a4_1 a4_2 a4_3 l4_4 l4_5 a4_6 a4_7 a4_8 a4_9 l4_10 a4_11))))) = some r := h
 clear h
 replace H := Option.bind_eq_some_iff.mp H
 obtain ⟨t321, A60, H⟩ := H
 replace H : ((drydockref03_Few.f k l4_4).bind fun t322 => ((drydockref05_Few.f k (([(⟨(⟨a4_6, a4_7, a4_8, a4_9⟩ : S34), l4_10, a4_11⟩ : S40)] : List (S40)))).bind fun t326 => (if t321 = true then (if t322 = true then (if t326 = true then (if (l0_0.length : Int) > 20 then (drydocklaw19_DeltaTells.j0 k a1 a2 l3 t321 true l0_0 a0_1 a4_0 a4_1 a4_2 a4_3 l4_4 l4_5 a4_6 a4_7 a4_8 a4_9 l4_10 a4_11) else (if (l3.length : Int) > 10 then (drydocklaw19_DeltaTells.j0 k a1 a2 l3 t321 true l0_0 a0_1 a4_0 a4_1 a4_2 a4_3 l4_4 l4_5 a4_6 a4_7 a4_8 a4_9 l4_10 a4_11) else (drydocklaw19_DeltaTells.j0 k a1 a2 l3 t321 (decide ((l4_5.length : Int) > 40)) l0_0 a0_1 a4_0 a4_1 a4_2 a4_3 l4_4 l4_5 a4_6 a4_7 a4_8 a4_9 l4_10 a4_11))) else (drydocklaw19_DeltaTells.j0 k a1 a2 l3 t321 true l0_0 a0_1 a4_0 a4_1 a4_2 a4_3 l4_4 l4_5 a4_6 a4_7 a4_8 a4_9 l4_10 a4_11)) else (drydocklaw19_DeltaTells.j0 k a1 a2 l3 t321 true l0_0 a0_1 a4_0 a4_1 a4_2 a4_3 l4_4 l4_5 a4_6 a4_7 a4_8 a4_9 l4_10 a4_11)) else (drydocklaw19_DeltaTells.j0 k a1 a2 l3 t321 true l0_0 a0_1 a4_0 a4_1 a4_2 a4_3 l4_4 l4_5 a4_6 a4_7 a4_8 a4_9 l4_10 a4_11)))) = some r := H
 have A6 := Aside0.mk A60
 clear A60
 replace H := Option.bind_eq_some_iff.mp H
 obtain ⟨t322, A70, H⟩ := H
 replace H : ((drydockref05_Few.f k (([(⟨(⟨a4_6, a4_7, a4_8, a4_9⟩ : S34), l4_10, a4_11⟩ : S40)] : List (S40)))).bind fun t326 => (if t321 = true then (if t322 = true then (if t326 = true then (if (l0_0.length : Int) > 20 then (drydocklaw19_DeltaTells.j0 k a1 a2 l3 t321 true l0_0 a0_1 a4_0 a4_1 a4_2 a4_3 l4_4 l4_5 a4_6 a4_7 a4_8 a4_9 l4_10 a4_11) else (if (l3.length : Int) > 10 then (drydocklaw19_DeltaTells.j0 k a1 a2 l3 t321 true l0_0 a0_1 a4_0 a4_1 a4_2 a4_3 l4_4 l4_5 a4_6 a4_7 a4_8 a4_9 l4_10 a4_11) else (drydocklaw19_DeltaTells.j0 k a1 a2 l3 t321 (decide ((l4_5.length : Int) > 40)) l0_0 a0_1 a4_0 a4_1 a4_2 a4_3 l4_4 l4_5 a4_6 a4_7 a4_8 a4_9 l4_10 a4_11))) else (drydocklaw19_DeltaTells.j0 k a1 a2 l3 t321 true l0_0 a0_1 a4_0 a4_1 a4_2 a4_3 l4_4 l4_5 a4_6 a4_7 a4_8 a4_9 l4_10 a4_11)) else (drydocklaw19_DeltaTells.j0 k a1 a2 l3 t321 true l0_0 a0_1 a4_0 a4_1 a4_2 a4_3 l4_4 l4_5 a4_6 a4_7 a4_8 a4_9 l4_10 a4_11)) else (drydocklaw19_DeltaTells.j0 k a1 a2 l3 t321 true l0_0 a0_1 a4_0 a4_1 a4_2 a4_3 l4_4 l4_5 a4_6 a4_7 a4_8 a4_9 l4_10 a4_11))) = some r := H
 have A7 := Aside0.mk A70
 clear A70
 obtain ⟨y323, hy323⟩ : ∃ y_ : List (S40), y_ = (([(⟨(⟨a4_6, a4_7, a4_8, a4_9⟩ : S34), l4_10, a4_11⟩ : S40)] : List (S40))) := ⟨_, rfl⟩
 replace H : ((drydockref05_Few.f k y323).bind fun t326 => (if t321 = true then (if t322 = true then (if t326 = true then (if (l0_0.length : Int) > 20 then (drydocklaw19_DeltaTells.j0 k a1 a2 l3 t321 true l0_0 a0_1 a4_0 a4_1 a4_2 a4_3 l4_4 l4_5 a4_6 a4_7 a4_8 a4_9 l4_10 a4_11) else (if (l3.length : Int) > 10 then (drydocklaw19_DeltaTells.j0 k a1 a2 l3 t321 true l0_0 a0_1 a4_0 a4_1 a4_2 a4_3 l4_4 l4_5 a4_6 a4_7 a4_8 a4_9 l4_10 a4_11) else (drydocklaw19_DeltaTells.j0 k a1 a2 l3 t321 (decide ((l4_5.length : Int) > 40)) l0_0 a0_1 a4_0 a4_1 a4_2 a4_3 l4_4 l4_5 a4_6 a4_7 a4_8 a4_9 l4_10 a4_11))) else (drydocklaw19_DeltaTells.j0 k a1 a2 l3 t321 true l0_0 a0_1 a4_0 a4_1 a4_2 a4_3 l4_4 l4_5 a4_6 a4_7 a4_8 a4_9 l4_10 a4_11)) else (drydocklaw19_DeltaTells.j0 k a1 a2 l3 t321 true l0_0 a0_1 a4_0 a4_1 a4_2 a4_3 l4_4 l4_5 a4_6 a4_7 a4_8 a4_9 l4_10 a4_11)) else (drydocklaw19_DeltaTells.j0 k a1 a2 l3 t321 true l0_0 a0_1 a4_0 a4_1 a4_2 a4_3 l4_4 l4_5 a4_6 a4_7 a4_8 a4_9 l4_10 a4_11))) = some r := by first | (rw [hy323]; with_reducible exact H) | (have H2_ := (Option.bind_some _ _).symm.trans H; rw [hy323]; with_reducible exact H2_) | (have H2_ := (Option.bind_some _ _).symm.trans H; with_reducible exact H2_) | with_reducible exact H | (rw [hy323]; exact H) | exact H
 have Ny323 := Aside0.mk hy323
 clear hy323
 replace H := Option.bind_eq_some_iff.mp H
 obtain ⟨t326, A80, H⟩ := H
 replace H : (if t321 = true then (if t322 = true then (if t326 = true then (if (l0_0.length : Int) > 20 then (drydocklaw19_DeltaTells.j0 k a1 a2 l3 t321 true l0_0 a0_1 a4_0 a4_1 a4_2 a4_3 l4_4 l4_5 a4_6 a4_7 a4_8 a4_9 l4_10 a4_11) else (if (l3.length : Int) > 10 then (drydocklaw19_DeltaTells.j0 k a1 a2 l3 t321 true l0_0 a0_1 a4_0 a4_1 a4_2 a4_3 l4_4 l4_5 a4_6 a4_7 a4_8 a4_9 l4_10 a4_11) else (drydocklaw19_DeltaTells.j0 k a1 a2 l3 t321 (decide ((l4_5.length : Int) > 40)) l0_0 a0_1 a4_0 a4_1 a4_2 a4_3 l4_4 l4_5 a4_6 a4_7 a4_8 a4_9 l4_10 a4_11))) else (drydocklaw19_DeltaTells.j0 k a1 a2 l3 t321 true l0_0 a0_1 a4_0 a4_1 a4_2 a4_3 l4_4 l4_5 a4_6 a4_7 a4_8 a4_9 l4_10 a4_11)) else (drydocklaw19_DeltaTells.j0 k a1 a2 l3 t321 true l0_0 a0_1 a4_0 a4_1 a4_2 a4_3 l4_4 l4_5 a4_6 a4_7 a4_8 a4_9 l4_10 a4_11)) else (drydocklaw19_DeltaTells.j0 k a1 a2 l3 t321 true l0_0 a0_1 a4_0 a4_1 a4_2 a4_3 l4_4 l4_5 a4_6 a4_7 a4_8 a4_9 l4_10 a4_11)) = some r := H
 have A8 := Aside0.mk A80
 clear A80
 have HC9 := Aside0.mk H
 clear H
 go_enter Try.func5, Try.ntmps5
 go_upto_region 4 with (first | ((with_reducible refine gate_dst (N := 5) rfl ?_); (try (refine gate_guard (by rfl) ?_; dsimp only)); refine box_event ?hg (N := 5) ?hd (cs := #[.slice A0_0 l0_0.length c0_0, .bool a0_1]) (t := 25) ?hr ?_; (case hd => rfl); (case hg => rfl); (case hr => first | (go_simp; done) | (go_simp; rfl)); intro gb319 hg w10 hbox hb; have n0_ := Aside0.mk (Kd.V_below (Kd.V_elderB (vk_ HO4_10) gb319 (Nat.le_of_eq hg.symm)) hb); have n1_ := Aside0.mk (below_step bs_ hb); have n2_ := Aside0.mk (hbox); have n3_ := Aside0.mk ((by rw [hg]; exact (below_size bs_) : w.heap.size ≤ gb319)); have n4_ := Aside0.mk ((by rw [hg]; exact (below_size bs_) : w.heap.size ≤ gb319)); clear HO4_10 HB; have HO4_10 := n0_; have HB := n1_; have BK319 := n2_; have GW319 := n3_; have GE319 := n4_; clear n0_ n1_ n2_ n3_ n4_; clear hb hbox hg) | ((with_reducible refine gate_dst (N := 9) rfl ?_); (try (refine gate_guard (by rfl) ?_; dsimp only)); refine box_event ?hg (N := 9) ?hd (cs := #[.int .i64 a4_0, .int .i64 a4_1, .int .i64 a4_2, .int .i64 a4_3, .slice A4_4 l4_4.length c4_4, .slice A4_5 l4_5.length c4_5, .int .i64 a4_6, .int .i64 a4_7, .int .i64 a4_8, .int .i64 a4_9, .slice A4_10 l4_10.length c4_10, .int .u32 a4_11]) (t := 42) ?hr ?_; (case hd => rfl); (case hg => rfl); (case hr => first | (go_simp; done) | (go_simp; rfl)); intro gb320 hg w11 hbox hb; have n0_ := Aside0.mk (Kd.V_below (Kd.V_elderB (vk_ HO4_10) gb320 (Nat.le_of_eq hg.symm)) hb); have n1_ := Aside0.mk (blk_below (bk_ BK319) hb); have n2_ := Aside0.mk (below_step bs_ hb); have n3_ := Aside0.mk (hbox); have n4_ := Aside0.mk ((by rw [hg]; exact (below_size bs_) : w.heap.size ≤ gb320)); have n5_ := Aside0.mk ((by rw [hg]; exact (below_size bs_) : w.heap.size ≤ gb320)); have n6_ := Aside0.mk ((by rw [hg]; exact Nat.ne_of_lt (blk_lt (bk_ BK319)) : gb319 ≠ gb320)); have n7_ := Aside0.mk ((by rw [hg]; exact Nat.ne_of_gt (blk_lt (bk_ BK319)) : gb320 ≠ gb319)); clear HO4_10 BK319 HB; have HO4_10 := n0_; have BK319 := n1_; have HB := n2_; have BK320 := n3_; have GW320 := n4_; have GE320 := n5_; have NB319_320 := n6_; have NB320_319 := n7_; clear n0_ n1_ n2_ n3_ n4_ n5_ n6_ n7_; clear hb hbox hg) | ((with_reducible refine gate_callee (f := 7) rfl ?_); refine goesL_ (some 29) rfl rfl Try.func7 (by kernel_rfl) rfl #[] rfl (by (try simp only [List.map_toArray, List.map_cons, List.map_nil]); first | done | rfl | (simp only [List.length_drop, List.length_take]; rfl)) ?_; (with_reducible refine (drydocklaw19_awake.calls k  t321 _ A6.out).mono ?_); rintro e w12 ⟨rfl, hb⟩; refine ⟨_, rfl, ?_⟩; have n0_ := Aside0.mk (Kd.V_below (vk_ HO4_10) hb); have n1_ := Aside0.mk (blk_below (bk_ BK319) hb); have n2_ := Aside0.mk (blk_below (bk_ BK320) hb); have n3_ := Aside0.mk (below_step bs_ hb); clear HO4_10 BK319 BK320 HB; have HO4_10 := n0_; have BK319 := n1_; have BK320 := n2_; have HB := n3_; clear n0_ n1_ n2_ n3_; (try clear hb); (try clear hb2); (try clear hk); (try clear hi); have hnb13 := NB320_319.out; have hnc13 := NB319_320.out; obtain ⟨hcz14_0, hcz14_1, hcz14_2, hcz14_3, hcz14_4, hcz14_5, hcz14_6, hcz14_7, hcz14_8, hcz14_9, hcz14_10, hcz14_11, hfz14_0, hfz14_1, hfz14_2, hfz14_3, hfz14_4, hfz14_5, hfz14_6, hfz14_7, hfz14_8, hfz14_9, hfz14_10, hfz14_11⟩ := blk12 BK320) | ((with_reducible refine gate_callee (f := 12) rfl ?_); refine goesL_ (some 32) rfl rfl Try.func12 (by kernel_rfl) rfl #[.agg #[.slice A4_4 l4_4.length c4_4]] rfl (by (try simp only [List.map_toArray, List.map_cons, List.map_nil]); first | done | rfl | (simp only [List.length_drop, List.length_take]; rfl)) ?_; (with_reducible refine (drydockref03_Few.calls k _ _ l4_4 t322 _ ?side1 ?side2 A7.out).mono ?_); (case side1 => repeat (first | exact (Kd.C_below HR4_4.out HB.out) | (with_reducible refine Kd.C_alloc ?_ _) | (with_reducible refine Kd.C_drewN ?_ _) | (with_reducible refine Kd.C_drew ?_))); (case side2 => exact HC4_4.out); rintro e w15 ⟨rfl, hb⟩; refine ⟨_, rfl, ?_⟩; have n0_ := Aside0.mk (Kd.V_below (vk_ HO4_10) hb); have n1_ := Aside0.mk (blk_below (bk_ BK319) hb); have n2_ := Aside0.mk (blk_below (bk_ BK320) hb); have n3_ := Aside0.mk (below_step bs_ hb); clear HO4_10 BK319 BK320 HB; have HO4_10 := n0_; have BK319 := n1_; have BK320 := n2_; have HB := n3_; clear n0_ n1_ n2_ n3_; (try clear hb); (try clear hb2); (try clear hk); (try clear hi); obtain ⟨hcz16_0, hcz16_1, hcz16_2, hcz16_3, hcz16_4, hcz16_5, hcz16_6, hcz16_7, hcz16_8, hcz16_9, hcz16_10, hcz16_11, hfz16_0, hfz16_1, hfz16_2, hfz16_3, hfz16_4, hfz16_5, hfz16_6, hfz16_7, hfz16_8, hfz16_9, hfz16_10, hfz16_11⟩ := blk12 BK320) | ((with_reducible refine gate_dst (N := 35) rfl ?_); (try (refine gate_guard (by rfl) ?_; dsimp only)); refine Kd.N_lit k40 _ 40 ?hg (N' := 35) ?hd (xs := ([(⟨(⟨a4_6, a4_7, a4_8, a4_9⟩ : S34), l4_10, a4_11⟩ : S40)] : List (S40))) (inner := [.int .i64 a4_6, .int .i64 a4_7, .int .i64 a4_8, .int .i64 a4_9, .slice A4_10 l4_10.length c4_10, .int .u32 a4_11]) (ok := (fun k_ => (P4_10_ k_ ∨ w.heap.size ≤ k_) ∧ k_ ≠ gb319 ∧ k_ ≠ gb320)) (okp := (fun k_ => (P4_10_ k_ ∨ w.heap.size ≤ k_) ∧ k_ ≠ gb319 ∧ k_ ≠ gb320)) ?hr ?hp (fun _ hk => hk) ((show ∀ k_, w15.heap.size ≤ k_ → (fun k_ => (P4_10_ k_ ∨ w.heap.size ≤ k_) ∧ k_ ≠ gb319 ∧ k_ ≠ gb320) k_ from fun k_ hk => ⟨(.inr (Nat.le_trans (below_size bs_) hk)), Kd.freshB (g := gb319) (o := .cells #[.slice A0_0 l0_0.length c0_0, .bool a0_1] 25 (0, 0)) (by (with_reducible repeat (first | refine blk_drewN ?_ _ | refine blk_drew ?_ | refine blk_alloc ?_ _)); exact BK319.out) k_ hk, Kd.freshB (g := gb320) (o := .cells #[.int .i64 a4_0, .int .i64 a4_1, .int .i64 a4_2, .int .i64 a4_3, .slice A4_4 l4_4.length c4_4, .slice A4_5 l4_5.length c4_5, .int .i64 a4_6, .int .i64 a4_7, .int .i64 a4_8, .int .i64 a4_9, .slice A4_10 l4_10.length c4_10, .int .u32 a4_11] 42 (0, 0)) (by (with_reducible repeat (first | refine blk_drewN ?_ _ | refine blk_drew ?_ | refine blk_alloc ?_ _)); exact BK320.out) k_ hk⟩) _ (Nat.le_refl _)) (Below.refl _ _) (Nat.le_refl _) (by simp) ?_; (case hd => rfl); (case hg => rfl); (case hr => first | (go_simp; done) | (go_simp; rfl)); (case hp => exact (Reps.c6 (show Kd.FK k40 _ _ (⟨(⟨a4_6, a4_7, a4_8, a4_9⟩ : S34), l4_10, a4_11⟩ : S40) [.int .i64 a4_6, .int .i64 a4_7, .int .i64 a4_8, .int .i64 a4_9, .slice A4_10 l4_10.length c4_10, .int .u32 a4_11] from (k40_mkF _ _ (⟨(⟨a4_6, a4_7, a4_8, a4_9⟩ : S34), l4_10, a4_11⟩ : S40) (Kd.V_reads' (Kd.V_mono (ok' := (fun k_ => (P4_10_ k_ ∨ w.heap.size ≤ k_) ∧ k_ ≠ gb319 ∧ k_ ≠ gb320)) (HO4_10.out) (fun k_ hk => ⟨hk.1.1, ⟨hk.1.2, hk.2⟩⟩))).2.1 (Kd.V_F (Kd.V_mono (ok' := (fun k_ => (P4_10_ k_ ∨ w.heap.size ≤ k_) ∧ k_ ≠ gb319 ∧ k_ ≠ gb320)) (HO4_10.out) (fun k_ hk => ⟨hk.1.1, ⟨hk.1.2, hk.2⟩⟩))))) (Reps.none _ _))); intro v324 w17 ho18 hb hg_ hnew_; clear hg_ hnew_; (first | rw [← Ny323.out] at ho18 | (simp only [Int.reduceToNat] at ho18; rw [← Ny323.out] at ho18)); have n0_ := Aside0.mk (Kd.V_elder' (vk_ HO4_10) (Kd.N_base ho18) hb); have n1_ := Aside0.mk (Kd.N_lower ho18 (below_size bs_)); have n2_ := Aside0.mk (blk_below (bk_ BK319) hb); have n3_ := Aside0.mk (blk_below (bk_ BK320) hb); have n4_ := Aside0.mk (below_step bs_ hb); clear HO4_10 BK319 BK320 HB; have HO4_10 := n0_; have HO325 := n1_; have BK319 := n2_; have BK320 := n3_; have HB := n4_; clear n0_ n1_ n2_ n3_ n4_; clear hb ho18; obtain ⟨Ao19, co19, eo19⟩ := Kd.N_slice HO325.out; subst eo19) | ((with_reducible refine gate_callee (f := 13) rfl ?_); refine goesL_ (some 36) rfl rfl Try.func13 (by kernel_rfl) rfl #[.slice Ao19 y323.length co19] rfl (by (try simp only [List.map_toArray, List.map_cons, List.map_nil]); first | done | rfl | (simp only [List.length_drop, List.length_take]; rfl)) ?_; (with_reducible refine (drydockref05_Few.calls k _ _ y323 t326 _ ?side1 ?side2 A8.out).mono ?_); (case side1 => repeat (first | exact (Kd.N_reads' HO325.out).2.2 | (with_reducible refine Kd.C_alloc ?_ _) | (with_reducible refine Kd.C_drewN ?_ _) | (with_reducible refine Kd.C_drew ?_))); (case side2 => exact (Kd.N_reads' HO325.out).2.1); rintro e w' ⟨rfl, ⟨nd, rfl⟩⟩; refine ⟨_, rfl, ?_⟩))
 (try simp only [Act.put, List.setIfInBounds_toArray, List.set_cons_zero, List.set_cons_succ])
 go_cut [63] (fun v63 wc => ∃ (kq : Nat) (x63_8 : Bool), v63 = .bool x63_8 ∧ Aside0 (drydocklaw19_DeltaTells.j0 kq a1 a2 l3 t321 x63_8 l0_0 a0_1 a4_0 a4_1 a4_2 a4_3 l4_4 l4_5 a4_6 a4_7 a4_8 a4_9 l4_10 a4_11 = some r) ∧ Aside0 (kq ≤ k) ∧ Aside0 (Kd.V k63 63 wc w.heap.size (fun k_ => (P4_10_ k_ ∨ w.heap.size ≤ k_) ∧ k_ ≠ gb319 ∧ k_ ≠ gb320) (.slice A4_10 l4_10.length c4_10) l4_10) ∧ Aside0 (wc.heap[gb319]? = some (.cells #[(.slice A0_0 l0_0.length c0_0), .bool a0_1] 25 (0, 0))) ∧ Aside0 (wc.heap[gb320]? = some (.cells #[.int .i64 a4_0, .int .i64 a4_1, .int .i64 a4_2, .int .i64 a4_3, (.slice A4_4 l4_4.length c4_4), (.slice A4_5 l4_5.length c4_5), .int .i64 a4_6, .int .i64 a4_7, .int .i64 a4_8, .int .i64 a4_9, (.slice A4_10 l4_10.length c4_10), .int .u32 a4_11] 42 (0, 0))) ∧ Aside0 (Below w.heap.size w wc))
 case first =>
  have H := HC9.out
  clear HC9
  by_cases c20 : t321 = true
  ·subst c20
   have H1 : (if t322 = true then (if t326 = true then (if (l0_0.length : Int) > 20 then (drydocklaw19_DeltaTells.j0 k a1 a2 l3 true true l0_0 a0_1 a4_0 a4_1 a4_2 a4_3 l4_4 l4_5 a4_6 a4_7 a4_8 a4_9 l4_10 a4_11) else (if (l3.length : Int) > 10 then (drydocklaw19_DeltaTells.j0 k a1 a2 l3 true true l0_0 a0_1 a4_0 a4_1 a4_2 a4_3 l4_4 l4_5 a4_6 a4_7 a4_8 a4_9 l4_10 a4_11) else (drydocklaw19_DeltaTells.j0 k a1 a2 l3 true (decide ((l4_5.length : Int) > 40)) l0_0 a0_1 a4_0 a4_1 a4_2 a4_3 l4_4 l4_5 a4_6 a4_7 a4_8 a4_9 l4_10 a4_11))) else (drydocklaw19_DeltaTells.j0 k a1 a2 l3 true true l0_0 a0_1 a4_0 a4_1 a4_2 a4_3 l4_4 l4_5 a4_6 a4_7 a4_8 a4_9 l4_10 a4_11)) else (drydocklaw19_DeltaTells.j0 k a1 a2 l3 true true l0_0 a0_1 a4_0 a4_1 a4_2 a4_3 l4_4 l4_5 a4_6 a4_7 a4_8 a4_9 l4_10 a4_11)) = some r := by rw [if_pos rfl] at H; exact H
   clear H
   have H := H1
   clear H1
   by_cases c21 : t322 = true
   ·subst c21
    have H1 : (if t326 = true then (if (l0_0.length : Int) > 20 then (drydocklaw19_DeltaTells.j0 k a1 a2 l3 true true l0_0 a0_1 a4_0 a4_1 a4_2 a4_3 l4_4 l4_5 a4_6 a4_7 a4_8 a4_9 l4_10 a4_11) else (if (l3.length : Int) > 10 then (drydocklaw19_DeltaTells.j0 k a1 a2 l3 true true l0_0 a0_1 a4_0 a4_1 a4_2 a4_3 l4_4 l4_5 a4_6 a4_7 a4_8 a4_9 l4_10 a4_11) else (drydocklaw19_DeltaTells.j0 k a1 a2 l3 true (decide ((l4_5.length : Int) > 40)) l0_0 a0_1 a4_0 a4_1 a4_2 a4_3 l4_4 l4_5 a4_6 a4_7 a4_8 a4_9 l4_10 a4_11))) else (drydocklaw19_DeltaTells.j0 k a1 a2 l3 true true l0_0 a0_1 a4_0 a4_1 a4_2 a4_3 l4_4 l4_5 a4_6 a4_7 a4_8 a4_9 l4_10 a4_11)) = some r := by rw [if_pos rfl] at H; exact H
    clear H
    have H := H1
    clear H1
    by_cases c22 : t326 = true
    ·subst c22
     have H1 : (if (l0_0.length : Int) > 20 then (drydocklaw19_DeltaTells.j0 k a1 a2 l3 true true l0_0 a0_1 a4_0 a4_1 a4_2 a4_3 l4_4 l4_5 a4_6 a4_7 a4_8 a4_9 l4_10 a4_11) else (if (l3.length : Int) > 10 then (drydocklaw19_DeltaTells.j0 k a1 a2 l3 true true l0_0 a0_1 a4_0 a4_1 a4_2 a4_3 l4_4 l4_5 a4_6 a4_7 a4_8 a4_9 l4_10 a4_11) else (drydocklaw19_DeltaTells.j0 k a1 a2 l3 true (decide ((l4_5.length : Int) > 40)) l0_0 a0_1 a4_0 a4_1 a4_2 a4_3 l4_4 l4_5 a4_6 a4_7 a4_8 a4_9 l4_10 a4_11))) = some r := by rw [if_pos rfl] at H; exact H
     clear H
     have H := H1
     clear H1
     by_cases c23 : (l0_0.length : Int) > 20
     ·rw [if_pos c23] at H
      have c23b0 : decide (20 < (l0_0.length : Int)) = true := decide_eq_true c23
      have c23b1 : decide (20 < l0_0.length) = true := decide_eq_true (by omega)
      clear c23
      (first | rw [c23b0] | (simp only [i64_w, i32_w]; rw [c23b0]) | skip)
      have H' := Aside0.mk H
      clear H
      have hnb24 := NB319_320.out
      have hnc24 := NB320_319.out
      obtain ⟨hcz25_0, hcz25_1, hfz25_0, hfz25_1⟩ := blk2 BK319
      go_wp2
      go_meet
      case rel => exact ⟨_, (true), eq_, H', ⟨by first | omega | exact Nat.le_refl _⟩, ⟨by (with_reducible repeat (first | apply Kd.V_alloc | apply Kd.V_drewN | apply Kd.V_drew)); exact Kd.V_mono HO4_10.out (fun _ hk => ⟨hk.1.1.1, ⟨hk.1.1.2, hk.1.2⟩⟩)⟩, ⟨bk_ BK319⟩, ⟨bk_ BK320⟩, ⟨bs_⟩⟩
     ·rw [if_neg c23] at H
      have c23b0 : decide (20 < (l0_0.length : Int)) = false := decide_eq_false c23
      have c23b1 : decide (20 < l0_0.length) = false := decide_eq_false (by omega)
      clear c23
      (first | rw [c23b0] | (simp only [i64_w, i32_w]; rw [c23b0]) | skip)
      by_cases c26 : (l3.length : Int) > 10
      ·rw [if_pos c26] at H
       have c26b0 : decide (10 < (l3.length : Int)) = true := decide_eq_true c26
       have c26b1 : decide (10 < l3.length) = true := decide_eq_true (by omega)
       clear c26
       have H' := Aside0.mk H
       clear H
       have hnb27 := NB319_320.out
       have hnc27 := NB320_319.out
       obtain ⟨hcz28_0, hcz28_1, hfz28_0, hfz28_1⟩ := blk2 BK319
       go_wp2
       go_meet
       case rel => exact ⟨_, (true), eq_, H', ⟨by first | omega | exact Nat.le_refl _⟩, ⟨by (with_reducible repeat (first | apply Kd.V_alloc | apply Kd.V_drewN | apply Kd.V_drew)); exact Kd.V_mono HO4_10.out (fun _ hk => ⟨hk.1.1.1, ⟨hk.1.1.2, hk.1.2⟩⟩)⟩, ⟨bk_ BK319⟩, ⟨bk_ BK320⟩, ⟨bs_⟩⟩
      ·rw [if_neg c26] at H
       have c26b0 : decide (10 < (l3.length : Int)) = false := decide_eq_false c26
       have c26b1 : decide (10 < l3.length) = false := decide_eq_false (by omega)
       clear c26
       have H' := Aside0.mk H
       clear H
       have hnb29 := NB319_320.out
       have hnc29 := NB320_319.out
       obtain ⟨hcz30_0, hcz30_1, hfz30_0, hfz30_1⟩ := blk2 BK319
       obtain ⟨hcz31_0, hcz31_1, hcz31_2, hcz31_3, hcz31_4, hcz31_5, hcz31_6, hcz31_7, hcz31_8, hcz31_9, hcz31_10, hcz31_11, hfz31_0, hfz31_1, hfz31_2, hfz31_3, hfz31_4, hfz31_5, hfz31_6, hfz31_7, hfz31_8, hfz31_9, hfz31_10, hfz31_11⟩ := blk12 BK320
       go_wp2
       go_meet
       case rel => exact ⟨_, (decide ((l4_5.length : Int) > 40)), eq_, H', ⟨by first | omega | exact Nat.le_refl _⟩, ⟨by (with_reducible repeat (first | apply Kd.V_alloc | apply Kd.V_drewN | apply Kd.V_drew)); exact Kd.V_mono HO4_10.out (fun _ hk => ⟨hk.1.1.1, ⟨hk.1.1.2, hk.1.2⟩⟩)⟩, ⟨bk_ BK319⟩, ⟨bk_ BK320⟩, ⟨bs_⟩⟩
    ·replace c22 := Bool.eq_false_iff.mpr c22
     subst c22
     have H1 : (drydocklaw19_DeltaTells.j0 k a1 a2 l3 true true l0_0 a0_1 a4_0 a4_1 a4_2 a4_3 l4_4 l4_5 a4_6 a4_7 a4_8 a4_9 l4_10 a4_11) = some r := by rw [if_neg (show ¬ (false = true) by decide)] at H; exact H
     clear H
     have H := H1
     clear H1
     have H' := Aside0.mk H
     clear H
     go_wp2
     go_meet
     case rel => exact ⟨_, (true), eq_, H', ⟨by first | omega | exact Nat.le_refl _⟩, ⟨by (with_reducible repeat (first | apply Kd.V_alloc | apply Kd.V_drewN | apply Kd.V_drew)); exact Kd.V_mono HO4_10.out (fun _ hk => ⟨hk.1.1.1, ⟨hk.1.1.2, hk.1.2⟩⟩)⟩, ⟨bk_ BK319⟩, ⟨bk_ BK320⟩, ⟨bs_⟩⟩
   ·replace c21 := Bool.eq_false_iff.mpr c21
    subst c21
    have H1 : (drydocklaw19_DeltaTells.j0 k a1 a2 l3 true true l0_0 a0_1 a4_0 a4_1 a4_2 a4_3 l4_4 l4_5 a4_6 a4_7 a4_8 a4_9 l4_10 a4_11) = some r := by rw [if_neg (show ¬ (false = true) by decide)] at H; exact H
    clear H
    have H := H1
    clear H1
    have H' := Aside0.mk H
    clear H
    go_wp2
    go_meet
    case rel => exact ⟨_, (true), eq_, H', ⟨by first | omega | exact Nat.le_refl _⟩, ⟨by (with_reducible repeat (first | apply Kd.V_alloc | apply Kd.V_drewN | apply Kd.V_drew)); exact Kd.V_mono HO4_10.out (fun _ hk => ⟨hk.1.1.1, ⟨hk.1.1.2, hk.1.2⟩⟩)⟩, ⟨bk_ BK319⟩, ⟨bk_ BK320⟩, ⟨bs_⟩⟩
  ·replace c20 := Bool.eq_false_iff.mpr c20
   subst c20
   have H1 : (drydocklaw19_DeltaTells.j0 k a1 a2 l3 false true l0_0 a0_1 a4_0 a4_1 a4_2 a4_3 l4_4 l4_5 a4_6 a4_7 a4_8 a4_9 l4_10 a4_11) = some r := by rw [if_neg (show ¬ (false = true) by decide)] at H; exact H
   clear H
   have H := H1
   clear H1
   have H' := Aside0.mk H
   clear H
   go_wp2
   go_meet
   case rel => exact ⟨_, (true), eq_, H', ⟨by first | omega | exact Nat.le_refl _⟩, ⟨by (with_reducible repeat (first | apply Kd.V_alloc | apply Kd.V_drewN | apply Kd.V_drew)); exact Kd.V_mono HO4_10.out (fun _ hk => ⟨hk.1.1.1, ⟨hk.1.1.2, hk.1.2⟩⟩)⟩, ⟨bk_ BK319⟩, ⟨bk_ BK320⟩, ⟨bs_⟩⟩
 case rest =>
  clear HC9
  try clear c6
  try clear hcz14_0
  try clear hcz14_1
  try clear hcz14_10
  try clear hcz14_11
  try clear hcz14_2
  try clear hcz14_3
  try clear hcz14_4
  try clear hcz14_5
  try clear hcz14_6
  try clear hcz14_7
  try clear hcz14_8
  try clear hcz14_9
  try clear hcz16_0
  try clear hcz16_1
  try clear hcz16_10
  try clear hcz16_11
  try clear hcz16_2
  try clear hcz16_3
  try clear hcz16_4
  try clear hcz16_5
  try clear hcz16_6
  try clear hcz16_7
  try clear hcz16_8
  try clear hcz16_9
  try clear hfz14_0
  try clear hfz14_1
  try clear hfz14_10
  try clear hfz14_11
  try clear hfz14_2
  try clear hfz14_3
  try clear hfz14_4
  try clear hfz14_5
  try clear hfz14_6
  try clear hfz14_7
  try clear hfz14_8
  try clear hfz14_9
  try clear hfz16_0
  try clear hfz16_1
  try clear hfz16_10
  try clear hfz16_11
  try clear hfz16_2
  try clear hfz16_3
  try clear hfz16_4
  try clear hfz16_5
  try clear hfz16_6
  try clear hfz16_7
  try clear hfz16_8
  try clear hfz16_9
  obtain ⟨kq, x63_8, rfl, HA, HJ8, HO_321010, BK319, BK320, HB⟩ := hcut
  cases kq with
  | zero => exact absurd HA.out (by simp [drydocklaw19_DeltaTells.j0])
  | succ kj8 =>
   have H := HA.out
   clear HA
   simp only [drydocklaw19_DeltaTells.j0] at H
   by_cases c32 : x63_8 = true
   ·subst c32
    have H1 : (some t321) = some r := by rw [if_pos rfl] at H; exact H
    clear H
    have H := H1
    clear H1
    obtain rfl := Option.some.inj H
    go_wp2
    go_ret
    exact ⟨by first | rfl | (simp [errW_none, errW_some] <;> rfl) | (simp [*, errW_none, errW_some] <;> rfl), by repeat (first | (with_reducible first | exact HB.out | apply below_alloc | apply pw_below_drewN | apply below_drew1 | refine below_set ?_ GE319.out | refine below_set ?_ GE320.out) | exact HB.out)⟩
   ·replace c32 := Bool.eq_false_iff.mpr c32
    subst c32
    have H1 : ((drydockref18_Own.f kj8 a4_0 a4_1 a4_2 a4_3 l4_4 l4_5 a4_6 a4_7 a4_8 a4_9 l4_10 a4_11).bind fun bt327 => ((delta_Note.f kj8 l0_0 a0_1 a1).bind fun bt346 => ((drydockref19_Note.f kj8 l0_0 a0_1 a1).bind fun bt350 => ((drydockref19_Same.f kj8 bt346.1 bt346.2 bt350.1 bt350.2).bind fun t354 => ((delta_Of.f a2 l3).bind fun bt355 => ((drydockref19_Of.f kj8 a2 l3).bind fun bt358 => ((delta_Put.f l0_0 a0_1 a4_0 a4_1 a4_2 a4_3 l4_4 l4_5 a4_6 a4_7 a4_8 a4_9 l4_10 a4_11).bind fun bt361 => ((drydockref19_Put.f kj8 l0_0 a0_1 a4_0 a4_1 a4_2 a4_3 l4_4 l4_5 a4_6 a4_7 a4_8 a4_9 l4_10 a4_11).bind fun bt386 => ((drydockref19_Same.f kj8 bt361.1 bt361.2.1 bt386.1 bt386.2.1).bind fun t411 => (if t411 = true then ((drydockref18_Same.f kj8 bt361.2.2.1 bt361.2.2.2.1 bt361.2.2.2.2.1 bt361.2.2.2.2.2.1 bt361.2.2.2.2.2.2.1 bt361.2.2.2.2.2.2.2.1 bt361.2.2.2.2.2.2.2.2.1 bt361.2.2.2.2.2.2.2.2.2.1 bt361.2.2.2.2.2.2.2.2.2.2.1 bt361.2.2.2.2.2.2.2.2.2.2.2.1 bt361.2.2.2.2.2.2.2.2.2.2.2.2.1 bt361.2.2.2.2.2.2.2.2.2.2.2.2.2.1 bt386.2.2.1 bt386.2.2.2.1 bt386.2.2.2.2.1 bt386.2.2.2.2.2.1 bt386.2.2.2.2.2.2.1 bt386.2.2.2.2.2.2.2.1 bt386.2.2.2.2.2.2.2.2.1 bt386.2.2.2.2.2.2.2.2.2.1 bt386.2.2.2.2.2.2.2.2.2.2.1 bt386.2.2.2.2.2.2.2.2.2.2.2.1 bt386.2.2.2.2.2.2.2.2.2.2.2.2.1 bt386.2.2.2.2.2.2.2.2.2.2.2.2.2.1).bind fun t412 => (if t412 = true then (if t354 = true then (if bt355.1 = bt358.1 then (if bt355.2.1 = bt358.2.1 then (if (bt355.2.2 == bt358.2.2) = true then (if bt361.2.2.2.2.2.2.2.2.2.2.2.2.2.2 = bt386.2.2.2.2.2.2.2.2.2.2.2.2.2.2 then ((drydockref18_Same.f kj8 a4_0 a4_1 a4_2 a4_3 l4_4 l4_5 a4_6 a4_7 a4_8 a4_9 l4_10 a4_11 bt327.1 bt327.2.1 bt327.2.2.1 bt327.2.2.2.1 bt327.2.2.2.2.1 bt327.2.2.2.2.2.1 bt327.2.2.2.2.2.2.1 bt327.2.2.2.2.2.2.2.1 bt327.2.2.2.2.2.2.2.2.1 bt327.2.2.2.2.2.2.2.2.2.1 bt327.2.2.2.2.2.2.2.2.2.2.1 bt327.2.2.2.2.2.2.2.2.2.2.2).bind fun t413 => (if t413 = true then ((delta_May.f kj8 l0_0 a0_1).bind fun t414 => ((drydockref19_May.f kj8 l0_0 a0_1).bind fun t415 => (some (t414 == t415)))) else (none))) else (none)) else (none)) else (none)) else (none)) else (none)) else (none))) else (none))))))))))) = some r := by rw [if_neg (show ¬ (false = true) by decide)] at H; exact H
    clear H
    have H := H1
    clear H1
    replace H := Option.bind_eq_some_iff.mp H
    obtain ⟨⟨t327, t328, t329, t330, t331, t334, t337, t338, t339, t340, t341, t344⟩, A330, H⟩ := H
    replace H : ((delta_Note.f kj8 l0_0 a0_1 a1).bind fun bt346 => ((drydockref19_Note.f kj8 l0_0 a0_1 a1).bind fun bt350 => ((drydockref19_Same.f kj8 bt346.1 bt346.2 bt350.1 bt350.2).bind fun t354 => ((delta_Of.f a2 l3).bind fun bt355 => ((drydockref19_Of.f kj8 a2 l3).bind fun bt358 => ((delta_Put.f l0_0 a0_1 a4_0 a4_1 a4_2 a4_3 l4_4 l4_5 a4_6 a4_7 a4_8 a4_9 l4_10 a4_11).bind fun bt361 => ((drydockref19_Put.f kj8 l0_0 a0_1 a4_0 a4_1 a4_2 a4_3 l4_4 l4_5 a4_6 a4_7 a4_8 a4_9 l4_10 a4_11).bind fun bt386 => ((drydockref19_Same.f kj8 bt361.1 bt361.2.1 bt386.1 bt386.2.1).bind fun t411 => (if t411 = true then ((drydockref18_Same.f kj8 bt361.2.2.1 bt361.2.2.2.1 bt361.2.2.2.2.1 bt361.2.2.2.2.2.1 bt361.2.2.2.2.2.2.1 bt361.2.2.2.2.2.2.2.1 bt361.2.2.2.2.2.2.2.2.1 bt361.2.2.2.2.2.2.2.2.2.1 bt361.2.2.2.2.2.2.2.2.2.2.1 bt361.2.2.2.2.2.2.2.2.2.2.2.1 bt361.2.2.2.2.2.2.2.2.2.2.2.2.1 bt361.2.2.2.2.2.2.2.2.2.2.2.2.2.1 bt386.2.2.1 bt386.2.2.2.1 bt386.2.2.2.2.1 bt386.2.2.2.2.2.1 bt386.2.2.2.2.2.2.1 bt386.2.2.2.2.2.2.2.1 bt386.2.2.2.2.2.2.2.2.1 bt386.2.2.2.2.2.2.2.2.2.1 bt386.2.2.2.2.2.2.2.2.2.2.1 bt386.2.2.2.2.2.2.2.2.2.2.2.1 bt386.2.2.2.2.2.2.2.2.2.2.2.2.1 bt386.2.2.2.2.2.2.2.2.2.2.2.2.2.1).bind fun t412 => (if t412 = true then (if t354 = true then (if bt355.1 = bt358.1 then (if bt355.2.1 = bt358.2.1 then (if (bt355.2.2 == bt358.2.2) = true then (if bt361.2.2.2.2.2.2.2.2.2.2.2.2.2.2 = bt386.2.2.2.2.2.2.2.2.2.2.2.2.2.2 then ((drydockref18_Same.f kj8 a4_0 a4_1 a4_2 a4_3 l4_4 l4_5 a4_6 a4_7 a4_8 a4_9 l4_10 a4_11 t327 t328 t329 t330 t331 t334 t337 t338 t339 t340 t341 t344).bind fun t413 => (if t413 = true then ((delta_May.f kj8 l0_0 a0_1).bind fun t414 => ((drydockref19_May.f kj8 l0_0 a0_1).bind fun t415 => (some (t414 == t415)))) else (none))) else (none)) else (none)) else (none)) else (none)) else (none)) else (none))) else (none)))))))))) = some r := H
    have A33 := Aside0.mk A330
    clear A330
    replace H := Option.bind_eq_some_iff.mp H
    obtain ⟨⟨t346, t349⟩, A340, H⟩ := H
    replace H : ((drydockref19_Note.f kj8 l0_0 a0_1 a1).bind fun bt350 => ((drydockref19_Same.f kj8 t346 t349 bt350.1 bt350.2).bind fun t354 => ((delta_Of.f a2 l3).bind fun bt355 => ((drydockref19_Of.f kj8 a2 l3).bind fun bt358 => ((delta_Put.f l0_0 a0_1 a4_0 a4_1 a4_2 a4_3 l4_4 l4_5 a4_6 a4_7 a4_8 a4_9 l4_10 a4_11).bind fun bt361 => ((drydockref19_Put.f kj8 l0_0 a0_1 a4_0 a4_1 a4_2 a4_3 l4_4 l4_5 a4_6 a4_7 a4_8 a4_9 l4_10 a4_11).bind fun bt386 => ((drydockref19_Same.f kj8 bt361.1 bt361.2.1 bt386.1 bt386.2.1).bind fun t411 => (if t411 = true then ((drydockref18_Same.f kj8 bt361.2.2.1 bt361.2.2.2.1 bt361.2.2.2.2.1 bt361.2.2.2.2.2.1 bt361.2.2.2.2.2.2.1 bt361.2.2.2.2.2.2.2.1 bt361.2.2.2.2.2.2.2.2.1 bt361.2.2.2.2.2.2.2.2.2.1 bt361.2.2.2.2.2.2.2.2.2.2.1 bt361.2.2.2.2.2.2.2.2.2.2.2.1 bt361.2.2.2.2.2.2.2.2.2.2.2.2.1 bt361.2.2.2.2.2.2.2.2.2.2.2.2.2.1 bt386.2.2.1 bt386.2.2.2.1 bt386.2.2.2.2.1 bt386.2.2.2.2.2.1 bt386.2.2.2.2.2.2.1 bt386.2.2.2.2.2.2.2.1 bt386.2.2.2.2.2.2.2.2.1 bt386.2.2.2.2.2.2.2.2.2.1 bt386.2.2.2.2.2.2.2.2.2.2.1 bt386.2.2.2.2.2.2.2.2.2.2.2.1 bt386.2.2.2.2.2.2.2.2.2.2.2.2.1 bt386.2.2.2.2.2.2.2.2.2.2.2.2.2.1).bind fun t412 => (if t412 = true then (if t354 = true then (if bt355.1 = bt358.1 then (if bt355.2.1 = bt358.2.1 then (if (bt355.2.2 == bt358.2.2) = true then (if bt361.2.2.2.2.2.2.2.2.2.2.2.2.2.2 = bt386.2.2.2.2.2.2.2.2.2.2.2.2.2.2 then ((drydockref18_Same.f kj8 a4_0 a4_1 a4_2 a4_3 l4_4 l4_5 a4_6 a4_7 a4_8 a4_9 l4_10 a4_11 t327 t328 t329 t330 t331 t334 t337 t338 t339 t340 t341 t344).bind fun t413 => (if t413 = true then ((delta_May.f kj8 l0_0 a0_1).bind fun t414 => ((drydockref19_May.f kj8 l0_0 a0_1).bind fun t415 => (some (t414 == t415)))) else (none))) else (none)) else (none)) else (none)) else (none)) else (none)) else (none))) else (none))))))))) = some r := H
    have A34 := Aside0.mk A340
    clear A340
    replace H := Option.bind_eq_some_iff.mp H
    obtain ⟨⟨t350, t353⟩, A350, H⟩ := H
    replace H : ((drydockref19_Same.f kj8 t346 t349 t350 t353).bind fun t354 => ((delta_Of.f a2 l3).bind fun bt355 => ((drydockref19_Of.f kj8 a2 l3).bind fun bt358 => ((delta_Put.f l0_0 a0_1 a4_0 a4_1 a4_2 a4_3 l4_4 l4_5 a4_6 a4_7 a4_8 a4_9 l4_10 a4_11).bind fun bt361 => ((drydockref19_Put.f kj8 l0_0 a0_1 a4_0 a4_1 a4_2 a4_3 l4_4 l4_5 a4_6 a4_7 a4_8 a4_9 l4_10 a4_11).bind fun bt386 => ((drydockref19_Same.f kj8 bt361.1 bt361.2.1 bt386.1 bt386.2.1).bind fun t411 => (if t411 = true then ((drydockref18_Same.f kj8 bt361.2.2.1 bt361.2.2.2.1 bt361.2.2.2.2.1 bt361.2.2.2.2.2.1 bt361.2.2.2.2.2.2.1 bt361.2.2.2.2.2.2.2.1 bt361.2.2.2.2.2.2.2.2.1 bt361.2.2.2.2.2.2.2.2.2.1 bt361.2.2.2.2.2.2.2.2.2.2.1 bt361.2.2.2.2.2.2.2.2.2.2.2.1 bt361.2.2.2.2.2.2.2.2.2.2.2.2.1 bt361.2.2.2.2.2.2.2.2.2.2.2.2.2.1 bt386.2.2.1 bt386.2.2.2.1 bt386.2.2.2.2.1 bt386.2.2.2.2.2.1 bt386.2.2.2.2.2.2.1 bt386.2.2.2.2.2.2.2.1 bt386.2.2.2.2.2.2.2.2.1 bt386.2.2.2.2.2.2.2.2.2.1 bt386.2.2.2.2.2.2.2.2.2.2.1 bt386.2.2.2.2.2.2.2.2.2.2.2.1 bt386.2.2.2.2.2.2.2.2.2.2.2.2.1 bt386.2.2.2.2.2.2.2.2.2.2.2.2.2.1).bind fun t412 => (if t412 = true then (if t354 = true then (if bt355.1 = bt358.1 then (if bt355.2.1 = bt358.2.1 then (if (bt355.2.2 == bt358.2.2) = true then (if bt361.2.2.2.2.2.2.2.2.2.2.2.2.2.2 = bt386.2.2.2.2.2.2.2.2.2.2.2.2.2.2 then ((drydockref18_Same.f kj8 a4_0 a4_1 a4_2 a4_3 l4_4 l4_5 a4_6 a4_7 a4_8 a4_9 l4_10 a4_11 t327 t328 t329 t330 t331 t334 t337 t338 t339 t340 t341 t344).bind fun t413 => (if t413 = true then ((delta_May.f kj8 l0_0 a0_1).bind fun t414 => ((drydockref19_May.f kj8 l0_0 a0_1).bind fun t415 => (some (t414 == t415)))) else (none))) else (none)) else (none)) else (none)) else (none)) else (none)) else (none))) else (none)))))))) = some r := H
    have A35 := Aside0.mk A350
    clear A350
    replace H := Option.bind_eq_some_iff.mp H
    obtain ⟨t354, A360, H⟩ := H
    replace H : ((delta_Of.f a2 l3).bind fun bt355 => ((drydockref19_Of.f kj8 a2 l3).bind fun bt358 => ((delta_Put.f l0_0 a0_1 a4_0 a4_1 a4_2 a4_3 l4_4 l4_5 a4_6 a4_7 a4_8 a4_9 l4_10 a4_11).bind fun bt361 => ((drydockref19_Put.f kj8 l0_0 a0_1 a4_0 a4_1 a4_2 a4_3 l4_4 l4_5 a4_6 a4_7 a4_8 a4_9 l4_10 a4_11).bind fun bt386 => ((drydockref19_Same.f kj8 bt361.1 bt361.2.1 bt386.1 bt386.2.1).bind fun t411 => (if t411 = true then ((drydockref18_Same.f kj8 bt361.2.2.1 bt361.2.2.2.1 bt361.2.2.2.2.1 bt361.2.2.2.2.2.1 bt361.2.2.2.2.2.2.1 bt361.2.2.2.2.2.2.2.1 bt361.2.2.2.2.2.2.2.2.1 bt361.2.2.2.2.2.2.2.2.2.1 bt361.2.2.2.2.2.2.2.2.2.2.1 bt361.2.2.2.2.2.2.2.2.2.2.2.1 bt361.2.2.2.2.2.2.2.2.2.2.2.2.1 bt361.2.2.2.2.2.2.2.2.2.2.2.2.2.1 bt386.2.2.1 bt386.2.2.2.1 bt386.2.2.2.2.1 bt386.2.2.2.2.2.1 bt386.2.2.2.2.2.2.1 bt386.2.2.2.2.2.2.2.1 bt386.2.2.2.2.2.2.2.2.1 bt386.2.2.2.2.2.2.2.2.2.1 bt386.2.2.2.2.2.2.2.2.2.2.1 bt386.2.2.2.2.2.2.2.2.2.2.2.1 bt386.2.2.2.2.2.2.2.2.2.2.2.2.1 bt386.2.2.2.2.2.2.2.2.2.2.2.2.2.1).bind fun t412 => (if t412 = true then (if t354 = true then (if bt355.1 = bt358.1 then (if bt355.2.1 = bt358.2.1 then (if (bt355.2.2 == bt358.2.2) = true then (if bt361.2.2.2.2.2.2.2.2.2.2.2.2.2.2 = bt386.2.2.2.2.2.2.2.2.2.2.2.2.2.2 then ((drydockref18_Same.f kj8 a4_0 a4_1 a4_2 a4_3 l4_4 l4_5 a4_6 a4_7 a4_8 a4_9 l4_10 a4_11 t327 t328 t329 t330 t331 t334 t337 t338 t339 t340 t341 t344).bind fun t413 => (if t413 = true then ((delta_May.f kj8 l0_0 a0_1).bind fun t414 => ((drydockref19_May.f kj8 l0_0 a0_1).bind fun t415 => (some (t414 == t415)))) else (none))) else (none)) else (none)) else (none)) else (none)) else (none)) else (none))) else (none))))))) = some r := H
    have A36 := Aside0.mk A360
    clear A360
    replace H := Option.bind_eq_some_iff.mp H
    obtain ⟨⟨t355, t356, t357⟩, A370, H⟩ := H
    replace H : ((drydockref19_Of.f kj8 a2 l3).bind fun bt358 => ((delta_Put.f l0_0 a0_1 a4_0 a4_1 a4_2 a4_3 l4_4 l4_5 a4_6 a4_7 a4_8 a4_9 l4_10 a4_11).bind fun bt361 => ((drydockref19_Put.f kj8 l0_0 a0_1 a4_0 a4_1 a4_2 a4_3 l4_4 l4_5 a4_6 a4_7 a4_8 a4_9 l4_10 a4_11).bind fun bt386 => ((drydockref19_Same.f kj8 bt361.1 bt361.2.1 bt386.1 bt386.2.1).bind fun t411 => (if t411 = true then ((drydockref18_Same.f kj8 bt361.2.2.1 bt361.2.2.2.1 bt361.2.2.2.2.1 bt361.2.2.2.2.2.1 bt361.2.2.2.2.2.2.1 bt361.2.2.2.2.2.2.2.1 bt361.2.2.2.2.2.2.2.2.1 bt361.2.2.2.2.2.2.2.2.2.1 bt361.2.2.2.2.2.2.2.2.2.2.1 bt361.2.2.2.2.2.2.2.2.2.2.2.1 bt361.2.2.2.2.2.2.2.2.2.2.2.2.1 bt361.2.2.2.2.2.2.2.2.2.2.2.2.2.1 bt386.2.2.1 bt386.2.2.2.1 bt386.2.2.2.2.1 bt386.2.2.2.2.2.1 bt386.2.2.2.2.2.2.1 bt386.2.2.2.2.2.2.2.1 bt386.2.2.2.2.2.2.2.2.1 bt386.2.2.2.2.2.2.2.2.2.1 bt386.2.2.2.2.2.2.2.2.2.2.1 bt386.2.2.2.2.2.2.2.2.2.2.2.1 bt386.2.2.2.2.2.2.2.2.2.2.2.2.1 bt386.2.2.2.2.2.2.2.2.2.2.2.2.2.1).bind fun t412 => (if t412 = true then (if t354 = true then (if t355 = bt358.1 then (if t356 = bt358.2.1 then (if (t357 == bt358.2.2) = true then (if bt361.2.2.2.2.2.2.2.2.2.2.2.2.2.2 = bt386.2.2.2.2.2.2.2.2.2.2.2.2.2.2 then ((drydockref18_Same.f kj8 a4_0 a4_1 a4_2 a4_3 l4_4 l4_5 a4_6 a4_7 a4_8 a4_9 l4_10 a4_11 t327 t328 t329 t330 t331 t334 t337 t338 t339 t340 t341 t344).bind fun t413 => (if t413 = true then ((delta_May.f kj8 l0_0 a0_1).bind fun t414 => ((drydockref19_May.f kj8 l0_0 a0_1).bind fun t415 => (some (t414 == t415)))) else (none))) else (none)) else (none)) else (none)) else (none)) else (none)) else (none))) else (none)))))) = some r := H
    have A37 := Aside0.mk A370
    clear A370
    replace H := Option.bind_eq_some_iff.mp H
    obtain ⟨⟨t358, t359, t360⟩, A380, H⟩ := H
    replace H : ((delta_Put.f l0_0 a0_1 a4_0 a4_1 a4_2 a4_3 l4_4 l4_5 a4_6 a4_7 a4_8 a4_9 l4_10 a4_11).bind fun bt361 => ((drydockref19_Put.f kj8 l0_0 a0_1 a4_0 a4_1 a4_2 a4_3 l4_4 l4_5 a4_6 a4_7 a4_8 a4_9 l4_10 a4_11).bind fun bt386 => ((drydockref19_Same.f kj8 bt361.1 bt361.2.1 bt386.1 bt386.2.1).bind fun t411 => (if t411 = true then ((drydockref18_Same.f kj8 bt361.2.2.1 bt361.2.2.2.1 bt361.2.2.2.2.1 bt361.2.2.2.2.2.1 bt361.2.2.2.2.2.2.1 bt361.2.2.2.2.2.2.2.1 bt361.2.2.2.2.2.2.2.2.1 bt361.2.2.2.2.2.2.2.2.2.1 bt361.2.2.2.2.2.2.2.2.2.2.1 bt361.2.2.2.2.2.2.2.2.2.2.2.1 bt361.2.2.2.2.2.2.2.2.2.2.2.2.1 bt361.2.2.2.2.2.2.2.2.2.2.2.2.2.1 bt386.2.2.1 bt386.2.2.2.1 bt386.2.2.2.2.1 bt386.2.2.2.2.2.1 bt386.2.2.2.2.2.2.1 bt386.2.2.2.2.2.2.2.1 bt386.2.2.2.2.2.2.2.2.1 bt386.2.2.2.2.2.2.2.2.2.1 bt386.2.2.2.2.2.2.2.2.2.2.1 bt386.2.2.2.2.2.2.2.2.2.2.2.1 bt386.2.2.2.2.2.2.2.2.2.2.2.2.1 bt386.2.2.2.2.2.2.2.2.2.2.2.2.2.1).bind fun t412 => (if t412 = true then (if t354 = true then (if t355 = t358 then (if t356 = t359 then (if (t357 == t360) = true then (if bt361.2.2.2.2.2.2.2.2.2.2.2.2.2.2 = bt386.2.2.2.2.2.2.2.2.2.2.2.2.2.2 then ((drydockref18_Same.f kj8 a4_0 a4_1 a4_2 a4_3 l4_4 l4_5 a4_6 a4_7 a4_8 a4_9 l4_10 a4_11 t327 t328 t329 t330 t331 t334 t337 t338 t339 t340 t341 t344).bind fun t413 => (if t413 = true then ((delta_May.f kj8 l0_0 a0_1).bind fun t414 => ((drydockref19_May.f kj8 l0_0 a0_1).bind fun t415 => (some (t414 == t415)))) else (none))) else (none)) else (none)) else (none)) else (none)) else (none)) else (none))) else (none))))) = some r := H
    have A38 := Aside0.mk A380
    clear A380
    replace H := Option.bind_eq_some_iff.mp H
    obtain ⟨⟨t361, t364, t365, t366, t367, t368, t369, t372, t375, t376, t377, t378, t379, t382, t383⟩, A390, H⟩ := H
    replace H : ((drydockref19_Put.f kj8 l0_0 a0_1 a4_0 a4_1 a4_2 a4_3 l4_4 l4_5 a4_6 a4_7 a4_8 a4_9 l4_10 a4_11).bind fun bt386 => ((drydockref19_Same.f kj8 t361 t364 bt386.1 bt386.2.1).bind fun t411 => (if t411 = true then ((drydockref18_Same.f kj8 t365 t366 t367 t368 t369 t372 t375 t376 t377 t378 t379 t382 bt386.2.2.1 bt386.2.2.2.1 bt386.2.2.2.2.1 bt386.2.2.2.2.2.1 bt386.2.2.2.2.2.2.1 bt386.2.2.2.2.2.2.2.1 bt386.2.2.2.2.2.2.2.2.1 bt386.2.2.2.2.2.2.2.2.2.1 bt386.2.2.2.2.2.2.2.2.2.2.1 bt386.2.2.2.2.2.2.2.2.2.2.2.1 bt386.2.2.2.2.2.2.2.2.2.2.2.2.1 bt386.2.2.2.2.2.2.2.2.2.2.2.2.2.1).bind fun t412 => (if t412 = true then (if t354 = true then (if t355 = t358 then (if t356 = t359 then (if (t357 == t360) = true then (if t383 = bt386.2.2.2.2.2.2.2.2.2.2.2.2.2.2 then ((drydockref18_Same.f kj8 a4_0 a4_1 a4_2 a4_3 l4_4 l4_5 a4_6 a4_7 a4_8 a4_9 l4_10 a4_11 t327 t328 t329 t330 t331 t334 t337 t338 t339 t340 t341 t344).bind fun t413 => (if t413 = true then ((delta_May.f kj8 l0_0 a0_1).bind fun t414 => ((drydockref19_May.f kj8 l0_0 a0_1).bind fun t415 => (some (t414 == t415)))) else (none))) else (none)) else (none)) else (none)) else (none)) else (none)) else (none))) else (none)))) = some r := H
    have A39 := Aside0.mk A390
    clear A390
    replace H := Option.bind_eq_some_iff.mp H
    obtain ⟨⟨t386, t389, t390, t391, t392, t393, t394, t397, t400, t401, t402, t403, t404, t407, t408⟩, A400, H⟩ := H
    replace H : ((drydockref19_Same.f kj8 t361 t364 t386 t389).bind fun t411 => (if t411 = true then ((drydockref18_Same.f kj8 t365 t366 t367 t368 t369 t372 t375 t376 t377 t378 t379 t382 t390 t391 t392 t393 t394 t397 t400 t401 t402 t403 t404 t407).bind fun t412 => (if t412 = true then (if t354 = true then (if t355 = t358 then (if t356 = t359 then (if (t357 == t360) = true then (if t383 = t408 then ((drydockref18_Same.f kj8 a4_0 a4_1 a4_2 a4_3 l4_4 l4_5 a4_6 a4_7 a4_8 a4_9 l4_10 a4_11 t327 t328 t329 t330 t331 t334 t337 t338 t339 t340 t341 t344).bind fun t413 => (if t413 = true then ((delta_May.f kj8 l0_0 a0_1).bind fun t414 => ((drydockref19_May.f kj8 l0_0 a0_1).bind fun t415 => (some (t414 == t415)))) else (none))) else (none)) else (none)) else (none)) else (none)) else (none)) else (none))) else (none))) = some r := H
    have A40 := Aside0.mk A400
    clear A400
    replace H := Option.bind_eq_some_iff.mp H
    obtain ⟨t411, A410, H⟩ := H
    replace H : (if t411 = true then ((drydockref18_Same.f kj8 t365 t366 t367 t368 t369 t372 t375 t376 t377 t378 t379 t382 t390 t391 t392 t393 t394 t397 t400 t401 t402 t403 t404 t407).bind fun t412 => (if t412 = true then (if t354 = true then (if t355 = t358 then (if t356 = t359 then (if (t357 == t360) = true then (if t383 = t408 then ((drydockref18_Same.f kj8 a4_0 a4_1 a4_2 a4_3 l4_4 l4_5 a4_6 a4_7 a4_8 a4_9 l4_10 a4_11 t327 t328 t329 t330 t331 t334 t337 t338 t339 t340 t341 t344).bind fun t413 => (if t413 = true then ((delta_May.f kj8 l0_0 a0_1).bind fun t414 => ((drydockref19_May.f kj8 l0_0 a0_1).bind fun t415 => (some (t414 == t415)))) else (none))) else (none)) else (none)) else (none)) else (none)) else (none)) else (none))) else (none)) = some r := H
    have A41 := Aside0.mk A410
    clear A410
    by_cases c42 : t411 = true
    ·subst c42
     have H1 : ((drydockref18_Same.f kj8 t365 t366 t367 t368 t369 t372 t375 t376 t377 t378 t379 t382 t390 t391 t392 t393 t394 t397 t400 t401 t402 t403 t404 t407).bind fun t412 => (if t412 = true then (if t354 = true then (if t355 = t358 then (if t356 = t359 then (if (t357 == t360) = true then (if t383 = t408 then ((drydockref18_Same.f kj8 a4_0 a4_1 a4_2 a4_3 l4_4 l4_5 a4_6 a4_7 a4_8 a4_9 l4_10 a4_11 t327 t328 t329 t330 t331 t334 t337 t338 t339 t340 t341 t344).bind fun t413 => (if t413 = true then ((delta_May.f kj8 l0_0 a0_1).bind fun t414 => ((drydockref19_May.f kj8 l0_0 a0_1).bind fun t415 => (some (t414 == t415)))) else (none))) else (none)) else (none)) else (none)) else (none)) else (none)) else (none))) = some r := by rw [if_pos rfl] at H; exact H
     clear H
     have H := H1
     clear H1
     replace H := Option.bind_eq_some_iff.mp H
     obtain ⟨t412, A430, H⟩ := H
     replace H : (if t412 = true then (if t354 = true then (if t355 = t358 then (if t356 = t359 then (if (t357 == t360) = true then (if t383 = t408 then ((drydockref18_Same.f kj8 a4_0 a4_1 a4_2 a4_3 l4_4 l4_5 a4_6 a4_7 a4_8 a4_9 l4_10 a4_11 t327 t328 t329 t330 t331 t334 t337 t338 t339 t340 t341 t344).bind fun t413 => (if t413 = true then ((delta_May.f kj8 l0_0 a0_1).bind fun t414 => ((drydockref19_May.f kj8 l0_0 a0_1).bind fun t415 => (some (t414 == t415)))) else (none))) else (none)) else (none)) else (none)) else (none)) else (none)) else (none)) = some r := H
     have A43 := Aside0.mk A430
     clear A430
     by_cases c44 : t412 = true
     ·subst c44
      have H1 : (if t354 = true then (if t355 = t358 then (if t356 = t359 then (if (t357 == t360) = true then (if t383 = t408 then ((drydockref18_Same.f kj8 a4_0 a4_1 a4_2 a4_3 l4_4 l4_5 a4_6 a4_7 a4_8 a4_9 l4_10 a4_11 t327 t328 t329 t330 t331 t334 t337 t338 t339 t340 t341 t344).bind fun t413 => (if t413 = true then ((delta_May.f kj8 l0_0 a0_1).bind fun t414 => ((drydockref19_May.f kj8 l0_0 a0_1).bind fun t415 => (some (t414 == t415)))) else (none))) else (none)) else (none)) else (none)) else (none)) else (none)) = some r := by rw [if_pos rfl] at H; exact H
      clear H
      have H := H1
      clear H1
      by_cases c45 : t354 = true
      ·subst c45
       have H1 : (if t355 = t358 then (if t356 = t359 then (if (t357 == t360) = true then (if t383 = t408 then ((drydockref18_Same.f kj8 a4_0 a4_1 a4_2 a4_3 l4_4 l4_5 a4_6 a4_7 a4_8 a4_9 l4_10 a4_11 t327 t328 t329 t330 t331 t334 t337 t338 t339 t340 t341 t344).bind fun t413 => (if t413 = true then ((delta_May.f kj8 l0_0 a0_1).bind fun t414 => ((drydockref19_May.f kj8 l0_0 a0_1).bind fun t415 => (some (t414 == t415)))) else (none))) else (none)) else (none)) else (none)) else (none)) = some r := by rw [if_pos rfl] at H; exact H
       clear H
       have H := H1
       clear H1
       by_cases c46 : t355 = t358
       ·rw [if_pos c46] at H
        have c46b0 : (t355 == t358) = true := beq_iff_eq.mpr c46
        have c46b1 : (t355 != t358) = false := bne_eq_false_iff_eq.mpr c46
        clear c46
        by_cases c47 : t356 = t359
        ·rw [if_pos c47] at H
         have c47b0 : (t356 == t359) = true := beq_iff_eq.mpr c47
         have c47b1 : (t356 != t359) = false := bne_eq_false_iff_eq.mpr c47
         clear c47
         by_cases c48 : (t357 == t360) = true
         ·rw [if_pos c48] at H
          have c48b0 : (t357 == t360) = true := c48
          (try (have c48b1 : decide (t357 = t360) = true := by simpa using c48))
          (try (have c48b2 : (t357 == t360) = true := by simpa using c48))
          clear c48
          by_cases c49 : t383 = t408
          ·rw [if_pos c49] at H
           have c49b0 : (t383 == t408) = true := beq_iff_eq.mpr c49
           have c49b1 : (t383 != t408) = false := bne_eq_false_iff_eq.mpr c49
           clear c49
           replace H := Option.bind_eq_some_iff.mp H
           obtain ⟨t413, A500, H⟩ := H
           replace H : (if t413 = true then ((delta_May.f kj8 l0_0 a0_1).bind fun t414 => ((drydockref19_May.f kj8 l0_0 a0_1).bind fun t415 => (some (t414 == t415)))) else (none)) = some r := H
           have A50 := Aside0.mk A500
           clear A500
           by_cases c51 : t413 = true
           ·subst c51
            have H1 : ((delta_May.f kj8 l0_0 a0_1).bind fun t414 => ((drydockref19_May.f kj8 l0_0 a0_1).bind fun t415 => (some (t414 == t415)))) = some r := by rw [if_pos rfl] at H; exact H
            clear H
            have H := H1
            clear H1
            replace H := Option.bind_eq_some_iff.mp H
            obtain ⟨t414, A520, H⟩ := H
            replace H : ((drydockref19_May.f kj8 l0_0 a0_1).bind fun t415 => (some (t414 == t415))) = some r := H
            have A52 := Aside0.mk A520
            clear A520
            replace H := Option.bind_eq_some_iff.mp H
            obtain ⟨t415, A530, H⟩ := H
            replace H : (some (t414 == t415)) = some r := H
            have A53 := Aside0.mk A530
            clear A530
            obtain rfl := Option.some.inj H
            have hnb54 := NB320_319.out
            have hnc54 := NB319_320.out
            obtain ⟨hcz55_0, hcz55_1, hcz55_2, hcz55_3, hcz55_4, hcz55_5, hcz55_6, hcz55_7, hcz55_8, hcz55_9, hcz55_10, hcz55_11, hfz55_0, hfz55_1, hfz55_2, hfz55_3, hfz55_4, hfz55_5, hfz55_6, hfz55_7, hfz55_8, hfz55_9, hfz55_10, hfz55_11⟩ := blk12 BK320
            try go_wp2_with (first | ((with_reducible refine gate_callee (f := 14) rfl ?_); refine goesL_ (some 66) rfl rfl Try.func14 (by kernel_rfl) rfl #[.agg #[.int .i64 a4_0, .int .i64 a4_1, .int .i64 a4_2, .int .i64 a4_3, .slice A4_4 l4_4.length c4_4, .slice A4_5 l4_5.length c4_5, .int .i64 a4_6, .int .i64 a4_7, .int .i64 a4_8, .int .i64 a4_9, .slice A4_10 l4_10.length c4_10, .int .u32 a4_11]] rfl (by (try simp only [List.map_toArray, List.map_cons, List.map_nil]); first | done | rfl | (simp only [List.length_drop, List.length_take]; rfl)) ?_; (with_reducible refine (drydockref18_Own.calls kj8 a4_0 a4_1 a4_2 a4_3 _ _ l4_4 _ _ l4_5 a4_6 a4_7 a4_8 a4_9 _ _ l4_10 a4_11 t327 t328 t329 t330 t331 t334 t337 t338 t339 t340 t341 t344 _ ?side1 ?side2 ?side3 ?side4 ?side5 ?side6 A33.out).mono ?_); (case side1 => repeat (first | exact (Kd.C_below HR4_4.out HB.out) | (with_reducible refine Kd.C_alloc ?_ _) | (with_reducible refine Kd.C_drewN ?_ _) | (with_reducible refine Kd.C_drew ?_))); (case side2 => exact HC4_4.out); (case side3 => repeat (first | exact (Kd.C_below HR4_5.out HB.out) | (with_reducible refine Kd.C_alloc ?_ _) | (with_reducible refine Kd.C_drewN ?_ _) | (with_reducible refine Kd.C_drew ?_))); (case side4 => exact HC4_5.out); (case side5 => repeat (first | exact (Kd.V_reads' HO_321010.out).2.2 | (with_reducible refine Kd.C_alloc ?_ _) | (with_reducible refine Kd.C_drewN ?_ _) | (with_reducible refine Kd.C_drew ?_))); (case side6 => exact HCX_.out); rintro e w56 ⟨v332, v335, v342, rfl, ho0, ho1, ho2, hb⟩; refine ⟨_, rfl, ?_⟩; have n0_ := Aside0.mk (Kd.V_mono (Kd.V_told (Kd.V_told (Kd.V_told (Kd.V_old (vk_ HO_321010) hb) (by first | exact Kd.S_base ho0 | exact Kd.N_base ho0)) (Kd.R_base ho1)) (by first | exact Kd.S_base ho2 | exact Kd.N_base ho2)) (fun _ h_ => h_.1)); have n1_ := Aside0.mk (Kd.N_lower (Kd.N_mono (ok' := fun k_ => (P4_10_ k_ ∨ w.heap.size ≤ k_) ∧ some k_ ≠ (v335 : Value).ownBlock ∧ some k_ ≠ (v342 : Value).ownBlock ∧ k_ ≠ gb319 ∧ k_ ≠ gb320) (Kd.S_N (Kd.S_bound (Kd.S_apart' (Kd.S_apart' ho0 (Kd.R_typed ho1) (by decide)) (Kd.S_typed ho2) (by decide)))) (fun k_ hk_ => ⟨(.inr (Nat.le_trans (below_size bs_) hk_.2.1)), hk_.1.1.2, hk_.1.2, (Kd.freshB (g := gb319) (o := .cells #[.slice A0_0 l0_0.length c0_0, .bool a0_1] 25 (0, 0)) (by (with_reducible repeat (first | refine blk_drewN ?_ _ | refine blk_drew ?_ | refine blk_alloc ?_ _)); exact BK319.out) k_ hk_.2.1), (Kd.freshB (g := gb320) (o := .cells #[.int .i64 a4_0, .int .i64 a4_1, .int .i64 a4_2, .int .i64 a4_3, .slice A4_4 l4_4.length c4_4, .slice A4_5 l4_5.length c4_5, .int .i64 a4_6, .int .i64 a4_7, .int .i64 a4_8, .int .i64 a4_9, .slice A4_10 l4_10.length c4_10, .int .u32 a4_11] 42 (0, 0)) (by (with_reducible repeat (first | refine blk_drewN ?_ _ | refine blk_drew ?_ | refine blk_alloc ?_ _)); exact BK320.out) k_ hk_.2.1)⟩)) (below_size bs_)); have n2_ := Aside0.mk (Kd.R_lower (Kd.R_newM (M := fun k_ => (w.heap.size ≤ k_)) ho1 (below_size bs_) (fun k_ h_ => h_)) (below_size bs_)); have n3_ := Aside0.mk (Kd.N_lower (Kd.N_mono (ok' := fun k_ => (P4_10_ k_ ∨ w.heap.size ≤ k_) ∧ some k_ ≠ (v332 : Value).ownBlock ∧ some k_ ≠ (v335 : Value).ownBlock ∧ k_ ≠ gb319 ∧ k_ ≠ gb320) (Kd.S_N (Kd.S_bound (Kd.S_apart' ho2 (Kd.S_typed ho0) (by decide)))) (fun k_ hk_ => ⟨(.inr (Nat.le_trans (below_size bs_) hk_.2.1)), hk_.1.2, hk_.1.1, (Kd.freshB (g := gb319) (o := .cells #[.slice A0_0 l0_0.length c0_0, .bool a0_1] 25 (0, 0)) (by (with_reducible repeat (first | refine blk_drewN ?_ _ | refine blk_drew ?_ | refine blk_alloc ?_ _)); exact BK319.out) k_ hk_.2.1), (Kd.freshB (g := gb320) (o := .cells #[.int .i64 a4_0, .int .i64 a4_1, .int .i64 a4_2, .int .i64 a4_3, .slice A4_4 l4_4.length c4_4, .slice A4_5 l4_5.length c4_5, .int .i64 a4_6, .int .i64 a4_7, .int .i64 a4_8, .int .i64 a4_9, .slice A4_10 l4_10.length c4_10, .int .u32 a4_11] 42 (0, 0)) (by (with_reducible repeat (first | refine blk_drewN ?_ _ | refine blk_drew ?_ | refine blk_alloc ?_ _)); exact BK320.out) k_ hk_.2.1)⟩)) (below_size bs_)); have n4_ := Aside0.mk (blk_below (bk_ BK319) hb); have n5_ := Aside0.mk (blk_below (bk_ BK320) hb); have n6_ := Aside0.mk (below_step bs_ hb); clear HO_321010 BK319 BK320 HB; have HO_321010 := n0_; have HO333 := n1_; have HO336 := n2_; have HO343 := n3_; have BK319 := n4_; have BK320 := n5_; have HB := n6_; clear n0_ n1_ n2_ n3_ n4_ n5_ n6_; (try clear hb); (try clear hb2); (try clear hk); (try clear hi); (try clear ho0); (try clear ho1); (try clear ho2); obtain ⟨Ao57, co57, eo57⟩ := Kd.N_slice HO343.out; subst eo57; obtain ⟨Ao58, co58, eo58⟩ := Kd.R_slice HO336.out; subst eo58; obtain ⟨Ao59, co59, eo59⟩ := Kd.N_slice HO333.out; subst eo59) | ((with_reducible refine gate_dst (N := 14) rfl ?_); (try (refine gate_guard (by rfl) ?_; dsimp only)); refine box_event ?hg (N := 14) ?hd (cs := #[.int .i64 0, .int .i64 0, .int .i64 0, .int .i64 0, .slice none 0 0, .slice none 0 0, .int .i64 0, .int .i64 0, .int .i64 0, .int .i64 0, .slice none 0 0, .int .u32 0]) (t := 42) ?hr ?_; (case hd => rfl); (case hg => rfl); (case hr => first | (go_simp; done) | (go_simp; rfl)); intro gb345 hg w60 hbox hb; have n0_ := Aside0.mk (Kd.V_below (Kd.V_elderB (vk_ HO_321010) gb345 (Nat.le_of_eq hg.symm)) hb); have n1_ := Aside0.mk (Kd.N_below (Kd.N_elderB (nk_ HO333) gb345 (Nat.le_of_eq hg.symm)) hb); have n2_ := Aside0.mk (Kd.R_below (rk_ HO336) hb); have n3_ := Aside0.mk (Kd.N_below (Kd.N_elderB (nk_ HO343) gb345 (Nat.le_of_eq hg.symm)) hb); have n4_ := Aside0.mk (blk_below (bk_ BK319) hb); have n5_ := Aside0.mk (blk_below (bk_ BK320) hb); have n6_ := Aside0.mk (below_step bs_ hb); have n7_ := Aside0.mk (hbox); have n8_ := Aside0.mk ((by rw [hg]; exact (below_size bs_) : w.heap.size ≤ gb345)); have n9_ := Aside0.mk ((by rw [hg]; exact (below_size bs_) : w.heap.size ≤ gb345)); have n10_ := Aside0.mk ((by rw [hg]; exact Nat.ne_of_lt (blk_lt (bk_ BK319)) : gb319 ≠ gb345)); have n11_ := Aside0.mk ((by rw [hg]; exact Nat.ne_of_gt (blk_lt (bk_ BK319)) : gb345 ≠ gb319)); have n12_ := Aside0.mk ((by rw [hg]; exact Nat.ne_of_lt (blk_lt (bk_ BK320)) : gb320 ≠ gb345)); have n13_ := Aside0.mk ((by rw [hg]; exact Nat.ne_of_gt (blk_lt (bk_ BK320)) : gb345 ≠ gb320)); clear HO_321010 HO333 HO336 HO343 BK319 BK320 HB; have HO_321010 := n0_; have HO333 := n1_; have HO336 := n2_; have HO343 := n3_; have BK319 := n4_; have BK320 := n5_; have HB := n6_; have BK345 := n7_; have GW345 := n8_; have GE345 := n9_; have NB319_345 := n10_; have NB345_319 := n11_; have NB320_345 := n12_; have NB345_320 := n13_; clear n0_ n1_ n2_ n3_ n4_ n5_ n6_ n7_ n8_ n9_ n10_ n11_ n12_ n13_; clear hb hbox hg; have hnb61 := NB345_319.out; have hnc61 := NB319_345.out; have hnb62 := NB345_320.out; have hnc62 := NB320_345.out; obtain ⟨hcz63_0, hcz63_1, hcz63_2, hcz63_3, hcz63_4, hcz63_5, hcz63_6, hcz63_7, hcz63_8, hcz63_9, hcz63_10, hcz63_11, hfz63_0, hfz63_1, hfz63_2, hfz63_3, hfz63_4, hfz63_5, hfz63_6, hfz63_7, hfz63_8, hfz63_9, hfz63_10, hfz63_11⟩ := blk12 BK345))
            have n0_ : Aside0 (Kd.V k63 63 ((((((((((((w60.setCell ⟨gb345, 0, none⟩ (.int .i64 t327)).setCell ⟨gb345, 1, none⟩ (.int .i64 t328)).setCell ⟨gb345, 2, none⟩ (.int .i64 t329)).setCell ⟨gb345, 3, none⟩ (.int .i64 t330)).setCell ⟨gb345, 4, none⟩ (.slice Ao59 t331.length co59)).setCell ⟨gb345, 5, none⟩ (.slice Ao58 t334.length co58)).setCell ⟨gb345, 6, none⟩ (.int .i64 t337)).setCell ⟨gb345, 7, none⟩ (.int .i64 t338)).setCell ⟨gb345, 8, none⟩ (.int .i64 t339)).setCell ⟨gb345, 9, none⟩ (.int .i64 t340)).setCell ⟨gb345, 10, none⟩ (.slice Ao57 t341.length co57)).setCell ⟨gb345, 11, none⟩ (.int .u32 t344)) w.heap.size (fun k_ => (P4_10_ k_ ∨ w.heap.size ≤ k_) ∧ some k_ ≠ (.slice Ao59 t331.length co59 : Value).ownBlock ∧ some k_ ≠ (.slice Ao58 t334.length co58 : Value).ownBlock ∧ some k_ ≠ (.slice Ao57 t341.length co57 : Value).ownBlock ∧ k_ ≠ gb319 ∧ k_ ≠ gb320 ∧ k_ ≠ gb345) (.slice A4_10 l4_10.length c4_10) l4_10) := ⟨by (with_reducible repeat (first | apply Kd.V_alloc | apply Kd.V_drewN | apply Kd.V_drew)); exact Kd.V_mono (far12V gb345 (Kd.V_mono HO_321010.out (fun k_ hk => (⟨hk, hk.2⟩ : _ ∧ k_ ≠ gb345))) (fun _ hk => hk.2)) (fun _ hk => ⟨hk.1.1.1.1.1.1, ⟨hk.1.1.1.1.2, ⟨hk.1.1.1.2, ⟨hk.1.1.2, ⟨hk.1.1.1.1.1.2.1, ⟨hk.1.1.1.1.1.2.2, hk.1.2⟩⟩⟩⟩⟩⟩)⟩
            have n1_ : Aside0 (Kd.N k61 61 ((((((((((((w60.setCell ⟨gb345, 0, none⟩ (.int .i64 t327)).setCell ⟨gb345, 1, none⟩ (.int .i64 t328)).setCell ⟨gb345, 2, none⟩ (.int .i64 t329)).setCell ⟨gb345, 3, none⟩ (.int .i64 t330)).setCell ⟨gb345, 4, none⟩ (.slice Ao59 t331.length co59)).setCell ⟨gb345, 5, none⟩ (.slice Ao58 t334.length co58)).setCell ⟨gb345, 6, none⟩ (.int .i64 t337)).setCell ⟨gb345, 7, none⟩ (.int .i64 t338)).setCell ⟨gb345, 8, none⟩ (.int .i64 t339)).setCell ⟨gb345, 9, none⟩ (.int .i64 t340)).setCell ⟨gb345, 10, none⟩ (.slice Ao57 t341.length co57)).setCell ⟨gb345, 11, none⟩ (.int .u32 t344)) w.heap.size (fun k_ => (P4_10_ k_ ∨ w.heap.size ≤ k_) ∧ some k_ ≠ (.slice Ao58 t334.length co58 : Value).ownBlock ∧ some k_ ≠ (.slice Ao57 t341.length co57 : Value).ownBlock ∧ k_ ≠ gb319 ∧ k_ ≠ gb320 ∧ k_ ≠ gb345) (.slice Ao59 t331.length co59) t331) := ⟨by (with_reducible repeat (first | apply Kd.N_alloc | apply Kd.N_drewN | apply Kd.N_drew)); exact Kd.N_mono (far12N gb345 (Kd.N_mono HO333.out (fun k_ hk => (⟨hk, hk.2⟩ : _ ∧ k_ ≠ gb345))) (fun _ hk => hk.2)) (fun _ hk => ⟨hk.1.1.1, ⟨hk.1.1.2.1, ⟨hk.1.1.2.2.1, ⟨hk.1.1.2.2.2.1, ⟨hk.1.1.2.2.2.2, hk.1.2⟩⟩⟩⟩⟩)⟩
            have n2_ : Aside0 (Kd.R (Kd.int .u32) 27 ((((((((((((w60.setCell ⟨gb345, 0, none⟩ (.int .i64 t327)).setCell ⟨gb345, 1, none⟩ (.int .i64 t328)).setCell ⟨gb345, 2, none⟩ (.int .i64 t329)).setCell ⟨gb345, 3, none⟩ (.int .i64 t330)).setCell ⟨gb345, 4, none⟩ (.slice Ao59 t331.length co59)).setCell ⟨gb345, 5, none⟩ (.slice Ao58 t334.length co58)).setCell ⟨gb345, 6, none⟩ (.int .i64 t337)).setCell ⟨gb345, 7, none⟩ (.int .i64 t338)).setCell ⟨gb345, 8, none⟩ (.int .i64 t339)).setCell ⟨gb345, 9, none⟩ (.int .i64 t340)).setCell ⟨gb345, 10, none⟩ (.slice Ao57 t341.length co57)).setCell ⟨gb345, 11, none⟩ (.int .u32 t344)) w.heap.size (fun k_ => (w.heap.size ≤ k_)) (.slice Ao58 t334.length co58) t334) := ⟨by (with_reducible repeat (first | apply Kd.R_alloc | apply Kd.R_drewN | apply Kd.R_drew)); exact Kd.R_mono (far12 gb345 (Kd.R_types HO336.out BK345.out (by decide)) (fun _ hk => hk.2)) (fun _ hk => hk.1.1)⟩
            have n3_ : Aside0 (Kd.N k63 63 ((((((((((((w60.setCell ⟨gb345, 0, none⟩ (.int .i64 t327)).setCell ⟨gb345, 1, none⟩ (.int .i64 t328)).setCell ⟨gb345, 2, none⟩ (.int .i64 t329)).setCell ⟨gb345, 3, none⟩ (.int .i64 t330)).setCell ⟨gb345, 4, none⟩ (.slice Ao59 t331.length co59)).setCell ⟨gb345, 5, none⟩ (.slice Ao58 t334.length co58)).setCell ⟨gb345, 6, none⟩ (.int .i64 t337)).setCell ⟨gb345, 7, none⟩ (.int .i64 t338)).setCell ⟨gb345, 8, none⟩ (.int .i64 t339)).setCell ⟨gb345, 9, none⟩ (.int .i64 t340)).setCell ⟨gb345, 10, none⟩ (.slice Ao57 t341.length co57)).setCell ⟨gb345, 11, none⟩ (.int .u32 t344)) w.heap.size (fun k_ => (P4_10_ k_ ∨ w.heap.size ≤ k_) ∧ some k_ ≠ (.slice Ao59 t331.length co59 : Value).ownBlock ∧ some k_ ≠ (.slice Ao58 t334.length co58 : Value).ownBlock ∧ k_ ≠ gb319 ∧ k_ ≠ gb320 ∧ k_ ≠ gb345) (.slice Ao57 t341.length co57) t341) := ⟨by (with_reducible repeat (first | apply Kd.N_alloc | apply Kd.N_drewN | apply Kd.N_drew)); exact Kd.N_mono (far12N gb345 (Kd.N_mono HO343.out (fun k_ hk => (⟨hk, hk.2⟩ : _ ∧ k_ ≠ gb345))) (fun _ hk => hk.2)) (fun _ hk => ⟨hk.1.1.1, ⟨hk.1.1.2.1, ⟨hk.1.1.2.2.1, ⟨hk.1.1.2.2.2.1, ⟨hk.1.1.2.2.2.2, hk.1.2⟩⟩⟩⟩⟩)⟩
            have n4_ : Aside0 (((((((((((((w60.setCell ⟨gb345, 0, none⟩ (.int .i64 t327)).setCell ⟨gb345, 1, none⟩ (.int .i64 t328)).setCell ⟨gb345, 2, none⟩ (.int .i64 t329)).setCell ⟨gb345, 3, none⟩ (.int .i64 t330)).setCell ⟨gb345, 4, none⟩ (.slice Ao59 t331.length co59)).setCell ⟨gb345, 5, none⟩ (.slice Ao58 t334.length co58)).setCell ⟨gb345, 6, none⟩ (.int .i64 t337)).setCell ⟨gb345, 7, none⟩ (.int .i64 t338)).setCell ⟨gb345, 8, none⟩ (.int .i64 t339)).setCell ⟨gb345, 9, none⟩ (.int .i64 t340)).setCell ⟨gb345, 10, none⟩ (.slice Ao57 t341.length co57)).setCell ⟨gb345, 11, none⟩ (.int .u32 t344)).heap[gb319]? = some (.cells #[.slice A0_0 l0_0.length c0_0, .bool a0_1] 25 (0, 0))) := ⟨bf_ BK319⟩
            have n5_ : Aside0 (((((((((((((w60.setCell ⟨gb345, 0, none⟩ (.int .i64 t327)).setCell ⟨gb345, 1, none⟩ (.int .i64 t328)).setCell ⟨gb345, 2, none⟩ (.int .i64 t329)).setCell ⟨gb345, 3, none⟩ (.int .i64 t330)).setCell ⟨gb345, 4, none⟩ (.slice Ao59 t331.length co59)).setCell ⟨gb345, 5, none⟩ (.slice Ao58 t334.length co58)).setCell ⟨gb345, 6, none⟩ (.int .i64 t337)).setCell ⟨gb345, 7, none⟩ (.int .i64 t338)).setCell ⟨gb345, 8, none⟩ (.int .i64 t339)).setCell ⟨gb345, 9, none⟩ (.int .i64 t340)).setCell ⟨gb345, 10, none⟩ (.slice Ao57 t341.length co57)).setCell ⟨gb345, 11, none⟩ (.int .u32 t344)).heap[gb320]? = some (.cells #[.int .i64 a4_0, .int .i64 a4_1, .int .i64 a4_2, .int .i64 a4_3, .slice A4_4 l4_4.length c4_4, .slice A4_5 l4_5.length c4_5, .int .i64 a4_6, .int .i64 a4_7, .int .i64 a4_8, .int .i64 a4_9, .slice A4_10 l4_10.length c4_10, .int .u32 a4_11] 42 (0, 0))) := ⟨bf_ BK320⟩
            have n6_ : Aside0 (((((((((((((w60.setCell ⟨gb345, 0, none⟩ (.int .i64 t327)).setCell ⟨gb345, 1, none⟩ (.int .i64 t328)).setCell ⟨gb345, 2, none⟩ (.int .i64 t329)).setCell ⟨gb345, 3, none⟩ (.int .i64 t330)).setCell ⟨gb345, 4, none⟩ (.slice Ao59 t331.length co59)).setCell ⟨gb345, 5, none⟩ (.slice Ao58 t334.length co58)).setCell ⟨gb345, 6, none⟩ (.int .i64 t337)).setCell ⟨gb345, 7, none⟩ (.int .i64 t338)).setCell ⟨gb345, 8, none⟩ (.int .i64 t339)).setCell ⟨gb345, 9, none⟩ (.int .i64 t340)).setCell ⟨gb345, 10, none⟩ (.slice Ao57 t341.length co57)).setCell ⟨gb345, 11, none⟩ (.int .u32 t344)).heap[gb345]? = some (.cells #[.int .i64 t327, .int .i64 t328, .int .i64 t329, .int .i64 t330, .slice Ao59 t331.length co59, .slice Ao58 t334.length co58, .int .i64 t337, .int .i64 t338, .int .i64 t339, .int .i64 t340, .slice Ao57 t341.length co57, .int .u32 t344] 42 (0, 0))) := ⟨bp_ BK345⟩
            have n7_ : Aside0 (Below w.heap.size w ((((((((((((w60.setCell ⟨gb345, 0, none⟩ (.int .i64 t327)).setCell ⟨gb345, 1, none⟩ (.int .i64 t328)).setCell ⟨gb345, 2, none⟩ (.int .i64 t329)).setCell ⟨gb345, 3, none⟩ (.int .i64 t330)).setCell ⟨gb345, 4, none⟩ (.slice Ao59 t331.length co59)).setCell ⟨gb345, 5, none⟩ (.slice Ao58 t334.length co58)).setCell ⟨gb345, 6, none⟩ (.int .i64 t337)).setCell ⟨gb345, 7, none⟩ (.int .i64 t338)).setCell ⟨gb345, 8, none⟩ (.int .i64 t339)).setCell ⟨gb345, 9, none⟩ (.int .i64 t340)).setCell ⟨gb345, 10, none⟩ (.slice Ao57 t341.length co57)).setCell ⟨gb345, 11, none⟩ (.int .u32 t344))) := ⟨bs_⟩
            (try clear HO_321010)
            (try clear HO333)
            (try clear HO336)
            (try clear HO343)
            (try clear BK319)
            (try clear BK320)
            (try clear BK345)
            (try clear HB)
            generalize ((((((((((((w60.setCell ⟨gb345, 0, none⟩ (.int .i64 t327)).setCell ⟨gb345, 1, none⟩ (.int .i64 t328)).setCell ⟨gb345, 2, none⟩ (.int .i64 t329)).setCell ⟨gb345, 3, none⟩ (.int .i64 t330)).setCell ⟨gb345, 4, none⟩ (.slice Ao59 t331.length co59)).setCell ⟨gb345, 5, none⟩ (.slice Ao58 t334.length co58)).setCell ⟨gb345, 6, none⟩ (.int .i64 t337)).setCell ⟨gb345, 7, none⟩ (.int .i64 t338)).setCell ⟨gb345, 8, none⟩ (.int .i64 t339)).setCell ⟨gb345, 9, none⟩ (.int .i64 t340)).setCell ⟨gb345, 10, none⟩ (.slice Ao57 t341.length co57)).setCell ⟨gb345, 11, none⟩ (.int .u32 t344)) = w64 at n0_ n1_ n2_ n3_ n4_ n5_ n6_ n7_ ⊢
            have HO_321010 := n0_
            have HO333 := n1_
            have HO336 := n2_
            have HO343 := n3_
            have BK319 := n4_
            have BK320 := n5_
            have BK345 := n6_
            have HB := n7_
            clear n0_ n1_ n2_ n3_ n4_ n5_ n6_ n7_
            have n0_ := Aside0.mk (Kd.V_drew HO_321010.out)
            have n1_ := Aside0.mk (Kd.N_drew HO333.out)
            have n2_ := Aside0.mk (Kd.R_drew HO336.out)
            have n3_ := Aside0.mk (Kd.N_drew HO343.out)
            have n4_ := Aside0.mk (blk_drew BK319.out)
            have n5_ := Aside0.mk (blk_drew BK320.out)
            have n6_ := Aside0.mk (blk_drew BK345.out)
            have n7_ := Aside0.mk (below_drew1 HB.out)
            clear HO_321010 HO333 HO336 HO343 BK319 BK320 BK345 HB
            have HO_321010 := n0_
            have HO333 := n1_
            have HO336 := n2_
            have HO343 := n3_
            have BK319 := n4_
            have BK320 := n5_
            have BK345 := n6_
            have HB := n7_
            clear n0_ n1_ n2_ n3_ n4_ n5_ n6_ n7_
            refine start_ (n := 8) (S := fun w' => w'.cell? ⟨gb319, 0, none⟩ = some (.slice A0_0 l0_0.length c0_0) ∧ w'.cell? ⟨gb319, 1, none⟩ = some (.bool a0_1)) (ds := []) #[false, false, false, false, false, false, false, false] (by kernel_rfl) rfl rfl ⟨(blk_cell BK319.out 0).trans rfl, (blk_cell BK319.out 1).trans rfl⟩ (fun hHeld => ?_); refine with_tabW drydocklaw19_DeltaTells.tab7 drydocklaw19_DeltaTells.bits7 (fun HT_ HW_ => ?_)
            generalize w64.drew = w65 at HO_321010 HO333 HO336 HO343 BK319 BK320 BK345 HB hHeld ⊢
            refine pv_ 1 (some 68) HT_ (h := ?_)
            refine pv_ 4 (some 71) HT_ (h := ?_)
            refine tk_ 0 (some 67) HT_ HW_ hHeld (h := ?_)
            refine tk_ 3 (some 70) HT_ HW_ hHeld (h := ?_)
            refine one_ (i := 2) (N := some 69) #[true, true, true, true, true, false, false, false] rfl rfl (one_of HT_.out (by kernel_rfl)) (by decide) (fun K hK => ?_)
            refine goes_ Try.func8 (by kernel_rfl) rfl #[.agg #[.slice A0_0 l0_0.length c0_0, .bool a0_1], .int .u32 a1] (by rfl) rfl rfl (by (try simp only [List.map_toArray, List.map_cons, List.map_nil]); first | done | rfl | (simp only [List.length_drop, List.length_take]; rfl)) ?_
            with_reducible refine (delta_Note.calls kj8 _ _ l0_0 a0_1 a1 t346 t349 _ ?side1 ?side2 A34.out).mono ?_
            (case side1 => repeat (first | exact (Kd.C_below HR0_0.out HB.out) | (with_reducible refine Kd.C_alloc ?_ _) | (with_reducible refine Kd.C_drewN ?_ _) | (with_reducible refine Kd.C_drew ?_)))
            (case side2 => exact HC0_0.out)
            rintro e w66 ⟨v347, rfl, ho0, hb⟩
            refine ⟨_, rfl, ?_⟩
            have n0_ := Aside0.mk (Kd.V_elder' (vk_ HO_321010) (Kd.R_base ho0) hb)
            have n1_ := Aside0.mk (Kd.N_elder' (nk_ HO333) (Kd.R_base ho0) hb)
            have n2_ := Aside0.mk (Kd.R_elder' (rk_ HO336) (Kd.R_base ho0) hb)
            have n3_ := Aside0.mk (Kd.N_elder' (nk_ HO343) (Kd.R_base ho0) hb)
            have n4_ := Aside0.mk (Kd.R_lower (Kd.R_new' (Kd.R_newM (M := fun k_ => (w.heap.size ≤ k_)) ho0 (below_size bs_) (fun k_ h_ => h_)) (Kd.R_lt (rk_ HO336))) (below_size bs_))
            have n5_ := Aside0.mk (blk_below (bk_ BK319) hb)
            have n6_ := Aside0.mk (blk_below (bk_ BK320) hb)
            have n7_ := Aside0.mk (blk_below (bk_ BK345) hb)
            have n8_ := Aside0.mk (below_step bs_ hb)
            clear HO_321010 HO333 HO336 HO343 BK319 BK320 BK345 HB
            have HO_321010 := n0_
            have HO333 := n1_
            have HO336 := n2_
            have HO343 := n3_
            have HO348 := n4_
            have BK319 := n5_
            have BK320 := n6_
            have BK345 := n7_
            have HB := n8_
            clear n0_ n1_ n2_ n3_ n4_ n5_ n6_ n7_ n8_
            (try clear hb)
            (try clear hb2)
            (try clear hk)
            (try clear hi)
            (try clear ho0)
            refine hK.out _ _ ⟨(blk_cell BK319.out 0).trans rfl, (blk_cell BK319.out 1).trans rfl⟩ (fun hHeld => ?_)
            clear hK K
            refine norm_ (a' := ?_) ?_ ?_
            rotate_left
            ·show Act.put _ (some 69) _ = _
             simp only [Act.put, List.setIfInBounds_toArray, List.set_cons_zero, List.set_cons_succ, i64_w, i32_w]
             rfl
            refine one_ (i := 5) (N := some 72) #[true, true, true, true, true, true, false, false] rfl rfl (one_of HT_.out (by kernel_rfl)) (by decide) (fun K hK => ?_)
            refine goes_ Try.func15 (by kernel_rfl) rfl #[.agg #[.slice A0_0 l0_0.length c0_0, .bool a0_1], .int .u32 a1] (by rfl) rfl rfl (by (try simp only [List.map_toArray, List.map_cons, List.map_nil]); first | done | rfl | (simp only [List.length_drop, List.length_take]; rfl)) ?_
            with_reducible refine (drydockref19_Note.calls kj8 _ _ l0_0 a0_1 a1 t350 t353 _ ?side1 ?side2 A35.out).mono ?_
            (case side1 => repeat (first | exact (Kd.C_below HR0_0.out HB.out) | (with_reducible refine Kd.C_alloc ?_ _) | (with_reducible refine Kd.C_drewN ?_ _) | (with_reducible refine Kd.C_drew ?_)))
            (case side2 => exact HC0_0.out)
            rintro e w67 ⟨v351, rfl, ho0, hb⟩
            refine ⟨_, rfl, ?_⟩
            have n0_ := Aside0.mk (Kd.V_elder' (vk_ HO_321010) (Kd.R_base ho0) hb)
            have n1_ := Aside0.mk (Kd.N_elder' (nk_ HO333) (Kd.R_base ho0) hb)
            have n2_ := Aside0.mk (Kd.R_elder' (rk_ HO336) (Kd.R_base ho0) hb)
            have n3_ := Aside0.mk (Kd.N_elder' (nk_ HO343) (Kd.R_base ho0) hb)
            have n4_ := Aside0.mk (Kd.R_elder' (rk_ HO348) (Kd.R_base ho0) hb)
            have n5_ := Aside0.mk (Kd.R_lower (Kd.R_new' (Kd.R_new' (Kd.R_newM (M := fun k_ => (w.heap.size ≤ k_)) ho0 (below_size bs_) (fun k_ h_ => h_)) (Kd.R_lt (rk_ HO336))) (Kd.R_lt (rk_ HO348))) (below_size bs_))
            have n6_ := Aside0.mk (blk_below (bk_ BK319) hb)
            have n7_ := Aside0.mk (blk_below (bk_ BK320) hb)
            have n8_ := Aside0.mk (blk_below (bk_ BK345) hb)
            have n9_ := Aside0.mk (below_step bs_ hb)
            clear HO_321010 HO333 HO336 HO343 HO348 BK319 BK320 BK345 HB
            have HO_321010 := n0_
            have HO333 := n1_
            have HO336 := n2_
            have HO343 := n3_
            have HO348 := n4_
            have HO352 := n5_
            have BK319 := n6_
            have BK320 := n7_
            have BK345 := n8_
            have HB := n9_
            clear n0_ n1_ n2_ n3_ n4_ n5_ n6_ n7_ n8_ n9_
            (try clear hb)
            (try clear hb2)
            (try clear hk)
            (try clear hi)
            (try clear ho0)
            obtain ⟨Ao68, co68, eo68⟩ := Kd.R_slice HO348.out
            (first | subst eo68 | (injection eo68 with f1_ f2_ f3_; have f4_ := f1_.symm; have f5_ := f3_.symm; clear f1_ f2_ f3_; subst f4_; subst f5_))
            obtain ⟨Ao69, co69, eo69⟩ := Kd.R_slice HO352.out
            (first | subst eo69 | (injection eo69 with f1_ f2_ f3_; have f4_ := f1_.symm; have f5_ := f3_.symm; clear f1_ f2_ f3_; subst f4_; subst f5_))
            refine hK.out _ _ ⟨(blk_cell BK319.out 0).trans rfl, (blk_cell BK319.out 1).trans rfl⟩ (fun hHeld => ?_)
            clear hK K
            refine norm_ (a' := ?_) ?_ ?_
            rotate_left
            ·show Act.put _ (some 72) _ = _
             simp only [Act.put, List.setIfInBounds_toArray, List.set_cons_zero, List.set_cons_succ, i64_w, i32_w]
             rfl
            refine one_ (i := 6) (N := some 73) #[true, true, true, true, true, true, true, false] rfl rfl (one_of HT_.out (by kernel_rfl)) (by decide) (fun K hK => ?_)
            refine goes_ Try.func11 (by kernel_rfl) rfl #[.agg #[.slice Ao68 t346.length co68, .bool t349], .agg #[.slice Ao69 t350.length co69, .bool t353]] (by rfl) rfl rfl (by (try simp only [List.map_toArray, List.map_cons, List.map_nil]); first | done | rfl | (simp only [List.length_drop, List.length_take]; rfl)) ?_
            with_reducible refine (drydockref19_Same.calls kj8 _ _ t346 t349 _ _ t350 t353 true _ ?side1 ?side2 ?side3 ?side4 A36.out).mono ?_
            (case side1 => repeat (first | exact (Kd.R_reads' HO348.out).2.2 | (with_reducible refine Kd.C_alloc ?_ _) | (with_reducible refine Kd.C_drewN ?_ _) | (with_reducible refine Kd.C_drew ?_)))
            (case side2 => exact (Kd.R_reads' HO348.out).2.1)
            (case side3 => repeat (first | exact (Kd.R_reads' HO352.out).2.2 | (with_reducible refine Kd.C_alloc ?_ _) | (with_reducible refine Kd.C_drewN ?_ _) | (with_reducible refine Kd.C_drew ?_)))
            (case side4 => exact (Kd.R_reads' HO352.out).2.1)
            rintro e w70 ⟨rfl, hb⟩
            refine ⟨_, rfl, ?_⟩
            have n0_ := Aside0.mk (Kd.V_below (vk_ HO_321010) hb)
            have n1_ := Aside0.mk (Kd.N_below (nk_ HO333) hb)
            have n2_ := Aside0.mk (Kd.R_below (rk_ HO336) hb)
            have n3_ := Aside0.mk (Kd.N_below (nk_ HO343) hb)
            have n4_ := Aside0.mk (Kd.R_below (rk_ HO348) hb)
            have n5_ := Aside0.mk (Kd.R_below (rk_ HO352) hb)
            have n6_ := Aside0.mk (blk_below (bk_ BK319) hb)
            have n7_ := Aside0.mk (blk_below (bk_ BK320) hb)
            have n8_ := Aside0.mk (blk_below (bk_ BK345) hb)
            have n9_ := Aside0.mk (below_step bs_ hb)
            clear HO_321010 HO333 HO336 HO343 HO348 HO352 BK319 BK320 BK345 HB
            have HO_321010 := n0_
            have HO333 := n1_
            have HO336 := n2_
            have HO343 := n3_
            have HO348 := n4_
            have HO352 := n5_
            have BK319 := n6_
            have BK320 := n7_
            have BK345 := n8_
            have HB := n9_
            clear n0_ n1_ n2_ n3_ n4_ n5_ n6_ n7_ n8_ n9_
            (try clear hb)
            (try clear hb2)
            (try clear hk)
            (try clear hi)
            refine hK.out _ _ ⟨(blk_cell BK319.out 0).trans rfl, (blk_cell BK319.out 1).trans rfl⟩ (fun hHeld => ?_)
            clear hK K
            refine norm_ (a' := ?_) ?_ ?_
            rotate_left
            ·show Act.put _ (some 73) _ = _
             simp only [Act.put, List.setIfInBounds_toArray, List.set_cons_zero, List.set_cons_succ, i64_w, i32_w]
             rfl
            refine pv_ 7 (some 15) HT_ (h := ?_)
            refine done_ (done_of HT_.out (by kernel_rfl)) ?_
            try go_wp2_with (first | ((with_reducible refine gate_callee (f := 16) rfl ?_); refine goesL_ (some 77) rfl rfl Try.func16 (by kernel_rfl) rfl #[.int .i64 a2, .slice A3 l3.length c3] rfl (by (try simp only [List.map_toArray, List.map_cons, List.map_nil]); first | done | rfl | (simp only [List.length_drop, List.length_take]; rfl)) ?_; (with_reducible refine (delta_Of.calls a2 _ _ l3 t355 t356 t357 _ ?side1 ?side2 A37.out).mono ?_); (case side1 => repeat (first | exact (Kd.C_below HR3.out HB.out) | (with_reducible refine Kd.C_alloc ?_ _) | (with_reducible refine Kd.C_drewN ?_ _) | (with_reducible refine Kd.C_drew ?_))); (case side2 => exact HC3.out); rintro e w' ⟨rfl, ⟨nd, rfl⟩⟩; refine ⟨_, rfl, ?_⟩; (try (rw [drewN_self w70]; generalize hq_ : World.drewN w70 _ = w70; have n0_ : Aside0 (Kd.N k61 61 w70 w.heap.size (fun k_ => (P4_10_ k_ ∨ w.heap.size ≤ k_) ∧ some k_ ≠ (.slice Ao58 t334.length co58 : Value).ownBlock ∧ some k_ ≠ (.slice Ao57 t341.length co57 : Value).ownBlock ∧ some k_ ≠ (.slice Ao68 t346.length co68 : Value).ownBlock ∧ some k_ ≠ (.slice Ao69 t350.length co69 : Value).ownBlock ∧ k_ ≠ gb319 ∧ k_ ≠ gb320 ∧ k_ ≠ gb345) (.slice Ao59 t331.length co59) t331) := ⟨by rw [← hq_]; exact (by (with_reducible repeat (first | apply Kd.N_alloc | apply Kd.N_drewN | apply Kd.N_drew)); exact Kd.N_mono HO333.out (fun _ hk => ⟨hk.1.1.1, ⟨hk.1.1.2.1, ⟨hk.1.1.2.2.1, ⟨hk.1.2, ⟨hk.2, ⟨hk.1.1.2.2.2.1, ⟨hk.1.1.2.2.2.2.1, hk.1.1.2.2.2.2.2⟩⟩⟩⟩⟩⟩⟩))⟩; have n1_ : Aside0 (Kd.R (Kd.int .u32) 27 w70 w.heap.size (fun k_ => (w.heap.size ≤ k_) ∧ some k_ ≠ (.slice Ao68 t346.length co68 : Value).ownBlock ∧ some k_ ≠ (.slice Ao69 t350.length co69 : Value).ownBlock) (.slice Ao58 t334.length co58) t334) := ⟨by rw [← hq_]; exact (by (with_reducible repeat (first | apply Kd.R_alloc | apply Kd.R_drewN | apply Kd.R_drew)); exact Kd.R_mono HO336.out (fun _ hk => ⟨hk.1.1, ⟨hk.1.2, hk.2⟩⟩))⟩; have n2_ : Aside0 (Kd.N k63 63 w70 w.heap.size (fun k_ => (P4_10_ k_ ∨ w.heap.size ≤ k_) ∧ some k_ ≠ (.slice Ao59 t331.length co59 : Value).ownBlock ∧ some k_ ≠ (.slice Ao58 t334.length co58 : Value).ownBlock ∧ some k_ ≠ (.slice Ao68 t346.length co68 : Value).ownBlock ∧ some k_ ≠ (.slice Ao69 t350.length co69 : Value).ownBlock ∧ k_ ≠ gb319 ∧ k_ ≠ gb320 ∧ k_ ≠ gb345) (.slice Ao57 t341.length co57) t341) := ⟨by rw [← hq_]; exact (by (with_reducible repeat (first | apply Kd.N_alloc | apply Kd.N_drewN | apply Kd.N_drew)); exact Kd.N_mono HO343.out (fun _ hk => ⟨hk.1.1.1, ⟨hk.1.1.2.1, ⟨hk.1.1.2.2.1, ⟨hk.1.2, ⟨hk.2, ⟨hk.1.1.2.2.2.1, ⟨hk.1.1.2.2.2.2.1, hk.1.1.2.2.2.2.2⟩⟩⟩⟩⟩⟩⟩))⟩; have n3_ : Aside0 (Kd.R (Kd.int .u32) 27 w70 w.heap.size (fun k_ => (w.heap.size ≤ k_) ∧ some k_ ≠ (.slice Ao58 t334.length co58 : Value).ownBlock ∧ some k_ ≠ (.slice Ao69 t350.length co69 : Value).ownBlock) (.slice Ao68 t346.length co68) t346) := ⟨by rw [← hq_]; exact (by (with_reducible repeat (first | apply Kd.R_alloc | apply Kd.R_drewN | apply Kd.R_drew)); exact Kd.R_mono HO348.out (fun _ hk => ⟨hk.1.1.1, ⟨hk.1.2, hk.2⟩⟩))⟩; have n4_ : Aside0 (Kd.R (Kd.int .u32) 27 w70 w.heap.size (fun k_ => (w.heap.size ≤ k_) ∧ some k_ ≠ (.slice Ao58 t334.length co58 : Value).ownBlock ∧ some k_ ≠ (.slice Ao68 t346.length co68 : Value).ownBlock) (.slice Ao69 t350.length co69) t350) := ⟨by rw [← hq_]; exact (by (with_reducible repeat (first | apply Kd.R_alloc | apply Kd.R_drewN | apply Kd.R_drew)); exact Kd.R_mono HO352.out (fun _ hk => ⟨hk.1.1.1, ⟨hk.1.2, hk.2⟩⟩))⟩; have n5_ : Aside0 (Kd.V k63 63 w70 w.heap.size (fun k_ => (P4_10_ k_ ∨ w.heap.size ≤ k_) ∧ some k_ ≠ (.slice Ao59 t331.length co59 : Value).ownBlock ∧ some k_ ≠ (.slice Ao58 t334.length co58 : Value).ownBlock ∧ some k_ ≠ (.slice Ao57 t341.length co57 : Value).ownBlock ∧ some k_ ≠ (.slice Ao68 t346.length co68 : Value).ownBlock ∧ some k_ ≠ (.slice Ao69 t350.length co69 : Value).ownBlock ∧ k_ ≠ gb319 ∧ k_ ≠ gb320 ∧ k_ ≠ gb345) (.slice A4_10 l4_10.length c4_10) l4_10) := ⟨by rw [← hq_]; exact (by (with_reducible repeat (first | apply Kd.V_alloc | apply Kd.V_drewN | apply Kd.V_drew)); exact Kd.V_mono HO_321010.out (fun _ hk => ⟨hk.1.1.1, ⟨hk.1.1.2.1, ⟨hk.1.1.2.2.1, ⟨hk.1.1.2.2.2.1, ⟨hk.1.2, ⟨hk.2, ⟨hk.1.1.2.2.2.2.1, ⟨hk.1.1.2.2.2.2.2.1, hk.1.1.2.2.2.2.2.2⟩⟩⟩⟩⟩⟩⟩⟩))⟩; have n6_ : Aside0 (w70.heap[gb319]? = some (.cells #[.slice A0_0 l0_0.length c0_0, .bool a0_1] 25 (0, 0))) := ⟨by rw [← hq_]; exact (by (with_reducible repeat (first | refine blk_drewN ?_ _ | refine blk_drew ?_ | refine blk_alloc ?_ _)); exact BK319.out)⟩; have n7_ : Aside0 (w70.heap[gb320]? = some (.cells #[.int .i64 a4_0, .int .i64 a4_1, .int .i64 a4_2, .int .i64 a4_3, .slice A4_4 l4_4.length c4_4, .slice A4_5 l4_5.length c4_5, .int .i64 a4_6, .int .i64 a4_7, .int .i64 a4_8, .int .i64 a4_9, .slice A4_10 l4_10.length c4_10, .int .u32 a4_11] 42 (0, 0))) := ⟨by rw [← hq_]; exact (by (with_reducible repeat (first | refine blk_drewN ?_ _ | refine blk_drew ?_ | refine blk_alloc ?_ _)); exact BK320.out)⟩; have n8_ : Aside0 (w70.heap[gb345]? = some (.cells #[.int .i64 t327, .int .i64 t328, .int .i64 t329, .int .i64 t330, .slice Ao59 t331.length co59, .slice Ao58 t334.length co58, .int .i64 t337, .int .i64 t338, .int .i64 t339, .int .i64 t340, .slice Ao57 t341.length co57, .int .u32 t344] 42 (0, 0))) := ⟨by rw [← hq_]; exact (by (with_reducible repeat (first | refine blk_drewN ?_ _ | refine blk_drew ?_ | refine blk_alloc ?_ _)); exact BK345.out)⟩; have n9_ : Aside0 (Below w.heap.size w w70) := ⟨by rw [← hq_]; exact bs_⟩; clear HO333 HO336 HO343 HO348 HO352 HO_321010 BK319 BK320 BK345 HB hq_; have HO333 := n0_; have HO336 := n1_; have HO343 := n2_; have HO348 := n3_; have HO352 := n4_; have HO_321010 := n5_; have BK319 := n6_; have BK320 := n7_; have BK345 := n8_; have HB := n9_; clear n0_ n1_ n2_ n3_ n4_ n5_ n6_ n7_ n8_ n9_))) | ((with_reducible refine gate_callee (f := 17) rfl ?_); refine goesL_ (some 84) rfl rfl Try.func17 (by kernel_rfl) rfl #[.int .i64 a2, .slice A3 l3.length c3] rfl (by (try simp only [List.map_toArray, List.map_cons, List.map_nil]); first | done | rfl | (simp only [List.length_drop, List.length_take]; rfl)) ?_; (with_reducible refine (drydockref19_Of.calls kj8 a2 _ _ l3 t358 t359 t360 _ ?side1 ?side2 A38.out).mono ?_); (case side1 => repeat (first | exact (Kd.C_below HR3.out HB.out) | (with_reducible refine Kd.C_alloc ?_ _) | (with_reducible refine Kd.C_drewN ?_ _) | (with_reducible refine Kd.C_drew ?_))); (case side2 => exact HC3.out); rintro e w' ⟨rfl, ⟨nd, rfl⟩⟩; refine ⟨_, rfl, ?_⟩; (try (rw [drewN_self w70]; generalize hq_ : World.drewN w70 _ = w70; have n0_ : Aside0 (Kd.N k61 61 w70 w.heap.size (fun k_ => (P4_10_ k_ ∨ w.heap.size ≤ k_) ∧ some k_ ≠ (.slice Ao58 t334.length co58 : Value).ownBlock ∧ some k_ ≠ (.slice Ao57 t341.length co57 : Value).ownBlock ∧ some k_ ≠ (.slice Ao68 t346.length co68 : Value).ownBlock ∧ some k_ ≠ (.slice Ao69 t350.length co69 : Value).ownBlock ∧ k_ ≠ gb319 ∧ k_ ≠ gb320 ∧ k_ ≠ gb345) (.slice Ao59 t331.length co59) t331) := ⟨by rw [← hq_]; exact (by (with_reducible repeat (first | apply Kd.N_alloc | apply Kd.N_drewN | apply Kd.N_drew)); exact Kd.N_mono HO333.out (fun _ hk => ⟨hk.1.1.1, ⟨hk.1.1.2.1, ⟨hk.1.1.2.2.1, ⟨hk.1.2, ⟨hk.2, ⟨hk.1.1.2.2.2.1, ⟨hk.1.1.2.2.2.2.1, hk.1.1.2.2.2.2.2⟩⟩⟩⟩⟩⟩⟩))⟩; have n1_ : Aside0 (Kd.R (Kd.int .u32) 27 w70 w.heap.size (fun k_ => (w.heap.size ≤ k_) ∧ some k_ ≠ (.slice Ao68 t346.length co68 : Value).ownBlock ∧ some k_ ≠ (.slice Ao69 t350.length co69 : Value).ownBlock) (.slice Ao58 t334.length co58) t334) := ⟨by rw [← hq_]; exact (by (with_reducible repeat (first | apply Kd.R_alloc | apply Kd.R_drewN | apply Kd.R_drew)); exact Kd.R_mono HO336.out (fun _ hk => ⟨hk.1.1, ⟨hk.1.2, hk.2⟩⟩))⟩; have n2_ : Aside0 (Kd.N k63 63 w70 w.heap.size (fun k_ => (P4_10_ k_ ∨ w.heap.size ≤ k_) ∧ some k_ ≠ (.slice Ao59 t331.length co59 : Value).ownBlock ∧ some k_ ≠ (.slice Ao58 t334.length co58 : Value).ownBlock ∧ some k_ ≠ (.slice Ao68 t346.length co68 : Value).ownBlock ∧ some k_ ≠ (.slice Ao69 t350.length co69 : Value).ownBlock ∧ k_ ≠ gb319 ∧ k_ ≠ gb320 ∧ k_ ≠ gb345) (.slice Ao57 t341.length co57) t341) := ⟨by rw [← hq_]; exact (by (with_reducible repeat (first | apply Kd.N_alloc | apply Kd.N_drewN | apply Kd.N_drew)); exact Kd.N_mono HO343.out (fun _ hk => ⟨hk.1.1.1, ⟨hk.1.1.2.1, ⟨hk.1.1.2.2.1, ⟨hk.1.2, ⟨hk.2, ⟨hk.1.1.2.2.2.1, ⟨hk.1.1.2.2.2.2.1, hk.1.1.2.2.2.2.2⟩⟩⟩⟩⟩⟩⟩))⟩; have n3_ : Aside0 (Kd.R (Kd.int .u32) 27 w70 w.heap.size (fun k_ => (w.heap.size ≤ k_) ∧ some k_ ≠ (.slice Ao58 t334.length co58 : Value).ownBlock ∧ some k_ ≠ (.slice Ao69 t350.length co69 : Value).ownBlock) (.slice Ao68 t346.length co68) t346) := ⟨by rw [← hq_]; exact (by (with_reducible repeat (first | apply Kd.R_alloc | apply Kd.R_drewN | apply Kd.R_drew)); exact Kd.R_mono HO348.out (fun _ hk => ⟨hk.1.1.1, ⟨hk.1.2, hk.2⟩⟩))⟩; have n4_ : Aside0 (Kd.R (Kd.int .u32) 27 w70 w.heap.size (fun k_ => (w.heap.size ≤ k_) ∧ some k_ ≠ (.slice Ao58 t334.length co58 : Value).ownBlock ∧ some k_ ≠ (.slice Ao68 t346.length co68 : Value).ownBlock) (.slice Ao69 t350.length co69) t350) := ⟨by rw [← hq_]; exact (by (with_reducible repeat (first | apply Kd.R_alloc | apply Kd.R_drewN | apply Kd.R_drew)); exact Kd.R_mono HO352.out (fun _ hk => ⟨hk.1.1.1, ⟨hk.1.2, hk.2⟩⟩))⟩; have n5_ : Aside0 (Kd.V k63 63 w70 w.heap.size (fun k_ => (P4_10_ k_ ∨ w.heap.size ≤ k_) ∧ some k_ ≠ (.slice Ao59 t331.length co59 : Value).ownBlock ∧ some k_ ≠ (.slice Ao58 t334.length co58 : Value).ownBlock ∧ some k_ ≠ (.slice Ao57 t341.length co57 : Value).ownBlock ∧ some k_ ≠ (.slice Ao68 t346.length co68 : Value).ownBlock ∧ some k_ ≠ (.slice Ao69 t350.length co69 : Value).ownBlock ∧ k_ ≠ gb319 ∧ k_ ≠ gb320 ∧ k_ ≠ gb345) (.slice A4_10 l4_10.length c4_10) l4_10) := ⟨by rw [← hq_]; exact (by (with_reducible repeat (first | apply Kd.V_alloc | apply Kd.V_drewN | apply Kd.V_drew)); exact Kd.V_mono HO_321010.out (fun _ hk => ⟨hk.1.1.1, ⟨hk.1.1.2.1, ⟨hk.1.1.2.2.1, ⟨hk.1.1.2.2.2.1, ⟨hk.1.2, ⟨hk.2, ⟨hk.1.1.2.2.2.2.1, ⟨hk.1.1.2.2.2.2.2.1, hk.1.1.2.2.2.2.2.2⟩⟩⟩⟩⟩⟩⟩⟩))⟩; have n6_ : Aside0 (w70.heap[gb319]? = some (.cells #[.slice A0_0 l0_0.length c0_0, .bool a0_1] 25 (0, 0))) := ⟨by rw [← hq_]; exact (by (with_reducible repeat (first | refine blk_drewN ?_ _ | refine blk_drew ?_ | refine blk_alloc ?_ _)); exact BK319.out)⟩; have n7_ : Aside0 (w70.heap[gb320]? = some (.cells #[.int .i64 a4_0, .int .i64 a4_1, .int .i64 a4_2, .int .i64 a4_3, .slice A4_4 l4_4.length c4_4, .slice A4_5 l4_5.length c4_5, .int .i64 a4_6, .int .i64 a4_7, .int .i64 a4_8, .int .i64 a4_9, .slice A4_10 l4_10.length c4_10, .int .u32 a4_11] 42 (0, 0))) := ⟨by rw [← hq_]; exact (by (with_reducible repeat (first | refine blk_drewN ?_ _ | refine blk_drew ?_ | refine blk_alloc ?_ _)); exact BK320.out)⟩; have n8_ : Aside0 (w70.heap[gb345]? = some (.cells #[.int .i64 t327, .int .i64 t328, .int .i64 t329, .int .i64 t330, .slice Ao59 t331.length co59, .slice Ao58 t334.length co58, .int .i64 t337, .int .i64 t338, .int .i64 t339, .int .i64 t340, .slice Ao57 t341.length co57, .int .u32 t344] 42 (0, 0))) := ⟨by rw [← hq_]; exact (by (with_reducible repeat (first | refine blk_drewN ?_ _ | refine blk_drew ?_ | refine blk_alloc ?_ _)); exact BK345.out)⟩; have n9_ : Aside0 (Below w.heap.size w w70) := ⟨by rw [← hq_]; exact bs_⟩; clear HO333 HO336 HO343 HO348 HO352 HO_321010 BK319 BK320 BK345 HB hq_; have HO333 := n0_; have HO336 := n1_; have HO343 := n2_; have HO348 := n3_; have HO352 := n4_; have HO_321010 := n5_; have BK319 := n6_; have BK320 := n7_; have BK345 := n8_; have HB := n9_; clear n0_ n1_ n2_ n3_ n4_ n5_ n6_ n7_ n8_ n9_)); obtain ⟨hcz71_0, hcz71_1, hfz71_0, hfz71_1⟩ := blk2 BK319; obtain ⟨hcz72_0, hcz72_1, hcz72_2, hcz72_3, hcz72_4, hcz72_5, hcz72_6, hcz72_7, hcz72_8, hcz72_9, hcz72_10, hcz72_11, hfz72_0, hfz72_1, hfz72_2, hfz72_3, hfz72_4, hfz72_5, hfz72_6, hfz72_7, hfz72_8, hfz72_9, hfz72_10, hfz72_11⟩ := blk12 BK320) | ((with_reducible refine gate_callee (f := 18) rfl ?_); refine goesL_ (some 91) rfl rfl Try.func18 (by kernel_rfl) rfl #[.agg #[.slice A0_0 l0_0.length c0_0, .bool a0_1], .agg #[.int .i64 a4_0, .int .i64 a4_1, .int .i64 a4_2, .int .i64 a4_3, .slice A4_4 l4_4.length c4_4, .slice A4_5 l4_5.length c4_5, .int .i64 a4_6, .int .i64 a4_7, .int .i64 a4_8, .int .i64 a4_9, .slice A4_10 l4_10.length c4_10, .int .u32 a4_11]] rfl (by (try simp only [List.map_toArray, List.map_cons, List.map_nil]); first | done | rfl | (simp only [List.length_drop, List.length_take]; rfl)) ?_; (with_reducible refine (delta_Put.calls _ _ l0_0 a0_1 a4_0 a4_1 a4_2 a4_3 _ _ l4_4 _ _ l4_5 a4_6 a4_7 a4_8 a4_9 _ _ l4_10 a4_11 t361 t364 t365 t366 t367 t368 t369 t372 t375 t376 t377 t378 t379 t382 t383 _ ?side1 ?side2 ?side3 ?side4 ?side5 ?side6 ?side7 ?side8 A39.out).mono ?_); (case side1 => repeat (first | exact (Kd.C_below HR0_0.out HB.out) | (with_reducible refine Kd.C_alloc ?_ _) | (with_reducible refine Kd.C_drewN ?_ _) | (with_reducible refine Kd.C_drew ?_))); (case side2 => exact HC0_0.out); (case side3 => repeat (first | exact (Kd.C_below HR4_4.out HB.out) | (with_reducible refine Kd.C_alloc ?_ _) | (with_reducible refine Kd.C_drewN ?_ _) | (with_reducible refine Kd.C_drew ?_))); (case side4 => exact HC4_4.out); (case side5 => repeat (first | exact (Kd.C_below HR4_5.out HB.out) | (with_reducible refine Kd.C_alloc ?_ _) | (with_reducible refine Kd.C_drewN ?_ _) | (with_reducible refine Kd.C_drew ?_))); (case side6 => exact HC4_5.out); (case side7 => repeat (first | exact (Kd.V_reads' HO_321010.out).2.2 | (with_reducible refine Kd.C_alloc ?_ _) | (with_reducible refine Kd.C_drewN ?_ _) | (with_reducible refine Kd.C_drew ?_))); (case side8 => exact HCX_.out); rintro e w73 ⟨v362, v370, v373, v380, rfl, ho0, ho1, ho2, ho3, hb⟩; refine ⟨_, rfl, ?_⟩; have n0_ := Aside0.mk (Kd.V_mono (Kd.V_told (Kd.V_told (Kd.V_told (Kd.V_told (Kd.V_old (vk_ HO_321010) hb) (Kd.R_base ho0)) (by first | exact Kd.S_base ho1 | exact Kd.N_base ho1)) (Kd.R_base ho2)) (by first | exact Kd.S_base ho3 | exact Kd.N_base ho3)) (fun _ h_ => h_.1)); have n1_ := Aside0.mk (Kd.N_mono (Kd.N_told (Kd.N_told (Kd.N_told (Kd.N_told (Kd.N_old (nk_ HO333) hb) (Kd.R_base ho0)) (by first | exact Kd.S_base ho1 | exact Kd.N_base ho1)) (Kd.R_base ho2)) (by first | exact Kd.S_base ho3 | exact Kd.N_base ho3)) (fun _ h_ => h_.1)); have n2_ := Aside0.mk (Kd.R_mono (Kd.R_told (Kd.R_told (Kd.R_old (rk_ HO336) hb) (Kd.R_base ho0)) (Kd.R_base ho2)) (fun _ h_ => h_.1)); have n3_ := Aside0.mk (Kd.N_mono (Kd.N_told (Kd.N_told (Kd.N_told (Kd.N_told (Kd.N_old (nk_ HO343) hb) (Kd.R_base ho0)) (by first | exact Kd.S_base ho1 | exact Kd.N_base ho1)) (Kd.R_base ho2)) (by first | exact Kd.S_base ho3 | exact Kd.N_base ho3)) (fun _ h_ => h_.1)); have n4_ := Aside0.mk (Kd.R_mono (Kd.R_told (Kd.R_told (Kd.R_old (rk_ HO348) hb) (Kd.R_base ho0)) (Kd.R_base ho2)) (fun _ h_ => h_.1)); have n5_ := Aside0.mk (Kd.R_mono (Kd.R_told (Kd.R_told (Kd.R_old (rk_ HO352) hb) (Kd.R_base ho0)) (Kd.R_base ho2)) (fun _ h_ => h_.1)); have n6_ := Aside0.mk (Kd.R_lower (Kd.R_new' (Kd.R_new' (Kd.R_new' (Kd.R_newM (M := fun k_ => (w.heap.size ≤ k_)) ho0 (below_size bs_) (fun k_ h_ => h_)) (Kd.R_lt (rk_ HO336))) (Kd.R_lt (rk_ HO348))) (Kd.R_lt (rk_ HO352))) (below_size bs_)); have n7_ := Aside0.mk (Kd.N_lower (Kd.N_mono (ok' := fun k_ => (P4_10_ k_ ∨ w.heap.size ≤ k_) ∧ some k_ ≠ (v362 : Value).ownBlock ∧ some k_ ≠ (v373 : Value).ownBlock ∧ some k_ ≠ (v380 : Value).ownBlock ∧ some k_ ≠ (.slice Ao59 t331.length co59 : Value).ownBlock ∧ some k_ ≠ (.slice Ao58 t334.length co58 : Value).ownBlock ∧ some k_ ≠ (.slice Ao57 t341.length co57 : Value).ownBlock ∧ some k_ ≠ (.slice Ao68 t346.length co68 : Value).ownBlock ∧ some k_ ≠ (.slice Ao69 t350.length co69 : Value).ownBlock ∧ k_ ≠ gb319 ∧ k_ ≠ gb320 ∧ k_ ≠ gb345) (Kd.S_N (Kd.S_bound (Kd.S_apart' (Kd.S_apart' (Kd.S_apart' ho1 (Kd.R_typed ho0) (by decide)) (Kd.R_typed ho2) (by decide)) (Kd.S_typed ho3) (by decide)))) (fun k_ hk_ => ⟨(.inr (Nat.le_trans (below_size bs_) hk_.2.1)), hk_.1.1.1.2, hk_.1.1.2, hk_.1.2, (Kd.fresh' (Kd.N_lt (nk_ HO333)) k_ hk_.2.1), (Kd.fresh' (Kd.R_lt (rk_ HO336)) k_ hk_.2.1), (Kd.fresh' (Kd.N_lt (nk_ HO343)) k_ hk_.2.1), (Kd.fresh' (Kd.R_lt (rk_ HO348)) k_ hk_.2.1), (Kd.fresh' (Kd.R_lt (rk_ HO352)) k_ hk_.2.1), (Kd.freshB (g := gb319) (o := .cells #[.slice A0_0 l0_0.length c0_0, .bool a0_1] 25 (0, 0)) (by (with_reducible repeat (first | refine blk_drewN ?_ _ | refine blk_drew ?_ | refine blk_alloc ?_ _)); exact BK319.out) k_ hk_.2.1), (Kd.freshB (g := gb320) (o := .cells #[.int .i64 a4_0, .int .i64 a4_1, .int .i64 a4_2, .int .i64 a4_3, .slice A4_4 l4_4.length c4_4, .slice A4_5 l4_5.length c4_5, .int .i64 a4_6, .int .i64 a4_7, .int .i64 a4_8, .int .i64 a4_9, .slice A4_10 l4_10.length c4_10, .int .u32 a4_11] 42 (0, 0)) (by (with_reducible repeat (first | refine blk_drewN ?_ _ | refine blk_drew ?_ | refine blk_alloc ?_ _)); exact BK320.out) k_ hk_.2.1), (Kd.freshB (g := gb345) (o := .cells #[.int .i64 t327, .int .i64 t328, .int .i64 t329, .int .i64 t330, .slice Ao59 t331.length co59, .slice Ao58 t334.length co58, .int .i64 t337, .int .i64 t338, .int .i64 t339, .int .i64 t340, .slice Ao57 t341.length co57, .int .u32 t344] 42 (0, 0)) (by (with_reducible repeat (first | refine blk_drewN ?_ _ | refine blk_drew ?_ | refine blk_alloc ?_ _)); exact BK345.out) k_ hk_.2.1)⟩)) (below_size bs_)); have n8_ := Aside0.mk (Kd.R_lower (Kd.R_new' (Kd.R_new' (Kd.R_new' (Kd.R_newM (M := fun k_ => (w.heap.size ≤ k_)) ho2 (below_size bs_) (fun k_ h_ => h_)) (Kd.R_lt (rk_ HO336))) (Kd.R_lt (rk_ HO348))) (Kd.R_lt (rk_ HO352))) (below_size bs_)); have n9_ := Aside0.mk (Kd.N_lower (Kd.N_mono (ok' := fun k_ => (P4_10_ k_ ∨ w.heap.size ≤ k_) ∧ some k_ ≠ (v362 : Value).ownBlock ∧ some k_ ≠ (v370 : Value).ownBlock ∧ some k_ ≠ (v373 : Value).ownBlock ∧ some k_ ≠ (.slice Ao59 t331.length co59 : Value).ownBlock ∧ some k_ ≠ (.slice Ao58 t334.length co58 : Value).ownBlock ∧ some k_ ≠ (.slice Ao57 t341.length co57 : Value).ownBlock ∧ some k_ ≠ (.slice Ao68 t346.length co68 : Value).ownBlock ∧ some k_ ≠ (.slice Ao69 t350.length co69 : Value).ownBlock ∧ k_ ≠ gb319 ∧ k_ ≠ gb320 ∧ k_ ≠ gb345) (Kd.S_N (Kd.S_bound (Kd.S_apart' ho3 (Kd.S_typed ho1) (by decide)))) (fun k_ hk_ => ⟨(.inr (Nat.le_trans (below_size bs_) hk_.2.1)), hk_.1.1.1, hk_.1.2, hk_.1.1.2, (Kd.fresh' (Kd.N_lt (nk_ HO333)) k_ hk_.2.1), (Kd.fresh' (Kd.R_lt (rk_ HO336)) k_ hk_.2.1), (Kd.fresh' (Kd.N_lt (nk_ HO343)) k_ hk_.2.1), (Kd.fresh' (Kd.R_lt (rk_ HO348)) k_ hk_.2.1), (Kd.fresh' (Kd.R_lt (rk_ HO352)) k_ hk_.2.1), (Kd.freshB (g := gb319) (o := .cells #[.slice A0_0 l0_0.length c0_0, .bool a0_1] 25 (0, 0)) (by (with_reducible repeat (first | refine blk_drewN ?_ _ | refine blk_drew ?_ | refine blk_alloc ?_ _)); exact BK319.out) k_ hk_.2.1), (Kd.freshB (g := gb320) (o := .cells #[.int .i64 a4_0, .int .i64 a4_1, .int .i64 a4_2, .int .i64 a4_3, .slice A4_4 l4_4.length c4_4, .slice A4_5 l4_5.length c4_5, .int .i64 a4_6, .int .i64 a4_7, .int .i64 a4_8, .int .i64 a4_9, .slice A4_10 l4_10.length c4_10, .int .u32 a4_11] 42 (0, 0)) (by (with_reducible repeat (first | refine blk_drewN ?_ _ | refine blk_drew ?_ | refine blk_alloc ?_ _)); exact BK320.out) k_ hk_.2.1), (Kd.freshB (g := gb345) (o := .cells #[.int .i64 t327, .int .i64 t328, .int .i64 t329, .int .i64 t330, .slice Ao59 t331.length co59, .slice Ao58 t334.length co58, .int .i64 t337, .int .i64 t338, .int .i64 t339, .int .i64 t340, .slice Ao57 t341.length co57, .int .u32 t344] 42 (0, 0)) (by (with_reducible repeat (first | refine blk_drewN ?_ _ | refine blk_drew ?_ | refine blk_alloc ?_ _)); exact BK345.out) k_ hk_.2.1)⟩)) (below_size bs_)); have n10_ := Aside0.mk (blk_below (bk_ BK319) hb); have n11_ := Aside0.mk (blk_below (bk_ BK320) hb); have n12_ := Aside0.mk (blk_below (bk_ BK345) hb); have n13_ := Aside0.mk (below_step bs_ hb); clear HO_321010 HO333 HO336 HO343 HO348 HO352 BK319 BK320 BK345 HB; have HO_321010 := n0_; have HO333 := n1_; have HO336 := n2_; have HO343 := n3_; have HO348 := n4_; have HO352 := n5_; have HO363 := n6_; have HO371 := n7_; have HO374 := n8_; have HO381 := n9_; have BK319 := n10_; have BK320 := n11_; have BK345 := n12_; have HB := n13_; clear n0_ n1_ n2_ n3_ n4_ n5_ n6_ n7_ n8_ n9_ n10_ n11_ n12_ n13_; (try clear hb); (try clear hb2); (try clear hk); (try clear hi); (try clear ho0); (try clear ho1); (try clear ho2); (try clear ho3); obtain ⟨Ao74, co74, eo74⟩ := Kd.N_slice HO381.out; subst eo74; obtain ⟨Ao75, co75, eo75⟩ := Kd.R_slice HO374.out; subst eo75; obtain ⟨Ao76, co76, eo76⟩ := Kd.N_slice HO371.out; subst eo76; obtain ⟨Ao77, co77, eo77⟩ := Kd.R_slice HO363.out; subst eo77) | ((with_reducible refine gate_dst (N := 22) rfl ?_); (try (refine gate_guard (by rfl) ?_; dsimp only)); refine box_event ?hg (N := 22) ?hd (cs := #[.slice none 0 0, .bool false]) (t := 25) ?hr ?_; (case hd => rfl); (case hg => rfl); (case hr => first | (go_simp; done) | (go_simp; rfl)); intro gb384 hg w78 hbox hb; have n0_ := Aside0.mk (Kd.V_below (Kd.V_elderB (vk_ HO_321010) gb384 (Nat.le_of_eq hg.symm)) hb); have n1_ := Aside0.mk (Kd.N_below (Kd.N_elderB (nk_ HO333) gb384 (Nat.le_of_eq hg.symm)) hb); have n2_ := Aside0.mk (Kd.R_below (rk_ HO336) hb); have n3_ := Aside0.mk (Kd.N_below (Kd.N_elderB (nk_ HO343) gb384 (Nat.le_of_eq hg.symm)) hb); have n4_ := Aside0.mk (Kd.R_below (rk_ HO348) hb); have n5_ := Aside0.mk (Kd.R_below (rk_ HO352) hb); have n6_ := Aside0.mk (Kd.R_below (rk_ HO363) hb); have n7_ := Aside0.mk (Kd.N_below (Kd.N_elderB (nk_ HO371) gb384 (Nat.le_of_eq hg.symm)) hb); have n8_ := Aside0.mk (Kd.R_below (rk_ HO374) hb); have n9_ := Aside0.mk (Kd.N_below (Kd.N_elderB (nk_ HO381) gb384 (Nat.le_of_eq hg.symm)) hb); have n10_ := Aside0.mk (blk_below (bk_ BK319) hb); have n11_ := Aside0.mk (blk_below (bk_ BK320) hb); have n12_ := Aside0.mk (blk_below (bk_ BK345) hb); have n13_ := Aside0.mk (below_step bs_ hb); have n14_ := Aside0.mk (hbox); have n15_ := Aside0.mk ((by rw [hg]; exact (below_size bs_) : w.heap.size ≤ gb384)); have n16_ := Aside0.mk ((by rw [hg]; exact (below_size bs_) : w.heap.size ≤ gb384)); have n17_ := Aside0.mk ((by rw [hg]; exact Nat.ne_of_lt (blk_lt (bk_ BK319)) : gb319 ≠ gb384)); have n18_ := Aside0.mk ((by rw [hg]; exact Nat.ne_of_gt (blk_lt (bk_ BK319)) : gb384 ≠ gb319)); have n19_ := Aside0.mk ((by rw [hg]; exact Nat.ne_of_lt (blk_lt (bk_ BK320)) : gb320 ≠ gb384)); have n20_ := Aside0.mk ((by rw [hg]; exact Nat.ne_of_gt (blk_lt (bk_ BK320)) : gb384 ≠ gb320)); have n21_ := Aside0.mk ((by rw [hg]; exact Nat.ne_of_lt (blk_lt (bk_ BK345)) : gb345 ≠ gb384)); have n22_ := Aside0.mk ((by rw [hg]; exact Nat.ne_of_gt (blk_lt (bk_ BK345)) : gb384 ≠ gb345)); clear HO_321010 HO333 HO336 HO343 HO348 HO352 HO363 HO371 HO374 HO381 BK319 BK320 BK345 HB; have HO_321010 := n0_; have HO333 := n1_; have HO336 := n2_; have HO343 := n3_; have HO348 := n4_; have HO352 := n5_; have HO363 := n6_; have HO371 := n7_; have HO374 := n8_; have HO381 := n9_; have BK319 := n10_; have BK320 := n11_; have BK345 := n12_; have HB := n13_; have BK384 := n14_; have GW384 := n15_; have GE384 := n16_; have NB319_384 := n17_; have NB384_319 := n18_; have NB320_384 := n19_; have NB384_320 := n20_; have NB345_384 := n21_; have NB384_345 := n22_; clear n0_ n1_ n2_ n3_ n4_ n5_ n6_ n7_ n8_ n9_ n10_ n11_ n12_ n13_ n14_ n15_ n16_ n17_ n18_ n19_ n20_ n21_ n22_; clear hb hbox hg) | ((with_reducible refine gate_dst (N := 23) rfl ?_); (try (refine gate_guard (by rfl) ?_; dsimp only)); refine box_event ?hg (N := 23) ?hd (cs := #[.int .i64 0, .int .i64 0, .int .i64 0, .int .i64 0, .slice none 0 0, .slice none 0 0, .int .i64 0, .int .i64 0, .int .i64 0, .int .i64 0, .slice none 0 0, .int .u32 0]) (t := 42) ?hr ?_; (case hd => rfl); (case hg => rfl); (case hr => first | (go_simp; done) | (go_simp; rfl)); intro gb385 hg w79 hbox hb; have n0_ := Aside0.mk (Kd.V_below (Kd.V_elderB (vk_ HO_321010) gb385 (Nat.le_of_eq hg.symm)) hb); have n1_ := Aside0.mk (Kd.N_below (Kd.N_elderB (nk_ HO333) gb385 (Nat.le_of_eq hg.symm)) hb); have n2_ := Aside0.mk (Kd.R_below (rk_ HO336) hb); have n3_ := Aside0.mk (Kd.N_below (Kd.N_elderB (nk_ HO343) gb385 (Nat.le_of_eq hg.symm)) hb); have n4_ := Aside0.mk (Kd.R_below (rk_ HO348) hb); have n5_ := Aside0.mk (Kd.R_below (rk_ HO352) hb); have n6_ := Aside0.mk (Kd.R_below (rk_ HO363) hb); have n7_ := Aside0.mk (Kd.N_below (Kd.N_elderB (nk_ HO371) gb385 (Nat.le_of_eq hg.symm)) hb); have n8_ := Aside0.mk (Kd.R_below (rk_ HO374) hb); have n9_ := Aside0.mk (Kd.N_below (Kd.N_elderB (nk_ HO381) gb385 (Nat.le_of_eq hg.symm)) hb); have n10_ := Aside0.mk (blk_below (bk_ BK319) hb); have n11_ := Aside0.mk (blk_below (bk_ BK320) hb); have n12_ := Aside0.mk (blk_below (bk_ BK345) hb); have n13_ := Aside0.mk (blk_below (bk_ BK384) hb); have n14_ := Aside0.mk (below_step bs_ hb); have n15_ := Aside0.mk (hbox); have n16_ := Aside0.mk ((by rw [hg]; exact (below_size bs_) : w.heap.size ≤ gb385)); have n17_ := Aside0.mk ((by rw [hg]; exact (below_size bs_) : w.heap.size ≤ gb385)); have n18_ := Aside0.mk ((by rw [hg]; exact Nat.ne_of_lt (blk_lt (bk_ BK319)) : gb319 ≠ gb385)); have n19_ := Aside0.mk ((by rw [hg]; exact Nat.ne_of_gt (blk_lt (bk_ BK319)) : gb385 ≠ gb319)); have n20_ := Aside0.mk ((by rw [hg]; exact Nat.ne_of_lt (blk_lt (bk_ BK320)) : gb320 ≠ gb385)); have n21_ := Aside0.mk ((by rw [hg]; exact Nat.ne_of_gt (blk_lt (bk_ BK320)) : gb385 ≠ gb320)); have n22_ := Aside0.mk ((by rw [hg]; exact Nat.ne_of_lt (blk_lt (bk_ BK345)) : gb345 ≠ gb385)); have n23_ := Aside0.mk ((by rw [hg]; exact Nat.ne_of_gt (blk_lt (bk_ BK345)) : gb385 ≠ gb345)); have n24_ := Aside0.mk ((by rw [hg]; exact Nat.ne_of_lt (blk_lt (bk_ BK384)) : gb384 ≠ gb385)); have n25_ := Aside0.mk ((by rw [hg]; exact Nat.ne_of_gt (blk_lt (bk_ BK384)) : gb385 ≠ gb384)); clear HO_321010 HO333 HO336 HO343 HO348 HO352 HO363 HO371 HO374 HO381 BK319 BK320 BK345 BK384 HB; have HO_321010 := n0_; have HO333 := n1_; have HO336 := n2_; have HO343 := n3_; have HO348 := n4_; have HO352 := n5_; have HO363 := n6_; have HO371 := n7_; have HO374 := n8_; have HO381 := n9_; have BK319 := n10_; have BK320 := n11_; have BK345 := n12_; have BK384 := n13_; have HB := n14_; have BK385 := n15_; have GW385 := n16_; have GE385 := n17_; have NB319_385 := n18_; have NB385_319 := n19_; have NB320_385 := n20_; have NB385_320 := n21_; have NB345_385 := n22_; have NB385_345 := n23_; have NB384_385 := n24_; have NB385_384 := n25_; clear n0_ n1_ n2_ n3_ n4_ n5_ n6_ n7_ n8_ n9_ n10_ n11_ n12_ n13_ n14_ n15_ n16_ n17_ n18_ n19_ n20_ n21_ n22_ n23_ n24_ n25_; clear hb hbox hg; have hnb80 := NB384_319.out; have hnc80 := NB319_384.out; have hnb81 := NB384_320.out; have hnc81 := NB320_384.out; have hnb82 := NB384_345.out; have hnc82 := NB345_384.out; have hnb83 := NB384_385.out; have hnc83 := NB385_384.out; obtain ⟨hcz84_0, hcz84_1, hfz84_0, hfz84_1⟩ := blk2 BK384; have hnb85 := NB385_319.out; have hnc85 := NB319_385.out; have hnb86 := NB385_320.out; have hnc86 := NB320_385.out; have hnb87 := NB385_345.out; have hnc87 := NB345_385.out; obtain ⟨hcz88_0, hcz88_1, hcz88_2, hcz88_3, hcz88_4, hcz88_5, hcz88_6, hcz88_7, hcz88_8, hcz88_9, hcz88_10, hcz88_11, hfz88_0, hfz88_1, hfz88_2, hfz88_3, hfz88_4, hfz88_5, hfz88_6, hfz88_7, hfz88_8, hfz88_9, hfz88_10, hfz88_11⟩ := blk12 BK385; obtain ⟨hcz89_0, hcz89_1, hfz89_0, hfz89_1⟩ := blk2 BK319; obtain ⟨hcz90_0, hcz90_1, hcz90_2, hcz90_3, hcz90_4, hcz90_5, hcz90_6, hcz90_7, hcz90_8, hcz90_9, hcz90_10, hcz90_11, hfz90_0, hfz90_1, hfz90_2, hfz90_3, hfz90_4, hfz90_5, hfz90_6, hfz90_7, hfz90_8, hfz90_9, hfz90_10, hfz90_11⟩ := blk12 BK320) | ((with_reducible refine gate_callee (f := 19) rfl ?_); refine goesL_ (some 98) rfl rfl Try.func19 (by kernel_rfl) rfl #[.agg #[.slice A0_0 l0_0.length c0_0, .bool a0_1], .agg #[.int .i64 a4_0, .int .i64 a4_1, .int .i64 a4_2, .int .i64 a4_3, .slice A4_4 l4_4.length c4_4, .slice A4_5 l4_5.length c4_5, .int .i64 a4_6, .int .i64 a4_7, .int .i64 a4_8, .int .i64 a4_9, .slice A4_10 l4_10.length c4_10, .int .u32 a4_11]] rfl (by (try simp only [List.map_toArray, List.map_cons, List.map_nil]); first | done | rfl | (simp only [List.length_drop, List.length_take]; rfl)) ?_; (with_reducible refine (drydockref19_Put.calls kj8 _ _ l0_0 a0_1 a4_0 a4_1 a4_2 a4_3 _ _ l4_4 _ _ l4_5 a4_6 a4_7 a4_8 a4_9 _ _ l4_10 a4_11 t386 t389 t390 t391 t392 t393 t394 t397 t400 t401 t402 t403 t404 t407 t408 _ ?side1 ?side2 ?side3 ?side4 ?side5 ?side6 ?side7 ?side8 A40.out).mono ?_); (case side1 => exact Kd.C_below HR0_0.out bs_); (case side2 => exact HC0_0.out); (case side3 => exact Kd.C_below HR4_4.out bs_); (case side4 => exact HC4_4.out); (case side5 => exact Kd.C_below HR4_5.out bs_); (case side6 => exact HC4_5.out); (case side7 => exact Kd.C_below HRX_.out bs_); (case side8 => exact HCX_.out); rintro e w91 ⟨v387, v395, v398, v405, rfl, ho0, ho1, ho2, ho3, hb⟩; refine ⟨_, rfl, ?_⟩; have n0_ := Aside0.mk (Kd.V_mono (Kd.V_told (Kd.V_told (Kd.V_told (Kd.V_told (Kd.V_old (by (with_reducible repeat (first | apply Kd.V_alloc | apply Kd.V_drewN | apply Kd.V_drew)); exact (Kd.V_mono (Kd.V_mono (far12V gb385 (far2V gb384 (Kd.V_mono (Kd.V_mono HO_321010.out (fun k_ hk => (⟨hk, hk.1.2⟩ : _ ∧ k_ ≠ gb384))) (fun k_ hk => (⟨hk, hk.1.2⟩ : _ ∧ k_ ≠ gb385))) (fun _ hk => hk.1.2)) (fun _ hk => hk.2)) (fun _ h_ => h_.1)) (fun _ h_ => h_.1))) hb) (Kd.R_base ho0)) (by first | exact Kd.S_base ho1 | exact Kd.N_base ho1)) (Kd.R_base ho2)) (by first | exact Kd.S_base ho3 | exact Kd.N_base ho3)) (fun _ h_ => h_.1)); have n1_ := Aside0.mk (Kd.N_mono (Kd.N_told (Kd.N_told (Kd.N_told (Kd.N_told (Kd.N_old (by (with_reducible repeat (first | apply Kd.N_alloc | apply Kd.N_drewN | apply Kd.N_drew)); exact (Kd.N_mono (Kd.N_mono (far12N gb385 (far2N gb384 (Kd.N_mono (Kd.N_mono HO333.out (fun k_ hk => (⟨hk, hk.1.2⟩ : _ ∧ k_ ≠ gb384))) (fun k_ hk => (⟨hk, hk.1.2⟩ : _ ∧ k_ ≠ gb385))) (fun _ hk => hk.1.2)) (fun _ hk => hk.2)) (fun _ h_ => h_.1)) (fun _ h_ => h_.1))) hb) (Kd.R_base ho0)) (by first | exact Kd.S_base ho1 | exact Kd.N_base ho1)) (Kd.R_base ho2)) (by first | exact Kd.S_base ho3 | exact Kd.N_base ho3)) (fun _ h_ => h_.1)); have n2_ := Aside0.mk (Kd.R_mono (Kd.R_told (Kd.R_told (Kd.R_old (by (with_reducible repeat (first | apply Kd.R_alloc | apply Kd.R_drewN | apply Kd.R_drew)); exact (Kd.R_mono (Kd.R_mono (far12 gb385 (far2 gb384 (Kd.R_types (Kd.R_types HO336.out BK384.out (by decide)) BK385.out (by decide)) (fun _ hk => hk.1.2)) (fun _ hk => hk.2)) (fun _ h_ => h_.1)) (fun _ h_ => h_.1))) hb) (Kd.R_base ho0)) (Kd.R_base ho2)) (fun _ h_ => h_.1)); have n3_ := Aside0.mk (Kd.N_mono (Kd.N_told (Kd.N_told (Kd.N_told (Kd.N_told (Kd.N_old (by (with_reducible repeat (first | apply Kd.N_alloc | apply Kd.N_drewN | apply Kd.N_drew)); exact (Kd.N_mono (Kd.N_mono (far12N gb385 (far2N gb384 (Kd.N_mono (Kd.N_mono HO343.out (fun k_ hk => (⟨hk, hk.1.2⟩ : _ ∧ k_ ≠ gb384))) (fun k_ hk => (⟨hk, hk.1.2⟩ : _ ∧ k_ ≠ gb385))) (fun _ hk => hk.1.2)) (fun _ hk => hk.2)) (fun _ h_ => h_.1)) (fun _ h_ => h_.1))) hb) (Kd.R_base ho0)) (by first | exact Kd.S_base ho1 | exact Kd.N_base ho1)) (Kd.R_base ho2)) (by first | exact Kd.S_base ho3 | exact Kd.N_base ho3)) (fun _ h_ => h_.1)); have n4_ := Aside0.mk (Kd.R_mono (Kd.R_told (Kd.R_told (Kd.R_old (by (with_reducible repeat (first | apply Kd.R_alloc | apply Kd.R_drewN | apply Kd.R_drew)); exact (Kd.R_mono (Kd.R_mono (far12 gb385 (far2 gb384 (Kd.R_types (Kd.R_types HO348.out BK384.out (by decide)) BK385.out (by decide)) (fun _ hk => hk.1.2)) (fun _ hk => hk.2)) (fun _ h_ => h_.1)) (fun _ h_ => h_.1))) hb) (Kd.R_base ho0)) (Kd.R_base ho2)) (fun _ h_ => h_.1)); have n5_ := Aside0.mk (Kd.R_mono (Kd.R_told (Kd.R_told (Kd.R_old (by (with_reducible repeat (first | apply Kd.R_alloc | apply Kd.R_drewN | apply Kd.R_drew)); exact (Kd.R_mono (Kd.R_mono (far12 gb385 (far2 gb384 (Kd.R_types (Kd.R_types HO352.out BK384.out (by decide)) BK385.out (by decide)) (fun _ hk => hk.1.2)) (fun _ hk => hk.2)) (fun _ h_ => h_.1)) (fun _ h_ => h_.1))) hb) (Kd.R_base ho0)) (Kd.R_base ho2)) (fun _ h_ => h_.1)); have n6_ := Aside0.mk (Kd.R_mono (Kd.R_told (Kd.R_told (Kd.R_old (by (with_reducible repeat (first | apply Kd.R_alloc | apply Kd.R_drewN | apply Kd.R_drew)); exact (Kd.R_mono (Kd.R_mono (far12 gb385 (far2 gb384 (Kd.R_types (Kd.R_types HO363.out BK384.out (by decide)) BK385.out (by decide)) (fun _ hk => hk.1.2)) (fun _ hk => hk.2)) (fun _ h_ => h_.1)) (fun _ h_ => h_.1))) hb) (Kd.R_base ho0)) (Kd.R_base ho2)) (fun _ h_ => h_.1)); have n7_ := Aside0.mk (Kd.N_mono (Kd.N_told (Kd.N_told (Kd.N_told (Kd.N_told (Kd.N_old (by (with_reducible repeat (first | apply Kd.N_alloc | apply Kd.N_drewN | apply Kd.N_drew)); exact (Kd.N_mono (Kd.N_mono (far12N gb385 (far2N gb384 (Kd.N_mono (Kd.N_mono HO371.out (fun k_ hk => (⟨hk, hk.1.2⟩ : _ ∧ k_ ≠ gb384))) (fun k_ hk => (⟨hk, hk.1.2⟩ : _ ∧ k_ ≠ gb385))) (fun _ hk => hk.1.2)) (fun _ hk => hk.2)) (fun _ h_ => h_.1)) (fun _ h_ => h_.1))) hb) (Kd.R_base ho0)) (by first | exact Kd.S_base ho1 | exact Kd.N_base ho1)) (Kd.R_base ho2)) (by first | exact Kd.S_base ho3 | exact Kd.N_base ho3)) (fun _ h_ => h_.1)); have n8_ := Aside0.mk (Kd.R_mono (Kd.R_told (Kd.R_told (Kd.R_old (by (with_reducible repeat (first | apply Kd.R_alloc | apply Kd.R_drewN | apply Kd.R_drew)); exact (Kd.R_mono (Kd.R_mono (far12 gb385 (far2 gb384 (Kd.R_types (Kd.R_types HO374.out BK384.out (by decide)) BK385.out (by decide)) (fun _ hk => hk.1.2)) (fun _ hk => hk.2)) (fun _ h_ => h_.1)) (fun _ h_ => h_.1))) hb) (Kd.R_base ho0)) (Kd.R_base ho2)) (fun _ h_ => h_.1)); have n9_ := Aside0.mk (Kd.N_mono (Kd.N_told (Kd.N_told (Kd.N_told (Kd.N_told (Kd.N_old (by (with_reducible repeat (first | apply Kd.N_alloc | apply Kd.N_drewN | apply Kd.N_drew)); exact (Kd.N_mono (Kd.N_mono (far12N gb385 (far2N gb384 (Kd.N_mono (Kd.N_mono HO381.out (fun k_ hk => (⟨hk, hk.1.2⟩ : _ ∧ k_ ≠ gb384))) (fun k_ hk => (⟨hk, hk.1.2⟩ : _ ∧ k_ ≠ gb385))) (fun _ hk => hk.1.2)) (fun _ hk => hk.2)) (fun _ h_ => h_.1)) (fun _ h_ => h_.1))) hb) (Kd.R_base ho0)) (by first | exact Kd.S_base ho1 | exact Kd.N_base ho1)) (Kd.R_base ho2)) (by first | exact Kd.S_base ho3 | exact Kd.N_base ho3)) (fun _ h_ => h_.1)); have n10_ := Aside0.mk (Kd.R_lower (Kd.R_new' (Kd.R_new' (Kd.R_new' (Kd.R_new' (Kd.R_new' (Kd.R_newM (M := fun k_ => (w.heap.size ≤ k_)) ho0 (below_size bs_) (fun k_ h_ => h_)) (Kd.R_lt (by (with_reducible repeat (first | apply Kd.R_alloc | apply Kd.R_drewN | apply Kd.R_drew)); exact (Kd.R_mono (Kd.R_mono (far12 gb385 (far2 gb384 (Kd.R_types (Kd.R_types HO336.out BK384.out (by decide)) BK385.out (by decide)) (fun _ hk => hk.1.2)) (fun _ hk => hk.2)) (fun _ h_ => h_.1)) (fun _ h_ => h_.1))))) (Kd.R_lt (by (with_reducible repeat (first | apply Kd.R_alloc | apply Kd.R_drewN | apply Kd.R_drew)); exact (Kd.R_mono (Kd.R_mono (far12 gb385 (far2 gb384 (Kd.R_types (Kd.R_types HO348.out BK384.out (by decide)) BK385.out (by decide)) (fun _ hk => hk.1.2)) (fun _ hk => hk.2)) (fun _ h_ => h_.1)) (fun _ h_ => h_.1))))) (Kd.R_lt (by (with_reducible repeat (first | apply Kd.R_alloc | apply Kd.R_drewN | apply Kd.R_drew)); exact (Kd.R_mono (Kd.R_mono (far12 gb385 (far2 gb384 (Kd.R_types (Kd.R_types HO352.out BK384.out (by decide)) BK385.out (by decide)) (fun _ hk => hk.1.2)) (fun _ hk => hk.2)) (fun _ h_ => h_.1)) (fun _ h_ => h_.1))))) (Kd.R_lt (by (with_reducible repeat (first | apply Kd.R_alloc | apply Kd.R_drewN | apply Kd.R_drew)); exact (Kd.R_mono (Kd.R_mono (far12 gb385 (far2 gb384 (Kd.R_types (Kd.R_types HO363.out BK384.out (by decide)) BK385.out (by decide)) (fun _ hk => hk.1.2)) (fun _ hk => hk.2)) (fun _ h_ => h_.1)) (fun _ h_ => h_.1))))) (Kd.R_lt (by (with_reducible repeat (first | apply Kd.R_alloc | apply Kd.R_drewN | apply Kd.R_drew)); exact (Kd.R_mono (Kd.R_mono (far12 gb385 (far2 gb384 (Kd.R_types (Kd.R_types HO374.out BK384.out (by decide)) BK385.out (by decide)) (fun _ hk => hk.1.2)) (fun _ hk => hk.2)) (fun _ h_ => h_.1)) (fun _ h_ => h_.1))))) (below_size bs_)); have n11_ := Aside0.mk (Kd.N_lower (Kd.N_mono (ok' := fun k_ => (P4_10_ k_ ∨ w.heap.size ≤ k_) ∧ some k_ ≠ (v387 : Value).ownBlock ∧ some k_ ≠ (v398 : Value).ownBlock ∧ some k_ ≠ (v405 : Value).ownBlock ∧ some k_ ≠ (.slice Ao59 t331.length co59 : Value).ownBlock ∧ some k_ ≠ (.slice Ao58 t334.length co58 : Value).ownBlock ∧ some k_ ≠ (.slice Ao57 t341.length co57 : Value).ownBlock ∧ some k_ ≠ (.slice Ao68 t346.length co68 : Value).ownBlock ∧ some k_ ≠ (.slice Ao69 t350.length co69 : Value).ownBlock ∧ some k_ ≠ (.slice Ao77 t361.length co77 : Value).ownBlock ∧ some k_ ≠ (.slice Ao76 t369.length co76 : Value).ownBlock ∧ some k_ ≠ (.slice Ao75 t372.length co75 : Value).ownBlock ∧ some k_ ≠ (.slice Ao74 t379.length co74 : Value).ownBlock ∧ k_ ≠ gb319 ∧ k_ ≠ gb320 ∧ k_ ≠ gb345 ∧ k_ ≠ gb384 ∧ k_ ≠ gb385) (Kd.S_N (Kd.S_bound (Kd.S_apart' (Kd.S_apart' (Kd.S_apart' ho1 (Kd.R_typed ho0) (by decide)) (Kd.R_typed ho2) (by decide)) (Kd.S_typed ho3) (by decide)))) (fun k_ hk_ => ⟨(.inr (Nat.le_trans (below_size bs_) hk_.2.1)), hk_.1.1.1.2, hk_.1.1.2, hk_.1.2, (Kd.fresh' (Kd.N_lt (by (with_reducible repeat (first | apply Kd.N_alloc | apply Kd.N_drewN | apply Kd.N_drew)); exact (Kd.N_mono (Kd.N_mono (far12N gb385 (far2N gb384 (Kd.N_mono (Kd.N_mono HO333.out (fun k_ hk => (⟨hk, hk.1.2⟩ : _ ∧ k_ ≠ gb384))) (fun k_ hk => (⟨hk, hk.1.2⟩ : _ ∧ k_ ≠ gb385))) (fun _ hk => hk.1.2)) (fun _ hk => hk.2)) (fun _ h_ => h_.1)) (fun _ h_ => h_.1)))) k_ hk_.2.1), (Kd.fresh' (Kd.R_lt (by (with_reducible repeat (first | apply Kd.R_alloc | apply Kd.R_drewN | apply Kd.R_drew)); exact (Kd.R_mono (Kd.R_mono (far12 gb385 (far2 gb384 (Kd.R_types (Kd.R_types HO336.out BK384.out (by decide)) BK385.out (by decide)) (fun _ hk => hk.1.2)) (fun _ hk => hk.2)) (fun _ h_ => h_.1)) (fun _ h_ => h_.1)))) k_ hk_.2.1), (Kd.fresh' (Kd.N_lt (by (with_reducible repeat (first | apply Kd.N_alloc | apply Kd.N_drewN | apply Kd.N_drew)); exact (Kd.N_mono (Kd.N_mono (far12N gb385 (far2N gb384 (Kd.N_mono (Kd.N_mono HO343.out (fun k_ hk => (⟨hk, hk.1.2⟩ : _ ∧ k_ ≠ gb384))) (fun k_ hk => (⟨hk, hk.1.2⟩ : _ ∧ k_ ≠ gb385))) (fun _ hk => hk.1.2)) (fun _ hk => hk.2)) (fun _ h_ => h_.1)) (fun _ h_ => h_.1)))) k_ hk_.2.1), (Kd.fresh' (Kd.R_lt (by (with_reducible repeat (first | apply Kd.R_alloc | apply Kd.R_drewN | apply Kd.R_drew)); exact (Kd.R_mono (Kd.R_mono (far12 gb385 (far2 gb384 (Kd.R_types (Kd.R_types HO348.out BK384.out (by decide)) BK385.out (by decide)) (fun _ hk => hk.1.2)) (fun _ hk => hk.2)) (fun _ h_ => h_.1)) (fun _ h_ => h_.1)))) k_ hk_.2.1), (Kd.fresh' (Kd.R_lt (by (with_reducible repeat (first | apply Kd.R_alloc | apply Kd.R_drewN | apply Kd.R_drew)); exact (Kd.R_mono (Kd.R_mono (far12 gb385 (far2 gb384 (Kd.R_types (Kd.R_types HO352.out BK384.out (by decide)) BK385.out (by decide)) (fun _ hk => hk.1.2)) (fun _ hk => hk.2)) (fun _ h_ => h_.1)) (fun _ h_ => h_.1)))) k_ hk_.2.1), (Kd.fresh' (Kd.R_lt (by (with_reducible repeat (first | apply Kd.R_alloc | apply Kd.R_drewN | apply Kd.R_drew)); exact (Kd.R_mono (Kd.R_mono (far12 gb385 (far2 gb384 (Kd.R_types (Kd.R_types HO363.out BK384.out (by decide)) BK385.out (by decide)) (fun _ hk => hk.1.2)) (fun _ hk => hk.2)) (fun _ h_ => h_.1)) (fun _ h_ => h_.1)))) k_ hk_.2.1), (Kd.fresh' (Kd.N_lt (by (with_reducible repeat (first | apply Kd.N_alloc | apply Kd.N_drewN | apply Kd.N_drew)); exact (Kd.N_mono (Kd.N_mono (far12N gb385 (far2N gb384 (Kd.N_mono (Kd.N_mono HO371.out (fun k_ hk => (⟨hk, hk.1.2⟩ : _ ∧ k_ ≠ gb384))) (fun k_ hk => (⟨hk, hk.1.2⟩ : _ ∧ k_ ≠ gb385))) (fun _ hk => hk.1.2)) (fun _ hk => hk.2)) (fun _ h_ => h_.1)) (fun _ h_ => h_.1)))) k_ hk_.2.1), (Kd.fresh' (Kd.R_lt (by (with_reducible repeat (first | apply Kd.R_alloc | apply Kd.R_drewN | apply Kd.R_drew)); exact (Kd.R_mono (Kd.R_mono (far12 gb385 (far2 gb384 (Kd.R_types (Kd.R_types HO374.out BK384.out (by decide)) BK385.out (by decide)) (fun _ hk => hk.1.2)) (fun _ hk => hk.2)) (fun _ h_ => h_.1)) (fun _ h_ => h_.1)))) k_ hk_.2.1), (Kd.fresh' (Kd.N_lt (by (with_reducible repeat (first | apply Kd.N_alloc | apply Kd.N_drewN | apply Kd.N_drew)); exact (Kd.N_mono (Kd.N_mono (far12N gb385 (far2N gb384 (Kd.N_mono (Kd.N_mono HO381.out (fun k_ hk => (⟨hk, hk.1.2⟩ : _ ∧ k_ ≠ gb384))) (fun k_ hk => (⟨hk, hk.1.2⟩ : _ ∧ k_ ≠ gb385))) (fun _ hk => hk.1.2)) (fun _ hk => hk.2)) (fun _ h_ => h_.1)) (fun _ h_ => h_.1)))) k_ hk_.2.1), (Kd.freshB (g := gb319) (o := .cells #[.slice A0_0 l0_0.length c0_0, .bool a0_1] 25 (0, 0)) (bf_ BK319) k_ hk_.2.1), (Kd.freshB (g := gb320) (o := .cells #[.int .i64 a4_0, .int .i64 a4_1, .int .i64 a4_2, .int .i64 a4_3, .slice A4_4 l4_4.length c4_4, .slice A4_5 l4_5.length c4_5, .int .i64 a4_6, .int .i64 a4_7, .int .i64 a4_8, .int .i64 a4_9, .slice A4_10 l4_10.length c4_10, .int .u32 a4_11] 42 (0, 0)) (bf_ BK320) k_ hk_.2.1), (Kd.freshB (g := gb345) (o := .cells #[.int .i64 t327, .int .i64 t328, .int .i64 t329, .int .i64 t330, .slice Ao59 t331.length co59, .slice Ao58 t334.length co58, .int .i64 t337, .int .i64 t338, .int .i64 t339, .int .i64 t340, .slice Ao57 t341.length co57, .int .u32 t344] 42 (0, 0)) (bf_ BK345) k_ hk_.2.1), (Kd.freshB (g := gb384) (o := .cells #[.slice Ao77 t361.length co77, .bool t364] 25 (0, 0)) (bp_ BK384) k_ hk_.2.1), (Kd.freshB (g := gb385) (o := .cells #[.int .i64 t365, .int .i64 t366, .int .i64 t367, .int .i64 t368, .slice Ao76 t369.length co76, .slice Ao75 t372.length co75, .int .i64 t375, .int .i64 t376, .int .i64 t377, .int .i64 t378, .slice Ao74 t379.length co74, .int .u32 t382] 42 (0, 0)) (bp_ BK385) k_ hk_.2.1)⟩)) (below_size bs_)); have n12_ := Aside0.mk (Kd.R_lower (Kd.R_new' (Kd.R_new' (Kd.R_new' (Kd.R_new' (Kd.R_new' (Kd.R_newM (M := fun k_ => (w.heap.size ≤ k_)) ho2 (below_size bs_) (fun k_ h_ => h_)) (Kd.R_lt (by (with_reducible repeat (first | apply Kd.R_alloc | apply Kd.R_drewN | apply Kd.R_drew)); exact (Kd.R_mono (Kd.R_mono (far12 gb385 (far2 gb384 (Kd.R_types (Kd.R_types HO336.out BK384.out (by decide)) BK385.out (by decide)) (fun _ hk => hk.1.2)) (fun _ hk => hk.2)) (fun _ h_ => h_.1)) (fun _ h_ => h_.1))))) (Kd.R_lt (by (with_reducible repeat (first | apply Kd.R_alloc | apply Kd.R_drewN | apply Kd.R_drew)); exact (Kd.R_mono (Kd.R_mono (far12 gb385 (far2 gb384 (Kd.R_types (Kd.R_types HO348.out BK384.out (by decide)) BK385.out (by decide)) (fun _ hk => hk.1.2)) (fun _ hk => hk.2)) (fun _ h_ => h_.1)) (fun _ h_ => h_.1))))) (Kd.R_lt (by (with_reducible repeat (first | apply Kd.R_alloc | apply Kd.R_drewN | apply Kd.R_drew)); exact (Kd.R_mono (Kd.R_mono (far12 gb385 (far2 gb384 (Kd.R_types (Kd.R_types HO352.out BK384.out (by decide)) BK385.out (by decide)) (fun _ hk => hk.1.2)) (fun _ hk => hk.2)) (fun _ h_ => h_.1)) (fun _ h_ => h_.1))))) (Kd.R_lt (by (with_reducible repeat (first | apply Kd.R_alloc | apply Kd.R_drewN | apply Kd.R_drew)); exact (Kd.R_mono (Kd.R_mono (far12 gb385 (far2 gb384 (Kd.R_types (Kd.R_types HO363.out BK384.out (by decide)) BK385.out (by decide)) (fun _ hk => hk.1.2)) (fun _ hk => hk.2)) (fun _ h_ => h_.1)) (fun _ h_ => h_.1))))) (Kd.R_lt (by (with_reducible repeat (first | apply Kd.R_alloc | apply Kd.R_drewN | apply Kd.R_drew)); exact (Kd.R_mono (Kd.R_mono (far12 gb385 (far2 gb384 (Kd.R_types (Kd.R_types HO374.out BK384.out (by decide)) BK385.out (by decide)) (fun _ hk => hk.1.2)) (fun _ hk => hk.2)) (fun _ h_ => h_.1)) (fun _ h_ => h_.1))))) (below_size bs_)); have n13_ := Aside0.mk (Kd.N_lower (Kd.N_mono (ok' := fun k_ => (P4_10_ k_ ∨ w.heap.size ≤ k_) ∧ some k_ ≠ (v387 : Value).ownBlock ∧ some k_ ≠ (v395 : Value).ownBlock ∧ some k_ ≠ (v398 : Value).ownBlock ∧ some k_ ≠ (.slice Ao59 t331.length co59 : Value).ownBlock ∧ some k_ ≠ (.slice Ao58 t334.length co58 : Value).ownBlock ∧ some k_ ≠ (.slice Ao57 t341.length co57 : Value).ownBlock ∧ some k_ ≠ (.slice Ao68 t346.length co68 : Value).ownBlock ∧ some k_ ≠ (.slice Ao69 t350.length co69 : Value).ownBlock ∧ some k_ ≠ (.slice Ao77 t361.length co77 : Value).ownBlock ∧ some k_ ≠ (.slice Ao76 t369.length co76 : Value).ownBlock ∧ some k_ ≠ (.slice Ao75 t372.length co75 : Value).ownBlock ∧ some k_ ≠ (.slice Ao74 t379.length co74 : Value).ownBlock ∧ k_ ≠ gb319 ∧ k_ ≠ gb320 ∧ k_ ≠ gb345 ∧ k_ ≠ gb384 ∧ k_ ≠ gb385) (Kd.S_N (Kd.S_bound (Kd.S_apart' ho3 (Kd.S_typed ho1) (by decide)))) (fun k_ hk_ => ⟨(.inr (Nat.le_trans (below_size bs_) hk_.2.1)), hk_.1.1.1, hk_.1.2, hk_.1.1.2, (Kd.fresh' (Kd.N_lt (by (with_reducible repeat (first | apply Kd.N_alloc | apply Kd.N_drewN | apply Kd.N_drew)); exact (Kd.N_mono (Kd.N_mono (far12N gb385 (far2N gb384 (Kd.N_mono (Kd.N_mono HO333.out (fun k_ hk => (⟨hk, hk.1.2⟩ : _ ∧ k_ ≠ gb384))) (fun k_ hk => (⟨hk, hk.1.2⟩ : _ ∧ k_ ≠ gb385))) (fun _ hk => hk.1.2)) (fun _ hk => hk.2)) (fun _ h_ => h_.1)) (fun _ h_ => h_.1)))) k_ hk_.2.1), (Kd.fresh' (Kd.R_lt (by (with_reducible repeat (first | apply Kd.R_alloc | apply Kd.R_drewN | apply Kd.R_drew)); exact (Kd.R_mono (Kd.R_mono (far12 gb385 (far2 gb384 (Kd.R_types (Kd.R_types HO336.out BK384.out (by decide)) BK385.out (by decide)) (fun _ hk => hk.1.2)) (fun _ hk => hk.2)) (fun _ h_ => h_.1)) (fun _ h_ => h_.1)))) k_ hk_.2.1), (Kd.fresh' (Kd.N_lt (by (with_reducible repeat (first | apply Kd.N_alloc | apply Kd.N_drewN | apply Kd.N_drew)); exact (Kd.N_mono (Kd.N_mono (far12N gb385 (far2N gb384 (Kd.N_mono (Kd.N_mono HO343.out (fun k_ hk => (⟨hk, hk.1.2⟩ : _ ∧ k_ ≠ gb384))) (fun k_ hk => (⟨hk, hk.1.2⟩ : _ ∧ k_ ≠ gb385))) (fun _ hk => hk.1.2)) (fun _ hk => hk.2)) (fun _ h_ => h_.1)) (fun _ h_ => h_.1)))) k_ hk_.2.1), (Kd.fresh' (Kd.R_lt (by (with_reducible repeat (first | apply Kd.R_alloc | apply Kd.R_drewN | apply Kd.R_drew)); exact (Kd.R_mono (Kd.R_mono (far12 gb385 (far2 gb384 (Kd.R_types (Kd.R_types HO348.out BK384.out (by decide)) BK385.out (by decide)) (fun _ hk => hk.1.2)) (fun _ hk => hk.2)) (fun _ h_ => h_.1)) (fun _ h_ => h_.1)))) k_ hk_.2.1), (Kd.fresh' (Kd.R_lt (by (with_reducible repeat (first | apply Kd.R_alloc | apply Kd.R_drewN | apply Kd.R_drew)); exact (Kd.R_mono (Kd.R_mono (far12 gb385 (far2 gb384 (Kd.R_types (Kd.R_types HO352.out BK384.out (by decide)) BK385.out (by decide)) (fun _ hk => hk.1.2)) (fun _ hk => hk.2)) (fun _ h_ => h_.1)) (fun _ h_ => h_.1)))) k_ hk_.2.1), (Kd.fresh' (Kd.R_lt (by (with_reducible repeat (first | apply Kd.R_alloc | apply Kd.R_drewN | apply Kd.R_drew)); exact (Kd.R_mono (Kd.R_mono (far12 gb385 (far2 gb384 (Kd.R_types (Kd.R_types HO363.out BK384.out (by decide)) BK385.out (by decide)) (fun _ hk => hk.1.2)) (fun _ hk => hk.2)) (fun _ h_ => h_.1)) (fun _ h_ => h_.1)))) k_ hk_.2.1), (Kd.fresh' (Kd.N_lt (by (with_reducible repeat (first | apply Kd.N_alloc | apply Kd.N_drewN | apply Kd.N_drew)); exact (Kd.N_mono (Kd.N_mono (far12N gb385 (far2N gb384 (Kd.N_mono (Kd.N_mono HO371.out (fun k_ hk => (⟨hk, hk.1.2⟩ : _ ∧ k_ ≠ gb384))) (fun k_ hk => (⟨hk, hk.1.2⟩ : _ ∧ k_ ≠ gb385))) (fun _ hk => hk.1.2)) (fun _ hk => hk.2)) (fun _ h_ => h_.1)) (fun _ h_ => h_.1)))) k_ hk_.2.1), (Kd.fresh' (Kd.R_lt (by (with_reducible repeat (first | apply Kd.R_alloc | apply Kd.R_drewN | apply Kd.R_drew)); exact (Kd.R_mono (Kd.R_mono (far12 gb385 (far2 gb384 (Kd.R_types (Kd.R_types HO374.out BK384.out (by decide)) BK385.out (by decide)) (fun _ hk => hk.1.2)) (fun _ hk => hk.2)) (fun _ h_ => h_.1)) (fun _ h_ => h_.1)))) k_ hk_.2.1), (Kd.fresh' (Kd.N_lt (by (with_reducible repeat (first | apply Kd.N_alloc | apply Kd.N_drewN | apply Kd.N_drew)); exact (Kd.N_mono (Kd.N_mono (far12N gb385 (far2N gb384 (Kd.N_mono (Kd.N_mono HO381.out (fun k_ hk => (⟨hk, hk.1.2⟩ : _ ∧ k_ ≠ gb384))) (fun k_ hk => (⟨hk, hk.1.2⟩ : _ ∧ k_ ≠ gb385))) (fun _ hk => hk.1.2)) (fun _ hk => hk.2)) (fun _ h_ => h_.1)) (fun _ h_ => h_.1)))) k_ hk_.2.1), (Kd.freshB (g := gb319) (o := .cells #[.slice A0_0 l0_0.length c0_0, .bool a0_1] 25 (0, 0)) (bf_ BK319) k_ hk_.2.1), (Kd.freshB (g := gb320) (o := .cells #[.int .i64 a4_0, .int .i64 a4_1, .int .i64 a4_2, .int .i64 a4_3, .slice A4_4 l4_4.length c4_4, .slice A4_5 l4_5.length c4_5, .int .i64 a4_6, .int .i64 a4_7, .int .i64 a4_8, .int .i64 a4_9, .slice A4_10 l4_10.length c4_10, .int .u32 a4_11] 42 (0, 0)) (bf_ BK320) k_ hk_.2.1), (Kd.freshB (g := gb345) (o := .cells #[.int .i64 t327, .int .i64 t328, .int .i64 t329, .int .i64 t330, .slice Ao59 t331.length co59, .slice Ao58 t334.length co58, .int .i64 t337, .int .i64 t338, .int .i64 t339, .int .i64 t340, .slice Ao57 t341.length co57, .int .u32 t344] 42 (0, 0)) (bf_ BK345) k_ hk_.2.1), (Kd.freshB (g := gb384) (o := .cells #[.slice Ao77 t361.length co77, .bool t364] 25 (0, 0)) (bp_ BK384) k_ hk_.2.1), (Kd.freshB (g := gb385) (o := .cells #[.int .i64 t365, .int .i64 t366, .int .i64 t367, .int .i64 t368, .slice Ao76 t369.length co76, .slice Ao75 t372.length co75, .int .i64 t375, .int .i64 t376, .int .i64 t377, .int .i64 t378, .slice Ao74 t379.length co74, .int .u32 t382] 42 (0, 0)) (bp_ BK385) k_ hk_.2.1)⟩)) (below_size bs_)); have n14_ := Aside0.mk (blk_below (bf_ BK319) hb); have n15_ := Aside0.mk (blk_below (bf_ BK320) hb); have n16_ := Aside0.mk (blk_below (bf_ BK345) hb); have n17_ := Aside0.mk (blk_below (bp_ (o := .cells #[.slice Ao77 t361.length co77, .bool t364] 25 (0, 0)) BK384) hb); have n18_ := Aside0.mk (blk_below (bp_ (o := .cells #[.int .i64 t365, .int .i64 t366, .int .i64 t367, .int .i64 t368, .slice Ao76 t369.length co76, .slice Ao75 t372.length co75, .int .i64 t375, .int .i64 t376, .int .i64 t377, .int .i64 t378, .slice Ao74 t379.length co74, .int .u32 t382] 42 (0, 0)) BK385) hb); have n19_ := Aside0.mk (below_step bs_ hb); clear HO_321010 HO333 HO336 HO343 HO348 HO352 HO363 HO371 HO374 HO381 BK319 BK320 BK345 BK384 BK385 HB; have HO_321010 := n0_; have HO333 := n1_; have HO336 := n2_; have HO343 := n3_; have HO348 := n4_; have HO352 := n5_; have HO363 := n6_; have HO371 := n7_; have HO374 := n8_; have HO381 := n9_; have HO388 := n10_; have HO396 := n11_; have HO399 := n12_; have HO406 := n13_; have BK319 := n14_; have BK320 := n15_; have BK345 := n16_; have BK384 := n17_; have BK385 := n18_; have HB := n19_; clear n0_ n1_ n2_ n3_ n4_ n5_ n6_ n7_ n8_ n9_ n10_ n11_ n12_ n13_ n14_ n15_ n16_ n17_ n18_ n19_; (try clear hb); (try clear hb2); (try clear hk); (try clear hi); (try clear ho0); (try clear ho1); (try clear ho2); (try clear ho3); obtain ⟨Ao92, co92, eo92⟩ := Kd.N_slice HO406.out; subst eo92; obtain ⟨Ao93, co93, eo93⟩ := Kd.R_slice HO399.out; subst eo93; obtain ⟨Ao94, co94, eo94⟩ := Kd.N_slice HO396.out; subst eo94; obtain ⟨Ao95, co95, eo95⟩ := Kd.R_slice HO388.out; subst eo95) | ((with_reducible refine gate_dst (N := 25) rfl ?_); (try (refine gate_guard (by rfl) ?_; dsimp only)); refine box_event ?hg (N := 25) ?hd (cs := #[.slice none 0 0, .bool false]) (t := 25) ?hr ?_; (case hd => rfl); (case hg => rfl); (case hr => first | (go_simp; done) | (go_simp; rfl)); intro gb409 hg w96 hbox hb; have n0_ := Aside0.mk (Kd.V_below (Kd.V_elderB (vk_ HO_321010) gb409 (Nat.le_of_eq hg.symm)) hb); have n1_ := Aside0.mk (Kd.N_below (Kd.N_elderB (nk_ HO333) gb409 (Nat.le_of_eq hg.symm)) hb); have n2_ := Aside0.mk (Kd.R_below (rk_ HO336) hb); have n3_ := Aside0.mk (Kd.N_below (Kd.N_elderB (nk_ HO343) gb409 (Nat.le_of_eq hg.symm)) hb); have n4_ := Aside0.mk (Kd.R_below (rk_ HO348) hb); have n5_ := Aside0.mk (Kd.R_below (rk_ HO352) hb); have n6_ := Aside0.mk (Kd.R_below (rk_ HO363) hb); have n7_ := Aside0.mk (Kd.N_below (Kd.N_elderB (nk_ HO371) gb409 (Nat.le_of_eq hg.symm)) hb); have n8_ := Aside0.mk (Kd.R_below (rk_ HO374) hb); have n9_ := Aside0.mk (Kd.N_below (Kd.N_elderB (nk_ HO381) gb409 (Nat.le_of_eq hg.symm)) hb); have n10_ := Aside0.mk (Kd.R_below (rk_ HO388) hb); have n11_ := Aside0.mk (Kd.N_below (Kd.N_elderB (nk_ HO396) gb409 (Nat.le_of_eq hg.symm)) hb); have n12_ := Aside0.mk (Kd.R_below (rk_ HO399) hb); have n13_ := Aside0.mk (Kd.N_below (Kd.N_elderB (nk_ HO406) gb409 (Nat.le_of_eq hg.symm)) hb); have n14_ := Aside0.mk (blk_below (bk_ BK319) hb); have n15_ := Aside0.mk (blk_below (bk_ BK320) hb); have n16_ := Aside0.mk (blk_below (bk_ BK345) hb); have n17_ := Aside0.mk (blk_below (bk_ BK384) hb); have n18_ := Aside0.mk (blk_below (bk_ BK385) hb); have n19_ := Aside0.mk (below_step bs_ hb); have n20_ := Aside0.mk (hbox); have n21_ := Aside0.mk ((by rw [hg]; exact (below_size bs_) : w.heap.size ≤ gb409)); have n22_ := Aside0.mk ((by rw [hg]; exact (below_size bs_) : w.heap.size ≤ gb409)); have n23_ := Aside0.mk ((by rw [hg]; exact Nat.ne_of_lt (blk_lt (bk_ BK319)) : gb319 ≠ gb409)); have n24_ := Aside0.mk ((by rw [hg]; exact Nat.ne_of_gt (blk_lt (bk_ BK319)) : gb409 ≠ gb319)); have n25_ := Aside0.mk ((by rw [hg]; exact Nat.ne_of_lt (blk_lt (bk_ BK320)) : gb320 ≠ gb409)); have n26_ := Aside0.mk ((by rw [hg]; exact Nat.ne_of_gt (blk_lt (bk_ BK320)) : gb409 ≠ gb320)); have n27_ := Aside0.mk ((by rw [hg]; exact Nat.ne_of_lt (blk_lt (bk_ BK345)) : gb345 ≠ gb409)); have n28_ := Aside0.mk ((by rw [hg]; exact Nat.ne_of_gt (blk_lt (bk_ BK345)) : gb409 ≠ gb345)); have n29_ := Aside0.mk ((by rw [hg]; exact Nat.ne_of_lt (blk_lt (bk_ BK384)) : gb384 ≠ gb409)); have n30_ := Aside0.mk ((by rw [hg]; exact Nat.ne_of_gt (blk_lt (bk_ BK384)) : gb409 ≠ gb384)); have n31_ := Aside0.mk ((by rw [hg]; exact Nat.ne_of_lt (blk_lt (bk_ BK385)) : gb385 ≠ gb409)); have n32_ := Aside0.mk ((by rw [hg]; exact Nat.ne_of_gt (blk_lt (bk_ BK385)) : gb409 ≠ gb385)); clear HO_321010 HO333 HO336 HO343 HO348 HO352 HO363 HO371 HO374 HO381 HO388 HO396 HO399 HO406 BK319 BK320 BK345 BK384 BK385 HB; have HO_321010 := n0_; have HO333 := n1_; have HO336 := n2_; have HO343 := n3_; have HO348 := n4_; have HO352 := n5_; have HO363 := n6_; have HO371 := n7_; have HO374 := n8_; have HO381 := n9_; have HO388 := n10_; have HO396 := n11_; have HO399 := n12_; have HO406 := n13_; have BK319 := n14_; have BK320 := n15_; have BK345 := n16_; have BK384 := n17_; have BK385 := n18_; have HB := n19_; have BK409 := n20_; have GW409 := n21_; have GE409 := n22_; have NB319_409 := n23_; have NB409_319 := n24_; have NB320_409 := n25_; have NB409_320 := n26_; have NB345_409 := n27_; have NB409_345 := n28_; have NB384_409 := n29_; have NB409_384 := n30_; have NB385_409 := n31_; have NB409_385 := n32_; clear n0_ n1_ n2_ n3_ n4_ n5_ n6_ n7_ n8_ n9_ n10_ n11_ n12_ n13_ n14_ n15_ n16_ n17_ n18_ n19_ n20_ n21_ n22_ n23_ n24_ n25_ n26_ n27_ n28_ n29_ n30_ n31_ n32_; clear hb hbox hg) | ((with_reducible refine gate_dst (N := 26) rfl ?_); (try (refine gate_guard (by rfl) ?_; dsimp only)); refine box_event ?hg (N := 26) ?hd (cs := #[.int .i64 0, .int .i64 0, .int .i64 0, .int .i64 0, .slice none 0 0, .slice none 0 0, .int .i64 0, .int .i64 0, .int .i64 0, .int .i64 0, .slice none 0 0, .int .u32 0]) (t := 42) ?hr ?_; (case hd => rfl); (case hg => rfl); (case hr => first | (go_simp; done) | (go_simp; rfl)); intro gb410 hg w97 hbox hb; have n0_ := Aside0.mk (Kd.V_below (Kd.V_elderB (vk_ HO_321010) gb410 (Nat.le_of_eq hg.symm)) hb); have n1_ := Aside0.mk (Kd.N_below (Kd.N_elderB (nk_ HO333) gb410 (Nat.le_of_eq hg.symm)) hb); have n2_ := Aside0.mk (Kd.R_below (rk_ HO336) hb); have n3_ := Aside0.mk (Kd.N_below (Kd.N_elderB (nk_ HO343) gb410 (Nat.le_of_eq hg.symm)) hb); have n4_ := Aside0.mk (Kd.R_below (rk_ HO348) hb); have n5_ := Aside0.mk (Kd.R_below (rk_ HO352) hb); have n6_ := Aside0.mk (Kd.R_below (rk_ HO363) hb); have n7_ := Aside0.mk (Kd.N_below (Kd.N_elderB (nk_ HO371) gb410 (Nat.le_of_eq hg.symm)) hb); have n8_ := Aside0.mk (Kd.R_below (rk_ HO374) hb); have n9_ := Aside0.mk (Kd.N_below (Kd.N_elderB (nk_ HO381) gb410 (Nat.le_of_eq hg.symm)) hb); have n10_ := Aside0.mk (Kd.R_below (rk_ HO388) hb); have n11_ := Aside0.mk (Kd.N_below (Kd.N_elderB (nk_ HO396) gb410 (Nat.le_of_eq hg.symm)) hb); have n12_ := Aside0.mk (Kd.R_below (rk_ HO399) hb); have n13_ := Aside0.mk (Kd.N_below (Kd.N_elderB (nk_ HO406) gb410 (Nat.le_of_eq hg.symm)) hb); have n14_ := Aside0.mk (blk_below (bk_ BK319) hb); have n15_ := Aside0.mk (blk_below (bk_ BK320) hb); have n16_ := Aside0.mk (blk_below (bk_ BK345) hb); have n17_ := Aside0.mk (blk_below (bk_ BK384) hb); have n18_ := Aside0.mk (blk_below (bk_ BK385) hb); have n19_ := Aside0.mk (blk_below (bk_ BK409) hb); have n20_ := Aside0.mk (below_step bs_ hb); have n21_ := Aside0.mk (hbox); have n22_ := Aside0.mk ((by rw [hg]; exact (below_size bs_) : w.heap.size ≤ gb410)); have n23_ := Aside0.mk ((by rw [hg]; exact (below_size bs_) : w.heap.size ≤ gb410)); have n24_ := Aside0.mk ((by rw [hg]; exact Nat.ne_of_lt (blk_lt (bk_ BK319)) : gb319 ≠ gb410)); have n25_ := Aside0.mk ((by rw [hg]; exact Nat.ne_of_gt (blk_lt (bk_ BK319)) : gb410 ≠ gb319)); have n26_ := Aside0.mk ((by rw [hg]; exact Nat.ne_of_lt (blk_lt (bk_ BK320)) : gb320 ≠ gb410)); have n27_ := Aside0.mk ((by rw [hg]; exact Nat.ne_of_gt (blk_lt (bk_ BK320)) : gb410 ≠ gb320)); have n28_ := Aside0.mk ((by rw [hg]; exact Nat.ne_of_lt (blk_lt (bk_ BK345)) : gb345 ≠ gb410)); have n29_ := Aside0.mk ((by rw [hg]; exact Nat.ne_of_gt (blk_lt (bk_ BK345)) : gb410 ≠ gb345)); have n30_ := Aside0.mk ((by rw [hg]; exact Nat.ne_of_lt (blk_lt (bk_ BK384)) : gb384 ≠ gb410)); have n31_ := Aside0.mk ((by rw [hg]; exact Nat.ne_of_gt (blk_lt (bk_ BK384)) : gb410 ≠ gb384)); have n32_ := Aside0.mk ((by rw [hg]; exact Nat.ne_of_lt (blk_lt (bk_ BK385)) : gb385 ≠ gb410)); have n33_ := Aside0.mk ((by rw [hg]; exact Nat.ne_of_gt (blk_lt (bk_ BK385)) : gb410 ≠ gb385)); have n34_ := Aside0.mk ((by rw [hg]; exact Nat.ne_of_lt (blk_lt (bk_ BK409)) : gb409 ≠ gb410)); have n35_ := Aside0.mk ((by rw [hg]; exact Nat.ne_of_gt (blk_lt (bk_ BK409)) : gb410 ≠ gb409)); clear HO_321010 HO333 HO336 HO343 HO348 HO352 HO363 HO371 HO374 HO381 HO388 HO396 HO399 HO406 BK319 BK320 BK345 BK384 BK385 BK409 HB; have HO_321010 := n0_; have HO333 := n1_; have HO336 := n2_; have HO343 := n3_; have HO348 := n4_; have HO352 := n5_; have HO363 := n6_; have HO371 := n7_; have HO374 := n8_; have HO381 := n9_; have HO388 := n10_; have HO396 := n11_; have HO399 := n12_; have HO406 := n13_; have BK319 := n14_; have BK320 := n15_; have BK345 := n16_; have BK384 := n17_; have BK385 := n18_; have BK409 := n19_; have HB := n20_; have BK410 := n21_; have GW410 := n22_; have GE410 := n23_; have NB319_410 := n24_; have NB410_319 := n25_; have NB320_410 := n26_; have NB410_320 := n27_; have NB345_410 := n28_; have NB410_345 := n29_; have NB384_410 := n30_; have NB410_384 := n31_; have NB385_410 := n32_; have NB410_385 := n33_; have NB409_410 := n34_; have NB410_409 := n35_; clear n0_ n1_ n2_ n3_ n4_ n5_ n6_ n7_ n8_ n9_ n10_ n11_ n12_ n13_ n14_ n15_ n16_ n17_ n18_ n19_ n20_ n21_ n22_ n23_ n24_ n25_ n26_ n27_ n28_ n29_ n30_ n31_ n32_ n33_ n34_ n35_; clear hb hbox hg; have hnb98 := NB409_319.out; have hnc98 := NB319_409.out; have hnb99 := NB409_320.out; have hnc99 := NB320_409.out; have hnb100 := NB409_345.out; have hnc100 := NB345_409.out; have hnb101 := NB409_384.out; have hnc101 := NB384_409.out; have hnb102 := NB409_385.out; have hnc102 := NB385_409.out; have hnb103 := NB409_410.out; have hnc103 := NB410_409.out; obtain ⟨hcz104_0, hcz104_1, hfz104_0, hfz104_1⟩ := blk2 BK409; have hnb105 := NB410_319.out; have hnc105 := NB319_410.out; have hnb106 := NB410_320.out; have hnc106 := NB320_410.out; have hnb107 := NB410_345.out; have hnc107 := NB345_410.out; have hnb108 := NB410_384.out; have hnc108 := NB384_410.out; have hnb109 := NB410_385.out; have hnc109 := NB385_410.out; obtain ⟨hcz110_0, hcz110_1, hcz110_2, hcz110_3, hcz110_4, hcz110_5, hcz110_6, hcz110_7, hcz110_8, hcz110_9, hcz110_10, hcz110_11, hfz110_0, hfz110_1, hfz110_2, hfz110_3, hfz110_4, hfz110_5, hfz110_6, hfz110_7, hfz110_8, hfz110_9, hfz110_10, hfz110_11⟩ := blk12 BK410; obtain ⟨hcz111_0, hcz111_1, hfz111_0, hfz111_1⟩ := blk2 BK384) | ((with_reducible refine gate_callee (f := 11) rfl ?_); refine goesL_ (some 104) rfl rfl Try.func11 (by kernel_rfl) rfl #[.agg #[.slice Ao77 t361.length co77, .bool t364], .agg #[.slice Ao95 t386.length co95, .bool t389]] rfl (by (try simp only [List.map_toArray, List.map_cons, List.map_nil]); first | done | rfl | (simp only [List.length_drop, List.length_take]; rfl)) ?_; (with_reducible refine (drydockref19_Same.calls kj8 _ _ t361 t364 _ _ t386 t389 true _ ?side1 ?side2 ?side3 ?side4 A41.out).mono ?_); (case side1 => refine (Kd.R_reads' (e := 27) (base := w.heap.size) (ok := fun k_ => (((((((w.heap.size ≤ k_) ∧ some k_ ≠ (.slice Ao75 t372.length co75 : Value).ownBlock) ∧ some k_ ≠ (.slice Ao58 t334.length co58 : Value).ownBlock) ∧ some k_ ≠ (.slice Ao68 t346.length co68 : Value).ownBlock) ∧ some k_ ≠ (.slice Ao69 t350.length co69 : Value).ownBlock) ∧ some k_ ≠ (.slice Ao95 t386.length co95 : Value).ownBlock) ∧ some k_ ≠ (.slice Ao93 t397.length co93 : Value).ownBlock)) (n := t361.length) (c := co77) ?_).2.2; exact (by (with_reducible repeat (first | apply Kd.R_alloc | apply Kd.R_drewN | apply Kd.R_drew)); exact (Kd.R_mono (Kd.R_mono (far12 gb410 (far2 gb409 (Kd.R_types (Kd.R_types HO363.out BK409.out (by decide)) BK410.out (by decide)) (fun _ hk => hk.1.2)) (fun _ hk => hk.2)) (fun _ h_ => h_.1)) (fun _ h_ => h_.1)))); (case side2 => exact (Kd.R_reads' HO363.out).2.1); (case side3 => refine (Kd.R_reads' (e := 27) (base := w.heap.size) (ok := fun k_ => (((((((w.heap.size ≤ k_) ∧ some k_ ≠ (.slice Ao93 t397.length co93 : Value).ownBlock) ∧ some k_ ≠ (.slice Ao58 t334.length co58 : Value).ownBlock) ∧ some k_ ≠ (.slice Ao68 t346.length co68 : Value).ownBlock) ∧ some k_ ≠ (.slice Ao69 t350.length co69 : Value).ownBlock) ∧ some k_ ≠ (.slice Ao77 t361.length co77 : Value).ownBlock) ∧ some k_ ≠ (.slice Ao75 t372.length co75 : Value).ownBlock)) (n := t386.length) (c := co95) ?_).2.2; exact (by (with_reducible repeat (first | apply Kd.R_alloc | apply Kd.R_drewN | apply Kd.R_drew)); exact (Kd.R_mono (Kd.R_mono (far12 gb410 (far2 gb409 (Kd.R_types (Kd.R_types HO388.out BK409.out (by decide)) BK410.out (by decide)) (fun _ hk => hk.1.2)) (fun _ hk => hk.2)) (fun _ h_ => h_.1)) (fun _ h_ => h_.1)))); (case side4 => exact (Kd.R_reads' HO388.out).2.1); rintro e w112 ⟨rfl, hb⟩; refine ⟨_, rfl, ?_⟩; have n0_ := Aside0.mk (Kd.V_below (by (with_reducible repeat (first | apply Kd.V_alloc | apply Kd.V_drewN | apply Kd.V_drew)); exact (Kd.V_mono (Kd.V_mono (far12V gb410 (far2V gb409 (Kd.V_mono (Kd.V_mono HO_321010.out (fun k_ hk => (⟨hk, hk.1.2⟩ : _ ∧ k_ ≠ gb409))) (fun k_ hk => (⟨hk, hk.1.2⟩ : _ ∧ k_ ≠ gb410))) (fun _ hk => hk.1.2)) (fun _ hk => hk.2)) (fun _ h_ => h_.1)) (fun _ h_ => h_.1))) hb); have n1_ := Aside0.mk (Kd.N_below (by (with_reducible repeat (first | apply Kd.N_alloc | apply Kd.N_drewN | apply Kd.N_drew)); exact (Kd.N_mono (Kd.N_mono (far12N gb410 (far2N gb409 (Kd.N_mono (Kd.N_mono HO333.out (fun k_ hk => (⟨hk, hk.1.2⟩ : _ ∧ k_ ≠ gb409))) (fun k_ hk => (⟨hk, hk.1.2⟩ : _ ∧ k_ ≠ gb410))) (fun _ hk => hk.1.2)) (fun _ hk => hk.2)) (fun _ h_ => h_.1)) (fun _ h_ => h_.1))) hb); have n2_ := Aside0.mk (Kd.R_below (by (with_reducible repeat (first | apply Kd.R_alloc | apply Kd.R_drewN | apply Kd.R_drew)); exact (Kd.R_mono (Kd.R_mono (far12 gb410 (far2 gb409 (Kd.R_types (Kd.R_types HO336.out BK409.out (by decide)) BK410.out (by decide)) (fun _ hk => hk.1.2)) (fun _ hk => hk.2)) (fun _ h_ => h_.1)) (fun _ h_ => h_.1))) hb); have n3_ := Aside0.mk (Kd.N_below (by (with_reducible repeat (first | apply Kd.N_alloc | apply Kd.N_drewN | apply Kd.N_drew)); exact (Kd.N_mono (Kd.N_mono (far12N gb410 (far2N gb409 (Kd.N_mono (Kd.N_mono HO343.out (fun k_ hk => (⟨hk, hk.1.2⟩ : _ ∧ k_ ≠ gb409))) (fun k_ hk => (⟨hk, hk.1.2⟩ : _ ∧ k_ ≠ gb410))) (fun _ hk => hk.1.2)) (fun _ hk => hk.2)) (fun _ h_ => h_.1)) (fun _ h_ => h_.1))) hb); have n4_ := Aside0.mk (Kd.R_below (by (with_reducible repeat (first | apply Kd.R_alloc | apply Kd.R_drewN | apply Kd.R_drew)); exact (Kd.R_mono (Kd.R_mono (far12 gb410 (far2 gb409 (Kd.R_types (Kd.R_types HO348.out BK409.out (by decide)) BK410.out (by decide)) (fun _ hk => hk.1.2)) (fun _ hk => hk.2)) (fun _ h_ => h_.1)) (fun _ h_ => h_.1))) hb); have n5_ := Aside0.mk (Kd.R_below (by (with_reducible repeat (first | apply Kd.R_alloc | apply Kd.R_drewN | apply Kd.R_drew)); exact (Kd.R_mono (Kd.R_mono (far12 gb410 (far2 gb409 (Kd.R_types (Kd.R_types HO352.out BK409.out (by decide)) BK410.out (by decide)) (fun _ hk => hk.1.2)) (fun _ hk => hk.2)) (fun _ h_ => h_.1)) (fun _ h_ => h_.1))) hb); have n6_ := Aside0.mk (Kd.R_below (by (with_reducible repeat (first | apply Kd.R_alloc | apply Kd.R_drewN | apply Kd.R_drew)); exact (Kd.R_mono (Kd.R_mono (far12 gb410 (far2 gb409 (Kd.R_types (Kd.R_types HO363.out BK409.out (by decide)) BK410.out (by decide)) (fun _ hk => hk.1.2)) (fun _ hk => hk.2)) (fun _ h_ => h_.1)) (fun _ h_ => h_.1))) hb); have n7_ := Aside0.mk (Kd.N_below (by (with_reducible repeat (first | apply Kd.N_alloc | apply Kd.N_drewN | apply Kd.N_drew)); exact (Kd.N_mono (Kd.N_mono (far12N gb410 (far2N gb409 (Kd.N_mono (Kd.N_mono HO371.out (fun k_ hk => (⟨hk, hk.1.2⟩ : _ ∧ k_ ≠ gb409))) (fun k_ hk => (⟨hk, hk.1.2⟩ : _ ∧ k_ ≠ gb410))) (fun _ hk => hk.1.2)) (fun _ hk => hk.2)) (fun _ h_ => h_.1)) (fun _ h_ => h_.1))) hb); have n8_ := Aside0.mk (Kd.R_below (by (with_reducible repeat (first | apply Kd.R_alloc | apply Kd.R_drewN | apply Kd.R_drew)); exact (Kd.R_mono (Kd.R_mono (far12 gb410 (far2 gb409 (Kd.R_types (Kd.R_types HO374.out BK409.out (by decide)) BK410.out (by decide)) (fun _ hk => hk.1.2)) (fun _ hk => hk.2)) (fun _ h_ => h_.1)) (fun _ h_ => h_.1))) hb); have n9_ := Aside0.mk (Kd.N_below (by (with_reducible repeat (first | apply Kd.N_alloc | apply Kd.N_drewN | apply Kd.N_drew)); exact (Kd.N_mono (Kd.N_mono (far12N gb410 (far2N gb409 (Kd.N_mono (Kd.N_mono HO381.out (fun k_ hk => (⟨hk, hk.1.2⟩ : _ ∧ k_ ≠ gb409))) (fun k_ hk => (⟨hk, hk.1.2⟩ : _ ∧ k_ ≠ gb410))) (fun _ hk => hk.1.2)) (fun _ hk => hk.2)) (fun _ h_ => h_.1)) (fun _ h_ => h_.1))) hb); have n10_ := Aside0.mk (Kd.R_below (by (with_reducible repeat (first | apply Kd.R_alloc | apply Kd.R_drewN | apply Kd.R_drew)); exact (Kd.R_mono (Kd.R_mono (far12 gb410 (far2 gb409 (Kd.R_types (Kd.R_types HO388.out BK409.out (by decide)) BK410.out (by decide)) (fun _ hk => hk.1.2)) (fun _ hk => hk.2)) (fun _ h_ => h_.1)) (fun _ h_ => h_.1))) hb); have n11_ := Aside0.mk (Kd.N_below (by (with_reducible repeat (first | apply Kd.N_alloc | apply Kd.N_drewN | apply Kd.N_drew)); exact (Kd.N_mono (Kd.N_mono (far12N gb410 (far2N gb409 (Kd.N_mono (Kd.N_mono HO396.out (fun k_ hk => (⟨hk, hk.1.2⟩ : _ ∧ k_ ≠ gb409))) (fun k_ hk => (⟨hk, hk.1.2⟩ : _ ∧ k_ ≠ gb410))) (fun _ hk => hk.1.2)) (fun _ hk => hk.2)) (fun _ h_ => h_.1)) (fun _ h_ => h_.1))) hb); have n12_ := Aside0.mk (Kd.R_below (by (with_reducible repeat (first | apply Kd.R_alloc | apply Kd.R_drewN | apply Kd.R_drew)); exact (Kd.R_mono (Kd.R_mono (far12 gb410 (far2 gb409 (Kd.R_types (Kd.R_types HO399.out BK409.out (by decide)) BK410.out (by decide)) (fun _ hk => hk.1.2)) (fun _ hk => hk.2)) (fun _ h_ => h_.1)) (fun _ h_ => h_.1))) hb); have n13_ := Aside0.mk (Kd.N_below (by (with_reducible repeat (first | apply Kd.N_alloc | apply Kd.N_drewN | apply Kd.N_drew)); exact (Kd.N_mono (Kd.N_mono (far12N gb410 (far2N gb409 (Kd.N_mono (Kd.N_mono HO406.out (fun k_ hk => (⟨hk, hk.1.2⟩ : _ ∧ k_ ≠ gb409))) (fun k_ hk => (⟨hk, hk.1.2⟩ : _ ∧ k_ ≠ gb410))) (fun _ hk => hk.1.2)) (fun _ hk => hk.2)) (fun _ h_ => h_.1)) (fun _ h_ => h_.1))) hb); have n14_ := Aside0.mk (blk_below (bf_ BK319) hb); have n15_ := Aside0.mk (blk_below (bf_ BK320) hb); have n16_ := Aside0.mk (blk_below (bf_ BK345) hb); have n17_ := Aside0.mk (blk_below (bf_ BK384) hb); have n18_ := Aside0.mk (blk_below (bf_ BK385) hb); have n19_ := Aside0.mk (blk_below (bp_ (o := .cells #[.slice Ao95 t386.length co95, .bool t389] 25 (0, 0)) BK409) hb); have n20_ := Aside0.mk (blk_below (bp_ (o := .cells #[.int .i64 t390, .int .i64 t391, .int .i64 t392, .int .i64 t393, .slice Ao94 t394.length co94, .slice Ao93 t397.length co93, .int .i64 t400, .int .i64 t401, .int .i64 t402, .int .i64 t403, .slice Ao92 t404.length co92, .int .u32 t407] 42 (0, 0)) BK410) hb); have n21_ := Aside0.mk (below_step bs_ hb); clear HO_321010 HO333 HO336 HO343 HO348 HO352 HO363 HO371 HO374 HO381 HO388 HO396 HO399 HO406 BK319 BK320 BK345 BK384 BK385 BK409 BK410 HB; have HO_321010 := n0_; have HO333 := n1_; have HO336 := n2_; have HO343 := n3_; have HO348 := n4_; have HO352 := n5_; have HO363 := n6_; have HO371 := n7_; have HO374 := n8_; have HO381 := n9_; have HO388 := n10_; have HO396 := n11_; have HO399 := n12_; have HO406 := n13_; have BK319 := n14_; have BK320 := n15_; have BK345 := n16_; have BK384 := n17_; have BK385 := n18_; have BK409 := n19_; have BK410 := n20_; have HB := n21_; clear n0_ n1_ n2_ n3_ n4_ n5_ n6_ n7_ n8_ n9_ n10_ n11_ n12_ n13_ n14_ n15_ n16_ n17_ n18_ n19_ n20_ n21_; (try clear hb); (try clear hb2); (try clear hk); (try clear hi); obtain ⟨hcz113_0, hcz113_1, hcz113_2, hcz113_3, hcz113_4, hcz113_5, hcz113_6, hcz113_7, hcz113_8, hcz113_9, hcz113_10, hcz113_11, hfz113_0, hfz113_1, hfz113_2, hfz113_3, hfz113_4, hfz113_5, hfz113_6, hfz113_7, hfz113_8, hfz113_9, hfz113_10, hfz113_11⟩ := blk12 BK385; obtain ⟨hcz114_0, hcz114_1, hcz114_2, hcz114_3, hcz114_4, hcz114_5, hcz114_6, hcz114_7, hcz114_8, hcz114_9, hcz114_10, hcz114_11, hfz114_0, hfz114_1, hfz114_2, hfz114_3, hfz114_4, hfz114_5, hfz114_6, hfz114_7, hfz114_8, hfz114_9, hfz114_10, hfz114_11⟩ := blk12 BK410) | (go_at_call 20; (with_reducible refine (drydockref18_Same.calls kj8 t365 t366 t367 t368 _ _ t369 _ _ t372 t375 t376 t377 t378 _ _ t379 t382 t390 t391 t392 t393 _ _ t394 _ _ t397 t400 t401 t402 t403 _ _ t404 t407 true _ ?side1 ?side2 ?side3 ?side4 ?side5 ?side6 ?side7 ?side8 ?side9 ?side10 ?side11 ?side12 A43.out).mono ?_); (case side1 => repeat (first | exact (Kd.N_reads' HO371.out).2.2 | (with_reducible refine Kd.C_alloc ?_ _) | (with_reducible refine Kd.C_drewN ?_ _) | (with_reducible refine Kd.C_drew ?_))); (case side2 => exact (Kd.N_reads' HO371.out).2.1); (case side3 => repeat (first | exact (Kd.R_reads' HO374.out).2.2 | (with_reducible refine Kd.C_alloc ?_ _) | (with_reducible refine Kd.C_drewN ?_ _) | (with_reducible refine Kd.C_drew ?_))); (case side4 => exact (Kd.R_reads' HO374.out).2.1); (case side5 => repeat (first | exact (Kd.N_reads' HO381.out).2.2 | (with_reducible refine Kd.C_alloc ?_ _) | (with_reducible refine Kd.C_drewN ?_ _) | (with_reducible refine Kd.C_drew ?_))); (case side6 => exact (Kd.N_reads' HO381.out).2.1); (case side7 => repeat (first | exact (Kd.N_reads' HO396.out).2.2 | (with_reducible refine Kd.C_alloc ?_ _) | (with_reducible refine Kd.C_drewN ?_ _) | (with_reducible refine Kd.C_drew ?_))); (case side8 => exact (Kd.N_reads' HO396.out).2.1); (case side9 => repeat (first | exact (Kd.R_reads' HO399.out).2.2 | (with_reducible refine Kd.C_alloc ?_ _) | (with_reducible refine Kd.C_drewN ?_ _) | (with_reducible refine Kd.C_drew ?_))); (case side10 => exact (Kd.R_reads' HO399.out).2.1); (case side11 => repeat (first | exact (Kd.N_reads' HO406.out).2.2 | (with_reducible refine Kd.C_alloc ?_ _) | (with_reducible refine Kd.C_drewN ?_ _) | (with_reducible refine Kd.C_drew ?_))); (case side12 => exact (Kd.N_reads' HO406.out).2.1); rintro e w115 ⟨rfl, hb⟩; have n0_ := Aside0.mk (Kd.V_below (vk_ HO_321010) hb); have n1_ := Aside0.mk (Kd.N_below (nk_ HO333) hb); have n2_ := Aside0.mk (Kd.R_below (rk_ HO336) hb); have n3_ := Aside0.mk (Kd.N_below (nk_ HO343) hb); have n4_ := Aside0.mk (Kd.R_below (rk_ HO348) hb); have n5_ := Aside0.mk (Kd.R_below (rk_ HO352) hb); have n6_ := Aside0.mk (Kd.R_below (rk_ HO363) hb); have n7_ := Aside0.mk (Kd.N_below (nk_ HO371) hb); have n8_ := Aside0.mk (Kd.R_below (rk_ HO374) hb); have n9_ := Aside0.mk (Kd.N_below (nk_ HO381) hb); have n10_ := Aside0.mk (Kd.R_below (rk_ HO388) hb); have n11_ := Aside0.mk (Kd.N_below (nk_ HO396) hb); have n12_ := Aside0.mk (Kd.R_below (rk_ HO399) hb); have n13_ := Aside0.mk (Kd.N_below (nk_ HO406) hb); have n14_ := Aside0.mk (blk_below (bk_ BK319) hb); have n15_ := Aside0.mk (blk_below (bk_ BK320) hb); have n16_ := Aside0.mk (blk_below (bk_ BK345) hb); have n17_ := Aside0.mk (blk_below (bk_ BK384) hb); have n18_ := Aside0.mk (blk_below (bk_ BK385) hb); have n19_ := Aside0.mk (blk_below (bk_ BK409) hb); have n20_ := Aside0.mk (blk_below (bk_ BK410) hb); have n21_ := Aside0.mk (below_step bs_ hb); clear HO_321010 HO333 HO336 HO343 HO348 HO352 HO363 HO371 HO374 HO381 HO388 HO396 HO399 HO406 BK319 BK320 BK345 BK384 BK385 BK409 BK410 HB; have HO_321010 := n0_; have HO333 := n1_; have HO336 := n2_; have HO343 := n3_; have HO348 := n4_; have HO352 := n5_; have HO363 := n6_; have HO371 := n7_; have HO374 := n8_; have HO381 := n9_; have HO388 := n10_; have HO396 := n11_; have HO399 := n12_; have HO406 := n13_; have BK319 := n14_; have BK320 := n15_; have BK345 := n16_; have BK384 := n17_; have BK385 := n18_; have BK409 := n19_; have BK410 := n20_; have HB := n21_; clear n0_ n1_ n2_ n3_ n4_ n5_ n6_ n7_ n8_ n9_ n10_ n11_ n12_ n13_ n14_ n15_ n16_ n17_ n18_ n19_ n20_ n21_; (try clear hb); (try clear hb2); (try clear hk); (try clear hi)))
            have n0_ := Aside0.mk (Kd.V_drew HO_321010.out)
            have n1_ := Aside0.mk (Kd.N_drew HO333.out)
            have n2_ := Aside0.mk (Kd.R_drew HO336.out)
            have n3_ := Aside0.mk (Kd.N_drew HO343.out)
            have n4_ := Aside0.mk (Kd.R_drew HO348.out)
            have n5_ := Aside0.mk (Kd.R_drew HO352.out)
            have n6_ := Aside0.mk (Kd.R_drew HO363.out)
            have n7_ := Aside0.mk (Kd.N_drew HO371.out)
            have n8_ := Aside0.mk (Kd.R_drew HO374.out)
            have n9_ := Aside0.mk (Kd.N_drew HO381.out)
            have n10_ := Aside0.mk (Kd.R_drew HO388.out)
            have n11_ := Aside0.mk (Kd.N_drew HO396.out)
            have n12_ := Aside0.mk (Kd.R_drew HO399.out)
            have n13_ := Aside0.mk (Kd.N_drew HO406.out)
            have n14_ := Aside0.mk (blk_drew BK319.out)
            have n15_ := Aside0.mk (blk_drew BK320.out)
            have n16_ := Aside0.mk (blk_drew BK345.out)
            have n17_ := Aside0.mk (blk_drew BK384.out)
            have n18_ := Aside0.mk (blk_drew BK385.out)
            have n19_ := Aside0.mk (blk_drew BK409.out)
            have n20_ := Aside0.mk (blk_drew BK410.out)
            have n21_ := Aside0.mk (below_drew1 HB.out)
            clear HO_321010 HO333 HO336 HO343 HO348 HO352 HO363 HO371 HO374 HO381 HO388 HO396 HO399 HO406 BK319 BK320 BK345 BK384 BK385 BK409 BK410 HB
            have HO_321010 := n0_
            have HO333 := n1_
            have HO336 := n2_
            have HO343 := n3_
            have HO348 := n4_
            have HO352 := n5_
            have HO363 := n6_
            have HO371 := n7_
            have HO374 := n8_
            have HO381 := n9_
            have HO388 := n10_
            have HO396 := n11_
            have HO399 := n12_
            have HO406 := n13_
            have BK319 := n14_
            have BK320 := n15_
            have BK345 := n16_
            have BK384 := n17_
            have BK385 := n18_
            have BK409 := n19_
            have BK410 := n20_
            have HB := n21_
            clear n0_ n1_ n2_ n3_ n4_ n5_ n6_ n7_ n8_ n9_ n10_ n11_ n12_ n13_ n14_ n15_ n16_ n17_ n18_ n19_ n20_ n21_
            refine start_ (n := 32) (S := fun w' => w'.cell? ⟨gb320, 0, none⟩ = some (.int .i64 a4_0) ∧ w'.cell? ⟨gb320, 1, none⟩ = some (.int .i64 a4_1) ∧ w'.cell? ⟨gb320, 2, none⟩ = some (.int .i64 a4_2) ∧ w'.cell? ⟨gb320, 3, none⟩ = some (.int .i64 a4_3) ∧ w'.cell? ⟨gb320, 4, none⟩ = some (.slice A4_4 l4_4.length c4_4) ∧ w'.cell? ⟨gb320, 5, none⟩ = some (.slice A4_5 l4_5.length c4_5) ∧ w'.cell? ⟨gb320, 6, none⟩ = some (.int .i64 a4_6) ∧ w'.cell? ⟨gb320, 7, none⟩ = some (.int .i64 a4_7) ∧ w'.cell? ⟨gb320, 8, none⟩ = some (.int .i64 a4_8) ∧ w'.cell? ⟨gb320, 9, none⟩ = some (.int .i64 a4_9) ∧ w'.cell? ⟨gb320, 10, none⟩ = some (.slice A4_10 l4_10.length c4_10) ∧ w'.cell? ⟨gb320, 11, none⟩ = some (.int .u32 a4_11) ∧ w'.cell? ⟨gb345, 0, none⟩ = some (.int .i64 t327) ∧ w'.cell? ⟨gb345, 1, none⟩ = some (.int .i64 t328) ∧ w'.cell? ⟨gb345, 2, none⟩ = some (.int .i64 t329) ∧ w'.cell? ⟨gb345, 3, none⟩ = some (.int .i64 t330) ∧ w'.cell? ⟨gb345, 4, none⟩ = some (.slice Ao59 t331.length co59) ∧ w'.cell? ⟨gb345, 5, none⟩ = some (.slice Ao58 t334.length co58) ∧ w'.cell? ⟨gb345, 6, none⟩ = some (.int .i64 t337) ∧ w'.cell? ⟨gb345, 7, none⟩ = some (.int .i64 t338) ∧ w'.cell? ⟨gb345, 8, none⟩ = some (.int .i64 t339) ∧ w'.cell? ⟨gb345, 9, none⟩ = some (.int .i64 t340) ∧ w'.cell? ⟨gb345, 10, none⟩ = some (.slice Ao57 t341.length co57) ∧ w'.cell? ⟨gb345, 11, none⟩ = some (.int .u32 t344) ∧ w'.cell? ⟨gb319, 0, none⟩ = some (.slice A0_0 l0_0.length c0_0) ∧ w'.cell? ⟨gb319, 1, none⟩ = some (.bool a0_1)) (ds := []) #[false, false, false, false, false, false, false, false, false, false, false, false, false, false, false, false, false, false, false, false, false, false, false, false, false, false, false, false, false, false, false, false] (by kernel_rfl) rfl rfl ⟨(blk_cell BK320.out 0).trans rfl, (blk_cell BK320.out 1).trans rfl, (blk_cell BK320.out 2).trans rfl, (blk_cell BK320.out 3).trans rfl, (blk_cell BK320.out 4).trans rfl, (blk_cell BK320.out 5).trans rfl, (blk_cell BK320.out 6).trans rfl, (blk_cell BK320.out 7).trans rfl, (blk_cell BK320.out 8).trans rfl, (blk_cell BK320.out 9).trans rfl, (blk_cell BK320.out 10).trans rfl, (blk_cell BK320.out 11).trans rfl, (blk_cell BK345.out 0).trans rfl, (blk_cell BK345.out 1).trans rfl, (blk_cell BK345.out 2).trans rfl, (blk_cell BK345.out 3).trans rfl, (blk_cell BK345.out 4).trans rfl, (blk_cell BK345.out 5).trans rfl, (blk_cell BK345.out 6).trans rfl, (blk_cell BK345.out 7).trans rfl, (blk_cell BK345.out 8).trans rfl, (blk_cell BK345.out 9).trans rfl, (blk_cell BK345.out 10).trans rfl, (blk_cell BK345.out 11).trans rfl, (blk_cell BK319.out 0).trans rfl, (blk_cell BK319.out 1).trans rfl⟩ (fun hHeld => ?_); refine with_tabW drydocklaw19_DeltaTells.tab13 drydocklaw19_DeltaTells.bits13 (fun HT_ HW_ => ?_)
            generalize w115.drew = w116 at HO_321010 HO333 HO336 HO343 HO348 HO352 HO363 HO371 HO374 HO381 HO388 HO396 HO399 HO406 BK319 BK320 BK345 BK384 BK385 BK409 BK410 HB hHeld ⊢
            refine pv_ 0 (some 115) HT_ (h := ?_)
            refine pv_ 1 (some 116) HT_ (h := ?_)
            refine pv_ 2 (some 117) HT_ (h := ?_)
            refine pv_ 3 (some 118) HT_ (h := ?_)
            refine pv_ 4 (some 119) HT_ (h := ?_)
            refine pv_ 5 (some 120) HT_ (h := ?_)
            refine pv_ 6 (some 121) HT_ (h := ?_)
            refine pv_ 7 (some 122) HT_ (h := ?_)
            refine pv_ 8 (some 123) HT_ (h := ?_)
            refine pv_ 9 (some 124) HT_ (h := ?_)
            refine pv_ 10 (some 125) HT_ (h := ?_)
            refine pv_ 11 (some 126) HT_ (h := ?_)
            refine pv_ 12 (some 127) HT_ (h := ?_)
            refine pv_ 13 (some 128) HT_ (h := ?_)
            refine pv_ 14 (some 129) HT_ (h := ?_)
            refine pv_ 15 (some 130) HT_ (h := ?_)
            refine pv_ 16 (some 131) HT_ (h := ?_)
            refine pv_ 17 (some 132) HT_ (h := ?_)
            refine pv_ 18 (some 133) HT_ (h := ?_)
            refine pv_ 19 (some 134) HT_ (h := ?_)
            refine tk_ 20 (some 135) HT_ HW_ hHeld (h := ?_)
            refine tk_ 21 (some 136) HT_ HW_ hHeld (h := ?_)
            refine one_ (i := 22) (N := some 137) #[true, true, true, true, true, true, true, true, true, true, true, true, true, true, true, true, true, true, true, true, true, true, true, false, false, false, false, false, false, false, false, false] rfl rfl (one_of HT_.out (by kernel_rfl)) (by decide) (fun K hK => ?_)
            refine goes_ Try.func20 (by kernel_rfl) rfl #[.agg #[.int .i64 a4_0, .int .i64 a4_1, .int .i64 a4_2, .int .i64 a4_3, .slice A4_4 l4_4.length c4_4, .slice A4_5 l4_5.length c4_5, .int .i64 a4_6, .int .i64 a4_7, .int .i64 a4_8, .int .i64 a4_9, .slice A4_10 l4_10.length c4_10, .int .u32 a4_11], .agg #[.int .i64 t327, .int .i64 t328, .int .i64 t329, .int .i64 t330, .slice Ao59 t331.length co59, .slice Ao58 t334.length co58, .int .i64 t337, .int .i64 t338, .int .i64 t339, .int .i64 t340, .slice Ao57 t341.length co57, .int .u32 t344]] (by rfl) rfl rfl (by (try simp only [List.map_toArray, List.map_cons, List.map_nil]); first | done | rfl | (simp only [List.length_drop, List.length_take]; rfl)) ?_
            with_reducible refine (drydockref18_Same.calls kj8 a4_0 a4_1 a4_2 a4_3 _ _ l4_4 _ _ l4_5 a4_6 a4_7 a4_8 a4_9 _ _ l4_10 a4_11 t327 t328 t329 t330 _ _ t331 _ _ t334 t337 t338 t339 t340 _ _ t341 t344 true _ ?side1 ?side2 ?side3 ?side4 ?side5 ?side6 ?side7 ?side8 ?side9 ?side10 ?side11 ?side12 A50.out).mono ?_
            (case side1 => repeat (first | exact (Kd.C_below HR4_4.out HB.out) | (with_reducible refine Kd.C_alloc ?_ _) | (with_reducible refine Kd.C_drewN ?_ _) | (with_reducible refine Kd.C_drew ?_)))
            (case side2 => exact HC4_4.out)
            (case side3 => repeat (first | exact (Kd.C_below HR4_5.out HB.out) | (with_reducible refine Kd.C_alloc ?_ _) | (with_reducible refine Kd.C_drewN ?_ _) | (with_reducible refine Kd.C_drew ?_)))
            (case side4 => exact HC4_5.out)
            (case side5 => repeat (first | exact (Kd.V_reads' HO_321010.out).2.2 | (with_reducible refine Kd.C_alloc ?_ _) | (with_reducible refine Kd.C_drewN ?_ _) | (with_reducible refine Kd.C_drew ?_)))
            (case side6 => exact HCX_.out)
            (case side7 => repeat (first | exact (Kd.N_reads' HO333.out).2.2 | (with_reducible refine Kd.C_alloc ?_ _) | (with_reducible refine Kd.C_drewN ?_ _) | (with_reducible refine Kd.C_drew ?_)))
            (case side8 => exact (Kd.N_reads' HO333.out).2.1)
            (case side9 => repeat (first | exact (Kd.R_reads' HO336.out).2.2 | (with_reducible refine Kd.C_alloc ?_ _) | (with_reducible refine Kd.C_drewN ?_ _) | (with_reducible refine Kd.C_drew ?_)))
            (case side10 => exact (Kd.R_reads' HO336.out).2.1)
            (case side11 => repeat (first | exact (Kd.N_reads' HO343.out).2.2 | (with_reducible refine Kd.C_alloc ?_ _) | (with_reducible refine Kd.C_drewN ?_ _) | (with_reducible refine Kd.C_drew ?_)))
            (case side12 => exact (Kd.N_reads' HO343.out).2.1)
            rintro e w117 ⟨rfl, hb⟩
            refine ⟨_, rfl, ?_⟩
            have n0_ := Aside0.mk (Kd.V_below (vk_ HO_321010) hb)
            have n1_ := Aside0.mk (Kd.N_below (nk_ HO333) hb)
            have n2_ := Aside0.mk (Kd.R_below (rk_ HO336) hb)
            have n3_ := Aside0.mk (Kd.N_below (nk_ HO343) hb)
            have n4_ := Aside0.mk (Kd.R_below (rk_ HO348) hb)
            have n5_ := Aside0.mk (Kd.R_below (rk_ HO352) hb)
            have n6_ := Aside0.mk (Kd.R_below (rk_ HO363) hb)
            have n7_ := Aside0.mk (Kd.N_below (nk_ HO371) hb)
            have n8_ := Aside0.mk (Kd.R_below (rk_ HO374) hb)
            have n9_ := Aside0.mk (Kd.N_below (nk_ HO381) hb)
            have n10_ := Aside0.mk (Kd.R_below (rk_ HO388) hb)
            have n11_ := Aside0.mk (Kd.N_below (nk_ HO396) hb)
            have n12_ := Aside0.mk (Kd.R_below (rk_ HO399) hb)
            have n13_ := Aside0.mk (Kd.N_below (nk_ HO406) hb)
            have n14_ := Aside0.mk (blk_below (bk_ BK319) hb)
            have n15_ := Aside0.mk (blk_below (bk_ BK320) hb)
            have n16_ := Aside0.mk (blk_below (bk_ BK345) hb)
            have n17_ := Aside0.mk (blk_below (bk_ BK384) hb)
            have n18_ := Aside0.mk (blk_below (bk_ BK385) hb)
            have n19_ := Aside0.mk (blk_below (bk_ BK409) hb)
            have n20_ := Aside0.mk (blk_below (bk_ BK410) hb)
            have n21_ := Aside0.mk (below_step bs_ hb)
            clear HO_321010 HO333 HO336 HO343 HO348 HO352 HO363 HO371 HO374 HO381 HO388 HO396 HO399 HO406 BK319 BK320 BK345 BK384 BK385 BK409 BK410 HB
            have HO_321010 := n0_
            have HO333 := n1_
            have HO336 := n2_
            have HO343 := n3_
            have HO348 := n4_
            have HO352 := n5_
            have HO363 := n6_
            have HO371 := n7_
            have HO374 := n8_
            have HO381 := n9_
            have HO388 := n10_
            have HO396 := n11_
            have HO399 := n12_
            have HO406 := n13_
            have BK319 := n14_
            have BK320 := n15_
            have BK345 := n16_
            have BK384 := n17_
            have BK385 := n18_
            have BK409 := n19_
            have BK410 := n20_
            have HB := n21_
            clear n0_ n1_ n2_ n3_ n4_ n5_ n6_ n7_ n8_ n9_ n10_ n11_ n12_ n13_ n14_ n15_ n16_ n17_ n18_ n19_ n20_ n21_
            (try clear hb)
            (try clear hb2)
            (try clear hk)
            (try clear hi)
            refine hK.out _ _ ⟨(blk_cell BK320.out 0).trans rfl, (blk_cell BK320.out 1).trans rfl, (blk_cell BK320.out 2).trans rfl, (blk_cell BK320.out 3).trans rfl, (blk_cell BK320.out 4).trans rfl, (blk_cell BK320.out 5).trans rfl, (blk_cell BK320.out 6).trans rfl, (blk_cell BK320.out 7).trans rfl, (blk_cell BK320.out 8).trans rfl, (blk_cell BK320.out 9).trans rfl, (blk_cell BK320.out 10).trans rfl, (blk_cell BK320.out 11).trans rfl, (blk_cell BK345.out 0).trans rfl, (blk_cell BK345.out 1).trans rfl, (blk_cell BK345.out 2).trans rfl, (blk_cell BK345.out 3).trans rfl, (blk_cell BK345.out 4).trans rfl, (blk_cell BK345.out 5).trans rfl, (blk_cell BK345.out 6).trans rfl, (blk_cell BK345.out 7).trans rfl, (blk_cell BK345.out 8).trans rfl, (blk_cell BK345.out 9).trans rfl, (blk_cell BK345.out 10).trans rfl, (blk_cell BK345.out 11).trans rfl, (blk_cell BK319.out 0).trans rfl, (blk_cell BK319.out 1).trans rfl⟩ (fun hHeld => ?_)
            clear hK K
            refine norm_ (a' := ?_) ?_ ?_
            rotate_left
            ·show Act.put _ (some 137) _ = _
             simp only [Act.put, List.setIfInBounds_toArray, List.set_cons_zero, List.set_cons_succ, i64_w, i32_w]
             rfl
            refine pv_ 23 (some 138) HT_ (h := ?_)
            refine pv_ 24 (some 139) HT_ (h := ?_)
            refine tk_ 25 (some 140) HT_ HW_ hHeld (h := ?_)
            refine tk_ 27 (some 142) HT_ HW_ hHeld (h := ?_)
            refine one_ (i := 26) (N := some 141) #[true, true, true, true, true, true, true, true, true, true, true, true, true, true, true, true, true, true, true, true, true, true, true, true, true, true, true, true, false, false, false, false] rfl rfl (one_of HT_.out (by kernel_rfl)) (by decide) (fun K hK => ?_)
            refine goes_ Try.func10 (by kernel_rfl) rfl #[.agg #[.slice A0_0 l0_0.length c0_0, .bool a0_1]] (by rfl) rfl rfl (by (try simp only [List.map_toArray, List.map_cons, List.map_nil]); first | done | rfl | (simp only [List.length_drop, List.length_take]; rfl)) ?_
            with_reducible refine (delta_May.calls kj8 _ _ l0_0 a0_1 t414 _ ?side1 ?side2 A52.out).mono ?_
            (case side1 => repeat (first | exact (Kd.C_below HR0_0.out HB.out) | (with_reducible refine Kd.C_alloc ?_ _) | (with_reducible refine Kd.C_drewN ?_ _) | (with_reducible refine Kd.C_drew ?_)))
            (case side2 => exact HC0_0.out)
            rintro e w118 ⟨rfl, hb⟩
            refine ⟨_, rfl, ?_⟩
            have n0_ := Aside0.mk (Kd.V_below (vk_ HO_321010) hb)
            have n1_ := Aside0.mk (Kd.N_below (nk_ HO333) hb)
            have n2_ := Aside0.mk (Kd.R_below (rk_ HO336) hb)
            have n3_ := Aside0.mk (Kd.N_below (nk_ HO343) hb)
            have n4_ := Aside0.mk (Kd.R_below (rk_ HO348) hb)
            have n5_ := Aside0.mk (Kd.R_below (rk_ HO352) hb)
            have n6_ := Aside0.mk (Kd.R_below (rk_ HO363) hb)
            have n7_ := Aside0.mk (Kd.N_below (nk_ HO371) hb)
            have n8_ := Aside0.mk (Kd.R_below (rk_ HO374) hb)
            have n9_ := Aside0.mk (Kd.N_below (nk_ HO381) hb)
            have n10_ := Aside0.mk (Kd.R_below (rk_ HO388) hb)
            have n11_ := Aside0.mk (Kd.N_below (nk_ HO396) hb)
            have n12_ := Aside0.mk (Kd.R_below (rk_ HO399) hb)
            have n13_ := Aside0.mk (Kd.N_below (nk_ HO406) hb)
            have n14_ := Aside0.mk (blk_below (bk_ BK319) hb)
            have n15_ := Aside0.mk (blk_below (bk_ BK320) hb)
            have n16_ := Aside0.mk (blk_below (bk_ BK345) hb)
            have n17_ := Aside0.mk (blk_below (bk_ BK384) hb)
            have n18_ := Aside0.mk (blk_below (bk_ BK385) hb)
            have n19_ := Aside0.mk (blk_below (bk_ BK409) hb)
            have n20_ := Aside0.mk (blk_below (bk_ BK410) hb)
            have n21_ := Aside0.mk (below_step bs_ hb)
            clear HO_321010 HO333 HO336 HO343 HO348 HO352 HO363 HO371 HO374 HO381 HO388 HO396 HO399 HO406 BK319 BK320 BK345 BK384 BK385 BK409 BK410 HB
            have HO_321010 := n0_
            have HO333 := n1_
            have HO336 := n2_
            have HO343 := n3_
            have HO348 := n4_
            have HO352 := n5_
            have HO363 := n6_
            have HO371 := n7_
            have HO374 := n8_
            have HO381 := n9_
            have HO388 := n10_
            have HO396 := n11_
            have HO399 := n12_
            have HO406 := n13_
            have BK319 := n14_
            have BK320 := n15_
            have BK345 := n16_
            have BK384 := n17_
            have BK385 := n18_
            have BK409 := n19_
            have BK410 := n20_
            have HB := n21_
            clear n0_ n1_ n2_ n3_ n4_ n5_ n6_ n7_ n8_ n9_ n10_ n11_ n12_ n13_ n14_ n15_ n16_ n17_ n18_ n19_ n20_ n21_
            (try clear hb)
            (try clear hb2)
            (try clear hk)
            (try clear hi)
            refine hK.out _ _ ⟨(blk_cell BK320.out 0).trans rfl, (blk_cell BK320.out 1).trans rfl, (blk_cell BK320.out 2).trans rfl, (blk_cell BK320.out 3).trans rfl, (blk_cell BK320.out 4).trans rfl, (blk_cell BK320.out 5).trans rfl, (blk_cell BK320.out 6).trans rfl, (blk_cell BK320.out 7).trans rfl, (blk_cell BK320.out 8).trans rfl, (blk_cell BK320.out 9).trans rfl, (blk_cell BK320.out 10).trans rfl, (blk_cell BK320.out 11).trans rfl, (blk_cell BK345.out 0).trans rfl, (blk_cell BK345.out 1).trans rfl, (blk_cell BK345.out 2).trans rfl, (blk_cell BK345.out 3).trans rfl, (blk_cell BK345.out 4).trans rfl, (blk_cell BK345.out 5).trans rfl, (blk_cell BK345.out 6).trans rfl, (blk_cell BK345.out 7).trans rfl, (blk_cell BK345.out 8).trans rfl, (blk_cell BK345.out 9).trans rfl, (blk_cell BK345.out 10).trans rfl, (blk_cell BK345.out 11).trans rfl, (blk_cell BK319.out 0).trans rfl, (blk_cell BK319.out 1).trans rfl⟩ (fun hHeld => ?_)
            clear hK K
            refine norm_ (a' := ?_) ?_ ?_
            rotate_left
            ·show Act.put _ (some 141) _ = _
             simp only [Act.put, List.setIfInBounds_toArray, List.set_cons_zero, List.set_cons_succ, i64_w, i32_w]
             rfl
            refine one_ (i := 28) (N := some 143) #[true, true, true, true, true, true, true, true, true, true, true, true, true, true, true, true, true, true, true, true, true, true, true, true, true, true, true, true, true, false, false, false] rfl rfl (one_of HT_.out (by kernel_rfl)) (by decide) (fun K hK => ?_)
            refine goes_ Try.func21 (by kernel_rfl) rfl #[.agg #[.slice A0_0 l0_0.length c0_0, .bool a0_1]] (by rfl) rfl rfl (by (try simp only [List.map_toArray, List.map_cons, List.map_nil]); first | done | rfl | (simp only [List.length_drop, List.length_take]; rfl)) ?_
            with_reducible refine (drydockref19_May.calls kj8 _ _ l0_0 a0_1 t415 _ ?side1 ?side2 A53.out).mono ?_
            (case side1 => repeat (first | exact (Kd.C_below HR0_0.out HB.out) | (with_reducible refine Kd.C_alloc ?_ _) | (with_reducible refine Kd.C_drewN ?_ _) | (with_reducible refine Kd.C_drew ?_)))
            (case side2 => exact HC0_0.out)
            rintro e w119 ⟨rfl, hb⟩
            refine ⟨_, rfl, ?_⟩
            have n0_ := Aside0.mk (Kd.V_below (vk_ HO_321010) hb)
            have n1_ := Aside0.mk (Kd.N_below (nk_ HO333) hb)
            have n2_ := Aside0.mk (Kd.R_below (rk_ HO336) hb)
            have n3_ := Aside0.mk (Kd.N_below (nk_ HO343) hb)
            have n4_ := Aside0.mk (Kd.R_below (rk_ HO348) hb)
            have n5_ := Aside0.mk (Kd.R_below (rk_ HO352) hb)
            have n6_ := Aside0.mk (Kd.R_below (rk_ HO363) hb)
            have n7_ := Aside0.mk (Kd.N_below (nk_ HO371) hb)
            have n8_ := Aside0.mk (Kd.R_below (rk_ HO374) hb)
            have n9_ := Aside0.mk (Kd.N_below (nk_ HO381) hb)
            have n10_ := Aside0.mk (Kd.R_below (rk_ HO388) hb)
            have n11_ := Aside0.mk (Kd.N_below (nk_ HO396) hb)
            have n12_ := Aside0.mk (Kd.R_below (rk_ HO399) hb)
            have n13_ := Aside0.mk (Kd.N_below (nk_ HO406) hb)
            have n14_ := Aside0.mk (blk_below (bk_ BK319) hb)
            have n15_ := Aside0.mk (blk_below (bk_ BK320) hb)
            have n16_ := Aside0.mk (blk_below (bk_ BK345) hb)
            have n17_ := Aside0.mk (blk_below (bk_ BK384) hb)
            have n18_ := Aside0.mk (blk_below (bk_ BK385) hb)
            have n19_ := Aside0.mk (blk_below (bk_ BK409) hb)
            have n20_ := Aside0.mk (blk_below (bk_ BK410) hb)
            have n21_ := Aside0.mk (below_step bs_ hb)
            clear HO_321010 HO333 HO336 HO343 HO348 HO352 HO363 HO371 HO374 HO381 HO388 HO396 HO399 HO406 BK319 BK320 BK345 BK384 BK385 BK409 BK410 HB
            have HO_321010 := n0_
            have HO333 := n1_
            have HO336 := n2_
            have HO343 := n3_
            have HO348 := n4_
            have HO352 := n5_
            have HO363 := n6_
            have HO371 := n7_
            have HO374 := n8_
            have HO381 := n9_
            have HO388 := n10_
            have HO396 := n11_
            have HO399 := n12_
            have HO406 := n13_
            have BK319 := n14_
            have BK320 := n15_
            have BK345 := n16_
            have BK384 := n17_
            have BK385 := n18_
            have BK409 := n19_
            have BK410 := n20_
            have HB := n21_
            clear n0_ n1_ n2_ n3_ n4_ n5_ n6_ n7_ n8_ n9_ n10_ n11_ n12_ n13_ n14_ n15_ n16_ n17_ n18_ n19_ n20_ n21_
            (try clear hb)
            (try clear hb2)
            (try clear hk)
            (try clear hi)
            refine hK.out _ _ ⟨(blk_cell BK320.out 0).trans rfl, (blk_cell BK320.out 1).trans rfl, (blk_cell BK320.out 2).trans rfl, (blk_cell BK320.out 3).trans rfl, (blk_cell BK320.out 4).trans rfl, (blk_cell BK320.out 5).trans rfl, (blk_cell BK320.out 6).trans rfl, (blk_cell BK320.out 7).trans rfl, (blk_cell BK320.out 8).trans rfl, (blk_cell BK320.out 9).trans rfl, (blk_cell BK320.out 10).trans rfl, (blk_cell BK320.out 11).trans rfl, (blk_cell BK345.out 0).trans rfl, (blk_cell BK345.out 1).trans rfl, (blk_cell BK345.out 2).trans rfl, (blk_cell BK345.out 3).trans rfl, (blk_cell BK345.out 4).trans rfl, (blk_cell BK345.out 5).trans rfl, (blk_cell BK345.out 6).trans rfl, (blk_cell BK345.out 7).trans rfl, (blk_cell BK345.out 8).trans rfl, (blk_cell BK345.out 9).trans rfl, (blk_cell BK345.out 10).trans rfl, (blk_cell BK345.out 11).trans rfl, (blk_cell BK319.out 0).trans rfl, (blk_cell BK319.out 1).trans rfl⟩ (fun hHeld => ?_)
            clear hK K
            refine norm_ (a' := ?_) ?_ ?_
            rotate_left
            ·show Act.put _ (some 143) _ = _
             simp only [Act.put, List.setIfInBounds_toArray, List.set_cons_zero, List.set_cons_succ, i64_w, i32_w]
             rfl
            refine pv_ 29 (some 144) HT_ (h := ?_)
            refine pv_ 30 (some 145) HT_ (h := ?_)
            refine pv_ 31 (some 10) HT_ (h := ?_)
            refine done_ (done_of HT_.out (by kernel_rfl)) ?_
            try go_wp2
            go_ret
            exact ⟨by first | rfl | (simp [errW_none, errW_some] <;> rfl) | (simp [*, errW_none, errW_some] <;> rfl), by repeat (first | (with_reducible first | exact HB.out | apply below_alloc | apply pw_below_drewN | apply below_drew1 | refine below_set ?_ GE319.out | refine below_set ?_ GE320.out | refine below_set ?_ GE345.out | refine below_set ?_ GE384.out | refine below_set ?_ GE385.out | refine below_set ?_ GE409.out | refine below_set ?_ GE410.out) | exact HB.out)⟩
           ·replace c51 := Bool.eq_false_iff.mpr c51
            subst c51
            have H1 : (none) = some r := by rw [if_neg (show ¬ (false = true) by decide)] at H; exact H
            clear H
            have H := H1
            clear H1
            exact absurd H (by simp)
          ·rw [if_neg c49] at H
           exact absurd H (by simp)
         ·rw [if_neg c48] at H
          exact absurd H (by simp)
        ·rw [if_neg c47] at H
         exact absurd H (by simp)
       ·rw [if_neg c46] at H
        exact absurd H (by simp)
      ·replace c45 := Bool.eq_false_iff.mpr c45
       subst c45
       have H1 : (none) = some r := by rw [if_neg (show ¬ (false = true) by decide)] at H; exact H
       clear H
       have H := H1
       clear H1
       exact absurd H (by simp)
     ·replace c44 := Bool.eq_false_iff.mpr c44
      subst c44
      have H1 : (none) = some r := by rw [if_neg (show ¬ (false = true) by decide)] at H; exact H
      clear H
      have H := H1
      clear H1
      exact absurd H (by simp)
    ·replace c42 := Bool.eq_false_iff.mpr c42
     subst c42
     have H1 : (none) = some r := by rw [if_neg (show ¬ (false = true) by decide)] at H; exact H
     clear H
     have H := H1
     clear H1
     exact absurd H (by simp)

end Go.Proofs.Ytlboachgeepadaa.P
