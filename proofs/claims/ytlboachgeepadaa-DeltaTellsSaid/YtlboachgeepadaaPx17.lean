-- Written by a program of this session over the kit's print of the translation. Lean checks it.
import Derived.Test.YtlboachgeepadaaPx0
-- shorter
namespace Go.Proofs.Ytlboachgeepadaa.P
open Go.RowKit Go.Proofs.YtlboachgeepadaaW.PrintWords Go.Proofs.YtlboachgeepadaaW.PrintLast Go.Proofs.YtlboachgeepadaaW.PrintMore
attribute [local go_sem] max2_int min2_int max_two min_two max_three min_three max_four min_four   -- for this text's walks alone
set_option linter.unusedVariables false
set_option linter.unusedSimpArgs false

/-! ### drydockref19_Of: function 17 -/
def drydockref19_Of.j0 : Nat → Int → List Int → Bool → Option (Int × Int × Bool)
  | 0, _, _, _ => none
  | k + 1, x0, x1, x13 => if x13 = true then (if 0 < (x1.length : Int) then (if 1 < (x1.length : Int) then (some (rd x1 0, rd x1 1, true)) else (none)) else (none)) else (if x0 = 2 then (if (x1.length : Int) = 2 then (if 0 < (x1.length : Int) then (if 1 < (x1.length : Int) then (some (rd x1 0, rd x1 1, true)) else (none)) else (none)) else (some (0, 0, false))) else (some (0, 0, false)))
def drydockref19_Of.f (k : Nat) (a0 : Int) (l1 : List Int) : Option (Int × Int × Bool) := if a0 = 1 then (drydockref19_Of.j0 k a0 l1 ((l1.length : Int) == 4)) else (drydockref19_Of.j0 k a0 l1 false)
theorem drydockref19_Of.mono_l : ∀ k, (∀ y0 y1 y2, LeO (drydockref19_Of.j0 k y0 y1 y2) (drydockref19_Of.j0 (k + 1) y0 y1 y2))
  | 0 => fun _ _ _ r h => by simp [drydockref19_Of.j0] at h
  | k + 1 => by
    have ih0 := drydockref19_Of.mono_l k
    · intro y0 y1 y2
      unfold drydockref19_Of.j0
      repeat' first
      | (with_reducible exact ih0 _ _ _)
      | (with_reducible exact LeO.refl _)
      | (with_reducible exact LeO.none _)
      | (with_reducible refine LeO.ite ?_ ?_)
      | (with_reducible refine LeO.bind ?_ (fun _ => ?_))
      | exact ih0 _ _ _
      | exact LeO.none _
      | refine LeO.ite ?_ ?_
      | refine LeO.bind ?_ (fun _ => ?_)
theorem drydockref19_Of.mono : ∀ a0 a1 k, LeO (drydockref19_Of.f k a0 a1) (drydockref19_Of.f (k + 1) a0 a1) := by
 intro a0 a1 k
 have ih0 := drydockref19_Of.mono_l k
 unfold drydockref19_Of.f
 repeat' first
  | (with_reducible exact ih0 _ _ _)
  | (with_reducible exact LeO.refl _)
  | (with_reducible exact LeO.none _)
  | (with_reducible refine LeO.ite ?_ ?_)
  | (with_reducible refine LeO.bind ?_ (fun _ => ?_))
  | exact ih0 _ _ _
  | exact LeO.none _
  | refine LeO.ite ?_ ?_
  | refine LeO.bind ?_ (fun _ => ?_)
set_option maxHeartbeats 8000000 in
set_option maxRecDepth 100000 in
theorem drydockref19_Of.calls (k : Nat) (a0 : Int) (A1 : Option Addr) (c1 : Nat) (l1 : List Int) (r1 : Int) (r2 : Int) (r3 : Bool) (w : World) (hr1 : Kd.C (Kd.int .u32) w A1 l1.length l1) (hc1 : l1.length ≤ c1) (h : drydockref19_Of.f k a0 l1 = some (r1, r2, r3)) :
    Calls Try.prog 17 #[.int .i64 a0, .slice A1 l1.length c1] w fun e w' => e = .returned (.tuple #[.int .u32 r1, .int .u32 r2, .bool r3]) ∧ Drawn0 w w' := by
 have HR1 := Aside0.mk hr1
 have HC1 := Aside0.mk hc1
 clear hr1 hc1
 have H : (if a0 = 1 then (drydockref19_Of.j0 k a0 l1 ((l1.length : Int) == 4)) else (drydockref19_Of.j0 k a0 l1 false)) = some (r1, r2, r3) := h
 clear h
 have HC3 := Aside0.mk H
 clear H
 go_enter Try.func17, Try.ntmps17
 go_upto_region 1 with (fail)
 repeat (go_quiet (fail); go_upto_region 1 with (fail))
 go_cut [13] (fun v13 wc => ∃ (kq : Nat) (x13_2 : Bool), v13 = .bool x13_2 ∧ Aside0 (drydockref19_Of.j0 kq a0 l1 x13_2 = some (r1, r2, r3)) ∧ Aside0 (kq ≤ k) ∧ Drawn0 w wc)
 case first =>
  have H := HC3.out
  clear HC3
  by_cases c4 : a0 = 1
  ·rw [if_pos c4] at H
   have c4b0 : (a0 == 1) = true := beq_iff_eq.mpr c4
   have c4b1 : (a0 != 1) = false := bne_eq_false_iff_eq.mpr c4
   clear c4
   (first | rw [c4b0] | (simp only [i64_w, i32_w]; rw [c4b0]) | skip)
   have H' := Aside0.mk H
   clear H
   go_wp2
   repeat (go_quiet (fail); try go_wp2)
   go_meet
   case rel => exact ⟨_, (((l1.length : Int) == 4)), eq_, H', ⟨by first | omega | exact Nat.le_refl _⟩, by repeat (first | exact Drawn0.refl _ | apply Drawn0.step)⟩
  ·rw [if_neg c4] at H
   have c4b0 : (a0 == 1) = false := beq_eq_false_iff_ne.mpr c4
   have c4b1 : (a0 != 1) = true := bne_iff_ne.mpr c4
   (first | rw [c4b0] | (simp only [i64_w, i32_w]; rw [c4b0]) | skip)
   have H' := Aside0.mk H
   clear H
   go_wp2
   repeat (go_quiet (fail); try go_wp2)
   go_meet
   case rel => exact ⟨_, (false), eq_, H', ⟨by first | omega | exact Nat.le_refl _⟩, by repeat (first | exact Drawn0.refl _ | apply Drawn0.step)⟩
 case rest =>
  clear HC3
  obtain ⟨kq, x13_2, rfl, HA, HJ2, ⟨mc2, rfl⟩⟩ := hcut
  cases kq with
  | zero => exact absurd HA.out (by simp [drydockref19_Of.j0])
  | succ kj2 =>
   have H := HA.out
   clear HA
   simp only [drydockref19_Of.j0] at H
   by_cases c5 : x13_2 = true
   ·subst c5
    have H1 : (if 0 < (l1.length : Int) then (if 1 < (l1.length : Int) then (some (rd l1 0, rd l1 1, true)) else (none)) else (none)) = some (r1, r2, r3) := by rw [if_pos rfl] at H; exact H
    clear H
    have H := H1
    clear H1
    by_cases c6 : 0 < (l1.length : Int)
    ·rw [if_pos c6] at H
     have c6b0 : decide (0 < (l1.length : Int)) = true := decide_eq_true c6
     have c6b1 : decide (0 < l1.length) = true := decide_eq_true (by omega)
     clear c6
     by_cases c7 : 1 < (l1.length : Int)
     ·rw [if_pos c7] at H
      have c7b0 : decide (1 < (l1.length : Int)) = true := decide_eq_true c7
      have c7b1 : decide (1 < l1.length) = true := decide_eq_true (by omega)
      clear c7
      simp only [Option.some.injEq, Prod.mk.injEq] at H
      obtain ⟨rfl, rfl, rfl⟩ := H
      have p262 : 0 ≤ (0 : Int) := (by omega)
      have q262 : 0 < (l1.length : Int) := of_decide_eq_true (by first | (with_reducible assumption) | assumption)
      obtain ⟨ad262, e262, hx262_0⟩ := Kd.at_int HR1.out 0 p262 q262
      cases e262
      have qi262 : (0 < l1.length) = True := eq_true (by omega)
      (try rw [show ((0 : Int)).toNat = 0 from rfl] at hx262_0)
      (try rw [Addr.add_zero'] at hx262_0)
      replace p262 := eq_true p262
      replace q262 := eq_true q262
      have p263 : 0 ≤ (1 : Int) := (by omega)
      have q263 : 1 < (l1.length : Int) := of_decide_eq_true (by first | (with_reducible assumption) | assumption)
      obtain ⟨ad263, e263, hx263_0⟩ := Kd.at_int HR1.out 1 p263 q263
      obtain rfl : ad262 = ad263 := (by injection e263)
      (try simp only [show (1 : Int).toNat = 1 from rfl, Nat.reduceMul, Nat.reduceEqDiff, Go.Addr.add, ↓reduceIte] at hx263_0)
      have qi263 : (1 < l1.length) = True := eq_true (by omega)
      (try rw [show ((1 : Int)).toNat = 1 from rfl] at hx263_0)
      replace p263 := eq_true p263
      replace q263 := eq_true q263
      go_wp2
      repeat (go_quiet (fail); try go_wp2)
      go_ret3
      exact ⟨by first | rfl | (simp; done) | (simp [*]; done) | (simp [*]; unfold wrap64; omega), by repeat (first | exact Drawn0.refl _ | apply Drawn0.step)⟩
     ·rw [if_neg c7] at H
      exact absurd H (by simp)
    ·rw [if_neg c6] at H
     exact absurd H (by simp)
   ·replace c5 := Bool.eq_false_iff.mpr c5
    subst c5
    have H1 : (if a0 = 2 then (if (l1.length : Int) = 2 then (if 0 < (l1.length : Int) then (if 1 < (l1.length : Int) then (some (rd l1 0, rd l1 1, true)) else (none)) else (none)) else (some (0, 0, false))) else (some (0, 0, false))) = some (r1, r2, r3) := by rw [if_neg (show ¬ (false = true) by decide)] at H; exact H
    clear H
    have H := H1
    clear H1
    by_cases c8 : a0 = 2
    ·rw [if_pos c8] at H
     have c8b0 : (a0 == 2) = true := beq_iff_eq.mpr c8
     have c8b1 : (a0 != 2) = false := bne_eq_false_iff_eq.mpr c8
     clear c8
     by_cases c9 : (l1.length : Int) = 2
     ·rw [if_pos c9] at H
      have c9b0 : ((l1.length : Int) == 2) = true := beq_iff_eq.mpr c9
      have c9b1 : ((l1.length : Int) != 2) = false := bne_eq_false_iff_eq.mpr c9
      clear c9
      by_cases c10 : 0 < (l1.length : Int)
      ·rw [if_pos c10] at H
       have c10b0 : decide (0 < (l1.length : Int)) = true := decide_eq_true c10
       have c10b1 : decide (0 < l1.length) = true := decide_eq_true (by omega)
       clear c10
       by_cases c11 : 1 < (l1.length : Int)
       ·rw [if_pos c11] at H
        have c11b0 : decide (1 < (l1.length : Int)) = true := decide_eq_true c11
        have c11b1 : decide (1 < l1.length) = true := decide_eq_true (by omega)
        clear c11
        simp only [Option.some.injEq, Prod.mk.injEq] at H
        obtain ⟨rfl, rfl, rfl⟩ := H
        have p264 : 0 ≤ (0 : Int) := (by omega)
        have q264 : 0 < (l1.length : Int) := of_decide_eq_true (by first | (with_reducible assumption) | assumption)
        obtain ⟨ad264, e264, hx264_0⟩ := Kd.at_int HR1.out 0 p264 q264
        cases e264
        have qi264 : (0 < l1.length) = True := eq_true (by omega)
        (try rw [show ((0 : Int)).toNat = 0 from rfl] at hx264_0)
        (try rw [Addr.add_zero'] at hx264_0)
        replace p264 := eq_true p264
        replace q264 := eq_true q264
        have p265 : 0 ≤ (1 : Int) := (by omega)
        have q265 : 1 < (l1.length : Int) := of_decide_eq_true (by first | (with_reducible assumption) | assumption)
        obtain ⟨ad265, e265, hx265_0⟩ := Kd.at_int HR1.out 1 p265 q265
        obtain rfl : ad264 = ad265 := (by injection e265)
        (try simp only [show (1 : Int).toNat = 1 from rfl, Nat.reduceMul, Nat.reduceEqDiff, Go.Addr.add, ↓reduceIte] at hx265_0)
        have qi265 : (1 < l1.length) = True := eq_true (by omega)
        (try rw [show ((1 : Int)).toNat = 1 from rfl] at hx265_0)
        replace p265 := eq_true p265
        replace q265 := eq_true q265
        go_wp2
        repeat (go_quiet (fail); try go_wp2)
        go_ret3
        exact ⟨by first | rfl | (simp; done) | (simp [*]; done) | (simp [*]; unfold wrap64; omega), by repeat (first | exact Drawn0.refl _ | apply Drawn0.step)⟩
       ·rw [if_neg c11] at H
        exact absurd H (by simp)
      ·rw [if_neg c10] at H
       exact absurd H (by simp)
     ·rw [if_neg c9] at H
      have c9b0 : ((l1.length : Int) == 2) = false := beq_eq_false_iff_ne.mpr c9
      have c9b1 : ((l1.length : Int) != 2) = true := bne_iff_ne.mpr c9
      simp only [Option.some.injEq, Prod.mk.injEq] at H
      obtain ⟨rfl, rfl, rfl⟩ := H
      go_wp2
      repeat (go_quiet (fail); try go_wp2)
      go_ret3
      exact ⟨by first | rfl | (simp; done) | (simp [*]; done) | (simp [*]; unfold wrap64; omega), by repeat (first | exact Drawn0.refl _ | apply Drawn0.step)⟩
    ·rw [if_neg c8] at H
     have c8b0 : (a0 == 2) = false := beq_eq_false_iff_ne.mpr c8
     have c8b1 : (a0 != 2) = true := bne_iff_ne.mpr c8
     simp only [Option.some.injEq, Prod.mk.injEq] at H
     obtain ⟨rfl, rfl, rfl⟩ := H
     go_wp2
     repeat (go_quiet (fail); try go_wp2)
     go_ret3
     exact ⟨by first | rfl | (simp; done) | (simp [*]; done) | (simp [*]; unfold wrap64; omega), by repeat (first | exact Drawn0.refl _ | apply Drawn0.step)⟩

-- NOT PRINTED: function 35 (slices_IndexFunc_uint32_uint32)

-- NOT PRINTED: function 28 (slices_DeleteFunc_uint32_uint32)

-- NOT PRINTED: function 30 (api_Entry)

-- NOT PRINTED: function 31 (api_Fn)

-- NOT PRINTED: function 32 (api_Inst)

end Go.Proofs.Ytlboachgeepadaa.P
