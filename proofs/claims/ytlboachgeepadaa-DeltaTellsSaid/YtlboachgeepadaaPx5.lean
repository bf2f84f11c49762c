-- Written by a program of this session over the kit's print of the translation. Lean checks it.
import Derived.Test.YtlboachgeepadaaPx0
-- shorter
namespace Go.Proofs.Ytlboachgeepadaa.P
open Go.RowKit Go.Proofs.YtlboachgeepadaaW.PrintWords Go.Proofs.YtlboachgeepadaaW.PrintLast Go.Proofs.YtlboachgeepadaaW.PrintMore
attribute [local go_sem] max2_int min2_int max_two min_two max_three min_three max_four min_four   -- for this text's walks alone
set_option linter.unusedVariables false
set_option linter.unusedSimpArgs false

/-! ### delta_Of: function 16 -/
def delta_Of.f (a0 : Int) (l1 : List Int) : Option (Int × Int × Bool) := if a0 = 1 then (if (l1.length : Int) = 4 then (if 0 < (l1.length : Int) then (if 1 < (l1.length : Int) then (some (rd l1 0, rd l1 1, true)) else (none)) else (none)) else (if a0 = 2 then (if (l1.length : Int) = 2 then (if 0 < (l1.length : Int) then (if 1 < (l1.length : Int) then (some (rd l1 0, rd l1 1, true)) else (none)) else (none)) else (some (0, 0, false))) else (some (0, 0, false)))) else (if a0 = 2 then (if (l1.length : Int) = 2 then (if 0 < (l1.length : Int) then (if 1 < (l1.length : Int) then (some (rd l1 0, rd l1 1, true)) else (none)) else (none)) else (some (0, 0, false))) else (some (0, 0, false)))
set_option maxHeartbeats 8000000 in
set_option maxRecDepth 100000 in
theorem delta_Of.calls (a0 : Int) (A1 : Option Addr) (c1 : Nat) (l1 : List Int) (r1 : Int) (r2 : Int) (r3 : Bool) (w : World) (hr1 : Kd.C (Kd.int .u32) w A1 l1.length l1) (hc1 : l1.length ≤ c1) (h : delta_Of.f a0 l1 = some (r1, r2, r3)) :
    Calls Try.prog 16 #[.int .i64 a0, .slice A1 l1.length c1] w fun e w' => e = .returned (.tuple #[.int .u32 r1, .int .u32 r2, .bool r3]) ∧ Drawn0 w w' := by
 have HR1 := Aside0.mk hr1
 have HC1 := Aside0.mk hc1
 clear hr1 hc1
 have H : (if a0 = 1 then (if (l1.length : Int) = 4 then (if 0 < (l1.length : Int) then (if 1 < (l1.length : Int) then (some (rd l1 0, rd l1 1, true)) else (none)) else (none)) else (if a0 = 2 then (if (l1.length : Int) = 2 then (if 0 < (l1.length : Int) then (if 1 < (l1.length : Int) then (some (rd l1 0, rd l1 1, true)) else (none)) else (none)) else (some (0, 0, false))) else (some (0, 0, false)))) else (if a0 = 2 then (if (l1.length : Int) = 2 then (if 0 < (l1.length : Int) then (if 1 < (l1.length : Int) then (some (rd l1 0, rd l1 1, true)) else (none)) else (none)) else (some (0, 0, false))) else (some (0, 0, false)))) = some (r1, r2, r3) := h
 clear h
 by_cases c3 : a0 = 1
 ·rw [if_pos c3] at H
  have c3b0 : (a0 == 1) = true := beq_iff_eq.mpr c3
  have c3b1 : (a0 != 1) = false := bne_eq_false_iff_eq.mpr c3
  clear c3
  by_cases c4 : (l1.length : Int) = 4
  ·rw [if_pos c4] at H
   have c4b0 : ((l1.length : Int) == 4) = true := beq_iff_eq.mpr c4
   have c4b1 : ((l1.length : Int) != 4) = false := bne_eq_false_iff_eq.mpr c4
   clear c4
   by_cases c5 : 0 < (l1.length : Int)
   ·rw [if_pos c5] at H
    have c5b0 : decide (0 < (l1.length : Int)) = true := decide_eq_true c5
    have c5b1 : decide (0 < l1.length) = true := decide_eq_true (by omega)
    clear c5
    by_cases c6 : 1 < (l1.length : Int)
    ·rw [if_pos c6] at H
     have c6b0 : decide (1 < (l1.length : Int)) = true := decide_eq_true c6
     have c6b1 : decide (1 < l1.length) = true := decide_eq_true (by omega)
     clear c6
     simp only [Option.some.injEq, Prod.mk.injEq] at H
     obtain ⟨rfl, rfl, rfl⟩ := H
     have p116 : 0 ≤ (0 : Int) := (by omega)
     have q116 : 0 < (l1.length : Int) := of_decide_eq_true (by first | (with_reducible assumption) | assumption)
     obtain ⟨ad116, e116, hx116_0⟩ := Kd.at_int HR1.out 0 p116 q116
     cases e116
     have qi116 : (0 < l1.length) = True := eq_true (by omega)
     (try rw [show ((0 : Int)).toNat = 0 from rfl] at hx116_0)
     (try rw [Addr.add_zero'] at hx116_0)
     replace p116 := eq_true p116
     replace q116 := eq_true q116
     have p117 : 0 ≤ (1 : Int) := (by omega)
     have q117 : 1 < (l1.length : Int) := of_decide_eq_true (by first | (with_reducible assumption) | assumption)
     obtain ⟨ad117, e117, hx117_0⟩ := Kd.at_int HR1.out 1 p117 q117
     obtain rfl : ad116 = ad117 := (by injection e117)
     (try simp only [show (1 : Int).toNat = 1 from rfl, Nat.reduceMul, Nat.reduceEqDiff, Go.Addr.add, ↓reduceIte] at hx117_0)
     have qi117 : (1 < l1.length) = True := eq_true (by omega)
     (try rw [show ((1 : Int)).toNat = 1 from rfl] at hx117_0)
     replace p117 := eq_true p117
     replace q117 := eq_true q117
     go_enter Try.func16, Try.ntmps16
     go_wp2
     repeat (go_quiet (fail); try go_wp2)
     go_ret3
     exact ⟨by first | rfl | (simp; done) | (simp [*]; done) | (simp [*]; unfold wrap64; omega), by repeat (first | exact Drawn0.refl _ | apply Drawn0.step)⟩
    ·rw [if_neg c6] at H
     exact absurd H (by simp)
   ·rw [if_neg c5] at H
    exact absurd H (by simp)
  ·rw [if_neg c4] at H
   have c4b0 : ((l1.length : Int) == 4) = false := beq_eq_false_iff_ne.mpr c4
   have c4b1 : ((l1.length : Int) != 4) = true := bne_iff_ne.mpr c4
   by_cases c7 : a0 = 2
   ·rw [if_pos c7] at H
    have c7b0 : (a0 == 2) = true := beq_iff_eq.mpr c7
    have c7b1 : (a0 != 2) = false := bne_eq_false_iff_eq.mpr c7
    clear c7
    by_cases c8 : (l1.length : Int) = 2
    ·rw [if_pos c8] at H
     have c8b0 : ((l1.length : Int) == 2) = true := beq_iff_eq.mpr c8
     have c8b1 : ((l1.length : Int) != 2) = false := bne_eq_false_iff_eq.mpr c8
     clear c8
     by_cases c9 : 0 < (l1.length : Int)
     ·rw [if_pos c9] at H
      have c9b0 : decide (0 < (l1.length : Int)) = true := decide_eq_true c9
      have c9b1 : decide (0 < l1.length) = true := decide_eq_true (by omega)
      clear c9
      by_cases c10 : 1 < (l1.length : Int)
      ·rw [if_pos c10] at H
       have c10b0 : decide (1 < (l1.length : Int)) = true := decide_eq_true c10
       have c10b1 : decide (1 < l1.length) = true := decide_eq_true (by omega)
       clear c10
       simp only [Option.some.injEq, Prod.mk.injEq] at H
       obtain ⟨rfl, rfl, rfl⟩ := H
       have p118 : 0 ≤ (0 : Int) := (by omega)
       have q118 : 0 < (l1.length : Int) := of_decide_eq_true (by first | (with_reducible assumption) | assumption)
       obtain ⟨ad118, e118, hx118_0⟩ := Kd.at_int HR1.out 0 p118 q118
       cases e118
       have qi118 : (0 < l1.length) = True := eq_true (by omega)
       (try rw [show ((0 : Int)).toNat = 0 from rfl] at hx118_0)
       (try rw [Addr.add_zero'] at hx118_0)
       replace p118 := eq_true p118
       replace q118 := eq_true q118
       have p119 : 0 ≤ (1 : Int) := (by omega)
       have q119 : 1 < (l1.length : Int) := of_decide_eq_true (by first | (with_reducible assumption) | assumption)
       obtain ⟨ad119, e119, hx119_0⟩ := Kd.at_int HR1.out 1 p119 q119
       obtain rfl : ad118 = ad119 := (by injection e119)
       (try simp only [show (1 : Int).toNat = 1 from rfl, Nat.reduceMul, Nat.reduceEqDiff, Go.Addr.add, ↓reduceIte] at hx119_0)
       have qi119 : (1 < l1.length) = True := eq_true (by omega)
       (try rw [show ((1 : Int)).toNat = 1 from rfl] at hx119_0)
       replace p119 := eq_true p119
       replace q119 := eq_true q119
       go_enter Try.func16, Try.ntmps16
       go_wp2
       repeat (go_quiet (fail); try go_wp2)
       go_ret3
       exact ⟨by first | rfl | (simp; done) | (simp [*]; done) | (simp [*]; unfold wrap64; omega), by repeat (first | exact Drawn0.refl _ | apply Drawn0.step)⟩
      ·rw [if_neg c10] at H
       exact absurd H (by simp)
     ·rw [if_neg c9] at H
      exact absurd H (by simp)
    ·rw [if_neg c8] at H
     have c8b0 : ((l1.length : Int) == 2) = false := beq_eq_false_iff_ne.mpr c8
     have c8b1 : ((l1.length : Int) != 2) = true := bne_iff_ne.mpr c8
     simp only [Option.some.injEq, Prod.mk.injEq] at H
     obtain ⟨rfl, rfl, rfl⟩ := H
     go_enter Try.func16, Try.ntmps16
     go_wp2
     repeat (go_quiet (fail); try go_wp2)
     go_ret3
     exact ⟨by first | rfl | (simp; done) | (simp [*]; done) | (simp [*]; unfold wrap64; omega), by repeat (first | exact Drawn0.refl _ | apply Drawn0.step)⟩
   ·rw [if_neg c7] at H
    have c7b0 : (a0 == 2) = false := beq_eq_false_iff_ne.mpr c7
    have c7b1 : (a0 != 2) = true := bne_iff_ne.mpr c7
    simp only [Option.some.injEq, Prod.mk.injEq] at H
    obtain ⟨rfl, rfl, rfl⟩ := H
    go_enter Try.func16, Try.ntmps16
    go_wp2
    repeat (go_quiet (fail); try go_wp2)
    go_ret3
    exact ⟨by first | rfl | (simp; done) | (simp [*]; done) | (simp [*]; unfold wrap64; omega), by repeat (first | exact Drawn0.refl _ | apply Drawn0.step)⟩
 ·rw [if_neg c3] at H
  have c3b0 : (a0 == 1) = false := beq_eq_false_iff_ne.mpr c3
  have c3b1 : (a0 != 1) = true := bne_iff_ne.mpr c3
  by_cases c11 : a0 = 2
  ·rw [if_pos c11] at H
   have c11b0 : (a0 == 2) = true := beq_iff_eq.mpr c11
   have c11b1 : (a0 != 2) = false := bne_eq_false_iff_eq.mpr c11
   clear c11
   by_cases c12 : (l1.length : Int) = 2
   ·rw [if_pos c12] at H
    have c12b0 : ((l1.length : Int) == 2) = true := beq_iff_eq.mpr c12
    have c12b1 : ((l1.length : Int) != 2) = false := bne_eq_false_iff_eq.mpr c12
    clear c12
    by_cases c13 : 0 < (l1.length : Int)
    ·rw [if_pos c13] at H
     have c13b0 : decide (0 < (l1.length : Int)) = true := decide_eq_true c13
     have c13b1 : decide (0 < l1.length) = true := decide_eq_true (by omega)
     clear c13
     by_cases c14 : 1 < (l1.length : Int)
     ·rw [if_pos c14] at H
      have c14b0 : decide (1 < (l1.length : Int)) = true := decide_eq_true c14
      have c14b1 : decide (1 < l1.length) = true := decide_eq_true (by omega)
      clear c14
      simp only [Option.some.injEq, Prod.mk.injEq] at H
      obtain ⟨rfl, rfl, rfl⟩ := H
      have p120 : 0 ≤ (0 : Int) := (by omega)
      have q120 : 0 < (l1.length : Int) := of_decide_eq_true (by first | (with_reducible assumption) | assumption)
      obtain ⟨ad120, e120, hx120_0⟩ := Kd.at_int HR1.out 0 p120 q120
      cases e120
      have qi120 : (0 < l1.length) = True := eq_true (by omega)
      (try rw [show ((0 : Int)).toNat = 0 from rfl] at hx120_0)
      (try rw [Addr.add_zero'] at hx120_0)
      replace p120 := eq_true p120
      replace q120 := eq_true q120
      have p121 : 0 ≤ (1 : Int) := (by omega)
      have q121 : 1 < (l1.length : Int) := of_decide_eq_true (by first | (with_reducible assumption) | assumption)
      obtain ⟨ad121, e121, hx121_0⟩ := Kd.at_int HR1.out 1 p121 q121
      obtain rfl : ad120 = ad121 := (by injection e121)
      (try simp only [show (1 : Int).toNat = 1 from rfl, Nat.reduceMul, Nat.reduceEqDiff, Go.Addr.add, ↓reduceIte] at hx121_0)
      have qi121 : (1 < l1.length) = True := eq_true (by omega)
      (try rw [show ((1 : Int)).toNat = 1 from rfl] at hx121_0)
      replace p121 := eq_true p121
      replace q121 := eq_true q121
      go_enter Try.func16, Try.ntmps16
      go_wp2
      repeat (go_quiet (fail); try go_wp2)
      go_ret3
      exact ⟨by first | rfl | (simp; done) | (simp [*]; done) | (simp [*]; unfold wrap64; omega), by repeat (first | exact Drawn0.refl _ | apply Drawn0.step)⟩
     ·rw [if_neg c14] at H
      exact absurd H (by simp)
    ·rw [if_neg c13] at H
     exact absurd H (by simp)
   ·rw [if_neg c12] at H
    have c12b0 : ((l1.length : Int) == 2) = false := beq_eq_false_iff_ne.mpr c12
    have c12b1 : ((l1.length : Int) != 2) = true := bne_iff_ne.mpr c12
    simp only [Option.some.injEq, Prod.mk.injEq] at H
    obtain ⟨rfl, rfl, rfl⟩ := H
    go_enter Try.func16, Try.ntmps16
    go_wp2
    repeat (go_quiet (fail); try go_wp2)
    go_ret3
    exact ⟨by first | rfl | (simp; done) | (simp [*]; done) | (simp [*]; unfold wrap64; omega), by repeat (first | exact Drawn0.refl _ | apply Drawn0.step)⟩
  ·rw [if_neg c11] at H
   have c11b0 : (a0 == 2) = false := beq_eq_false_iff_ne.mpr c11
   have c11b1 : (a0 != 2) = true := bne_iff_ne.mpr c11
   simp only [Option.some.injEq, Prod.mk.injEq] at H
   obtain ⟨rfl, rfl, rfl⟩ := H
   go_enter Try.func16, Try.ntmps16
   go_wp2
   repeat (go_quiet (fail); try go_wp2)
   go_ret3
   exact ⟨by first | rfl | (simp; done) | (simp [*]; done) | (simp [*]; unfold wrap64; omega), by repeat (first | exact Drawn0.refl _ | apply Drawn0.step)⟩

end Go.Proofs.Ytlboachgeepadaa.P
