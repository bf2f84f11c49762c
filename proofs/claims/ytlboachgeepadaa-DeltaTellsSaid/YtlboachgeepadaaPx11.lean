-- Written by a program of this session over the kit's print of the translation. Lean checks it.
import Derived.Test.YtlboachgeepadaaPx0
-- shorter
namespace Go.Proofs.Ytlboachgeepadaa.P
open Go.RowKit Go.Proofs.YtlboachgeepadaaW.PrintWords Go.Proofs.YtlboachgeepadaaW.PrintLast Go.Proofs.YtlboachgeepadaaW.PrintMore
attribute [local go_sem] max2_int min2_int max_two min_two max_three min_three max_four min_four   -- for this text's walks alone
set_option linter.unusedVariables false
set_option linter.unusedSimpArgs false

/-! ### drydockref05_Few: function 13 -/
mutual
def drydockref05_Few.l0 : Nat → List (S40) → Bool → Int → Option (Bool)
  | 0, _, _, _ => none
  | k + 1, x0, x3, x4 => if x4 < (x0.length : Int) then (drydockref05_Few.j1 k x0 x3 x4 x3) else (drydockref05_Few.j1 k x0 x3 x4 false)
def drydockref05_Few.j1 : Nat → List (S40) → Bool → Int → Bool → Option (Bool)
  | 0, _, _, _, _ => none
  | k + 1, x0, x3, x4, x15 => if x15 = true then (if 0 ≤ x4 then (if x4 < (x0.length : Int) then (drydockref05_Few.l1 k x0 (decide ((((rd_T40 x0 x4).f1).length : Int) ≤ 20)) x4 0) else (none)) else (none)) else (some x3)
def drydockref05_Few.l1 : Nat → List (S40) → Bool → Int → Int → Option (Bool)
  | 0, _, _, _, _ => none
  | k + 1, x0, x3, x4, x5 => if 0 ≤ x4 then (if x4 < (x0.length : Int) then (if x5 < (((rd_T40 x0 x4).f1).length : Int) then (if x3 = true then (if 0 ≤ x5 then (drydockref05_Few.l1 k x0 (decide ((((rd_T63 ((rd_T40 x0 x4).f1) x5).f1).length : Int) ≤ 6)) x4 (wrap64 (x5 + 1))) else (none)) else (drydockref05_Few.l0 k x0 x3 (wrap64 (x4 + 1)))) else (drydockref05_Few.l0 k x0 x3 (wrap64 (x4 + 1)))) else (none)) else (none)
end
def drydockref05_Few.f (k : Nat) (l0 : List (S40)) : Option (Bool) := drydockref05_Few.l0 k l0 (decide ((l0.length : Int) ≤ 6)) 0
theorem drydockref05_Few.mono_l : ∀ k, (∀ y0 y1 y2, LeO (drydockref05_Few.l0 k y0 y1 y2) (drydockref05_Few.l0 (k + 1) y0 y1 y2)) ∧ (∀ y0 y1 y2 y3, LeO (drydockref05_Few.j1 k y0 y1 y2 y3) (drydockref05_Few.j1 (k + 1) y0 y1 y2 y3)) ∧ (∀ y0 y1 y2 y3, LeO (drydockref05_Few.l1 k y0 y1 y2 y3) (drydockref05_Few.l1 (k + 1) y0 y1 y2 y3))
  | 0 => ⟨fun _ _ _ r h => by simp [drydockref05_Few.l0] at h, fun _ _ _ _ r h => by simp [drydockref05_Few.j1] at h, fun _ _ _ _ r h => by simp [drydockref05_Few.l1] at h⟩
  | k + 1 => by
    obtain ⟨ih0, ih1, ih2⟩ := drydockref05_Few.mono_l k
    refine ⟨?_, ?_, ?_⟩
    · intro y0 y1 y2
      unfold drydockref05_Few.l0
      repeat' first
      | (with_reducible exact ih0 _ _ _)
      | (with_reducible exact ih1 _ _ _ _)
      | (with_reducible exact ih2 _ _ _ _)
      | (with_reducible exact LeO.refl _)
      | (with_reducible exact LeO.none _)
      | (with_reducible refine LeO.ite ?_ ?_)
      | (with_reducible refine LeO.bind ?_ (fun _ => ?_))
      | exact ih0 _ _ _
      | exact ih1 _ _ _ _
      | exact ih2 _ _ _ _
      | exact LeO.none _
      | refine LeO.ite ?_ ?_
      | refine LeO.bind ?_ (fun _ => ?_)
    · intro y0 y1 y2 y3
      unfold drydockref05_Few.j1
      repeat' first
      | (with_reducible exact ih0 _ _ _)
      | (with_reducible exact ih1 _ _ _ _)
      | (with_reducible exact ih2 _ _ _ _)
      | (with_reducible exact LeO.refl _)
      | (with_reducible exact LeO.none _)
      | (with_reducible refine LeO.ite ?_ ?_)
      | (with_reducible refine LeO.bind ?_ (fun _ => ?_))
      | exact ih0 _ _ _
      | exact ih1 _ _ _ _
      | exact ih2 _ _ _ _
      | exact LeO.none _
      | refine LeO.ite ?_ ?_
      | refine LeO.bind ?_ (fun _ => ?_)
    · intro y0 y1 y2 y3
      unfold drydockref05_Few.l1
      repeat' first
      | (with_reducible exact ih0 _ _ _)
      | (with_reducible exact ih1 _ _ _ _)
      | (with_reducible exact ih2 _ _ _ _)
      | (with_reducible exact LeO.refl _)
      | (with_reducible exact LeO.none _)
      | (with_reducible refine LeO.ite ?_ ?_)
      | (with_reducible refine LeO.bind ?_ (fun _ => ?_))
      | exact ih0 _ _ _
      | exact ih1 _ _ _ _
      | exact ih2 _ _ _ _
      | exact LeO.none _
      | refine LeO.ite ?_ ?_
      | refine LeO.bind ?_ (fun _ => ?_)
theorem drydockref05_Few.mono : ∀ a0 k, LeO (drydockref05_Few.f k a0) (drydockref05_Few.f (k + 1) a0) := by
 intro a0 k
 obtain ⟨ih0, ih1, ih2⟩ := drydockref05_Few.mono_l k
 unfold drydockref05_Few.f
 repeat' first
  | (with_reducible exact ih0 _ _ _)
  | (with_reducible exact ih1 _ _ _ _)
  | (with_reducible exact ih2 _ _ _ _)
  | (with_reducible exact LeO.refl _)
  | (with_reducible exact LeO.none _)
  | (with_reducible refine LeO.ite ?_ ?_)
  | (with_reducible refine LeO.bind ?_ (fun _ => ?_))
  | exact ih0 _ _ _
  | exact ih1 _ _ _ _
  | exact ih2 _ _ _ _
  | exact LeO.none _
  | refine LeO.ite ?_ ?_
  | refine LeO.bind ?_ (fun _ => ?_)
set_option maxHeartbeats 8000000 in
set_option maxRecDepth 100000 in
theorem drydockref05_Few.calls (k : Nat) (A0 : Option Addr) (c0 : Nat) (l0 : List (S40)) (r : Bool) (w : World) (hr0 : Kd.C k40 w A0 l0.length l0) (hc0 : l0.length ≤ c0) (h : drydockref05_Few.f k l0 = some r) :
    Calls Try.prog 13 #[.slice A0 l0.length c0] w fun e w' => e = .returned (.bool r) ∧ Drawn0 w w' := by
 have HR0 := Aside0.mk hr0
 have HC0 := Aside0.mk hc0
 clear hr0 hc0
 have H : (drydockref05_Few.l0 k l0 (decide ((l0.length : Int) ≤ 6)) 0) = some r := h
 clear h
 have H' := Aside0.mk H
 clear H
 go_enter Try.func13, Try.ntmps13
 go_wp2
 go_loopg [3, 4] k (fun kq v3 v4 w' => ∃ (x3_1 : Bool) (x4_1 : Int), v3 = .bool x3_1 ∧ v4 = .int .i64 x4_1 ∧ Aside0 (drydockref05_Few.l0 kq l0 x3_1 x4_1 = some r) ∧ Aside0 (kq ≤ k) ∧ Drawn0 w w')
 case atStart => exact ⟨(decide ((l0.length : Int) ≤ 6)), (0), eq_, eq_, H', ⟨Nat.le_refl _⟩, by repeat (first | exact Drawn0.refl _ | apply Drawn0.step)⟩
 case round =>
  clear H'
  obtain ⟨x3_1, x4_1, rfl, rfl, HA, HK1, ⟨m1, rfl⟩⟩ := hrel
  cases gk with
  | zero => exact absurd HA.out (by simp [drydockref05_Few.l0])
  | succ k1 =>
   have H := HA.out
   clear HA
   simp only [drydockref05_Few.l0] at H
   have HC2 := Aside0.mk H
   clear H
   go_upto_region 3 with (fail)
   go_cut [15] (fun v15 wc => ∃ (kq : Nat) (x15_1 : Bool), v15 = .bool x15_1 ∧ Aside0 (drydockref05_Few.j1 kq l0 x3_1 x4_1 x15_1 = some r) ∧ Aside0 (kq ≤ k1) ∧ Drawn0 w wc)
   case first =>
    have H := HC2.out
    clear HC2
    by_cases c3 : x4_1 < (l0.length : Int)
    ·rw [if_pos c3] at H
     have c3b0 : decide (x4_1 < (l0.length : Int)) = true := decide_eq_true c3
     clear c3
     (first | rw [c3b0] | (simp only [i64_w, i32_w]; rw [c3b0]) | skip)
     have H' := Aside0.mk H
     clear H
     go_wp2
     go_meet
     case rel => exact ⟨_, (x3_1), eq_, H', ⟨by have := HK1.out; first | omega | exact Nat.le_refl _⟩, by repeat (first | exact Drawn0.refl _ | apply Drawn0.step)⟩
    ·rw [if_neg c3] at H
     have c3b0 : decide (x4_1 < (l0.length : Int)) = false := decide_eq_false c3
     clear c3
     (first | rw [c3b0] | (simp only [i64_w, i32_w]; rw [c3b0]) | skip)
     have H' := Aside0.mk H
     clear H
     go_wp2
     go_meet
     case rel => exact ⟨_, (false), eq_, H', ⟨by have := HK1.out; first | omega | exact Nat.le_refl _⟩, by repeat (first | exact Drawn0.refl _ | apply Drawn0.step)⟩
   case rest =>
    clear HC2
    obtain ⟨kq, x15_1, rfl, HA, HJ1, ⟨mc1, rfl⟩⟩ := hcut
    cases kq with
    | zero => exact absurd HA.out (by simp [drydockref05_Few.j1])
    | succ kj1 =>
     have H := HA.out
     clear HA
     simp only [drydockref05_Few.j1] at H
     by_cases c4 : x15_1 = true
     ·subst c4
      have H1 : (if 0 ≤ x4_1 then (if x4_1 < (l0.length : Int) then (drydockref05_Few.l1 kj1 l0 (decide ((((rd_T40 l0 x4_1).f1).length : Int) ≤ 20)) x4_1 0) else (none)) else (none)) = some r := by rw [if_pos rfl] at H; exact H
      clear H
      have H := H1
      clear H1
      by_cases c5 : 0 ≤ x4_1
      ·rw [if_pos c5] at H
       have c5b0 : decide (0 ≤ x4_1) = true := decide_eq_true c5
       clear c5
       by_cases c6 : x4_1 < (l0.length : Int)
       ·rw [if_pos c6] at H
        have c6b0 : decide (x4_1 < (l0.length : Int)) = true := decide_eq_true c6
        clear c6
        have H' := Aside0.mk H
        clear H
        have p205 : 0 ≤ (x4_1 : Int) := of_decide_eq_true (by first | (with_reducible assumption) | assumption)
        have q205 : x4_1 < (l0.length : Int) := of_decide_eq_true (by first | (with_reducible assumption) | assumption)
        obtain ⟨ad205, A205_4, c205_4, e205, hx205_0, hx205_1, hx205_2, hx205_3, hx205_4, hx205_5, hl205_4, hi205_4⟩ := at_T40 HR0.out x4_1 p205 q205
        cases e205
        have HR205_4 := Aside0.mk hi205_4
        have HC205_4 := Aside0.mk hl205_4
        clear hi205_4 hl205_4
        replace p205 := eq_true p205
        replace q205 := eq_true q205
        go_wp2
        go_loopg [3, 5] kj1 (fun kq v3 v5 w' => ∃ (x3_3 : Bool) (x5_3 : Int), v3 = .bool x3_3 ∧ v5 = .int .i64 x5_3 ∧ Aside0 (drydockref05_Few.l1 kq l0 x3_3 x4_1 x5_3 = some r) ∧ Aside0 (kq ≤ kj1) ∧ Drawn0 w w')
        case atStart => exact ⟨(decide ((((rd_T40 l0 x4_1).f1).length : Int) ≤ 20)), (0), eq_, eq_, H', ⟨Nat.le_refl _⟩, by repeat (first | exact Drawn0.refl _ | apply Drawn0.step)⟩
        case round =>
         clear H'
         try clear c4
         try clear c5
         try clear c5b0
         try clear c6
         try clear c6b0
         try clear hx205_0
         try clear hx205_1
         try clear hx205_2
         try clear hx205_3
         try clear hx205_4
         try clear hx205_5
         try clear p205
         try clear q205
         obtain ⟨x3_3, x5_3, rfl, rfl, HA, HK3, ⟨m3, rfl⟩⟩ := hrel
         cases gk with
         | zero => exact absurd HA.out (by simp [drydockref05_Few.l1])
         | succ k3 =>
          have H := HA.out
          clear HA
          simp only [drydockref05_Few.l1] at H
          by_cases c7 : 0 ≤ x4_1
          ·rw [if_pos c7] at H
           have c7b0 : decide (0 ≤ x4_1) = true := decide_eq_true c7
           clear c7
           by_cases c8 : x4_1 < (l0.length : Int)
           ·rw [if_pos c8] at H
            have c8b0 : decide (x4_1 < (l0.length : Int)) = true := decide_eq_true c8
            clear c8
            by_cases c9 : x5_3 < (((rd_T40 l0 x4_1).f1).length : Int)
            ·rw [if_pos c9] at H
             have c9b0 : decide (x5_3 < (((rd_T40 l0 x4_1).f1).length : Int)) = true := decide_eq_true c9
             clear c9
             by_cases c10 : x3_3 = true
             ·subst c10
              have H1 : (if 0 ≤ x5_3 then (drydockref05_Few.l1 k3 l0 (decide ((((rd_T63 ((rd_T40 l0 x4_1).f1) x5_3).f1).length : Int) ≤ 6)) x4_1 (wrap64 (x5_3 + 1))) else (none)) = some r := by rw [if_pos rfl] at H; exact H
              clear H
              have H := H1
              clear H1
              by_cases c11 : 0 ≤ x5_3
              ·rw [if_pos c11] at H
               have c11b0 : decide (0 ≤ x5_3) = true := decide_eq_true c11
               clear c11
               have H' := Aside0.mk H
               clear H
               have p206 : 0 ≤ (x4_1 : Int) := of_decide_eq_true (by first | (with_reducible assumption) | assumption)
               have q206 : x4_1 < (l0.length : Int) := of_decide_eq_true (by first | (with_reducible assumption) | assumption)
               obtain ⟨ad206, A206_4, c206_4, e206, hx206_0, hx206_1, hx206_2, hx206_3, hx206_4, hx206_5, hl206_4, hi206_4⟩ := at_T40 HR0.out x4_1 p206 q206
               obtain rfl : ad205 = ad206 := (by injection e206)
               have HR206_4 := Aside0.mk hi206_4
               have HC206_4 := Aside0.mk hl206_4
               clear hi206_4 hl206_4
               replace p206 := eq_true p206
               replace q206 := eq_true q206
               have p207 : 0 ≤ (x4_1 : Int) := of_decide_eq_true (by first | (with_reducible assumption) | assumption)
               have q207 : x4_1 < (l0.length : Int) := of_decide_eq_true (by first | (with_reducible assumption) | assumption)
               obtain ⟨ad207, A207_4, c207_4, e207, hx207_0, hx207_1, hx207_2, hx207_3, hx207_4, hx207_5, hl207_4, hi207_4⟩ := at_T40 HR0.out x4_1 p207 q207
               obtain rfl : ad205 = ad207 := (by injection e207)
               have HR207_4 := Aside0.mk hi207_4
               have HC207_4 := Aside0.mk hl207_4
               clear hi207_4 hl207_4
               replace p207 := eq_true p207
               replace q207 := eq_true q207
               have ea_ := Option.some.inj (hx206_4.symm.trans hx207_4)
               injection ea_ with ea_ en_ ec_
               subst ea_
               subst ec_
               clear en_
               have p208 : 0 ≤ (x5_3 : Int) := of_decide_eq_true (by first | (with_reducible assumption) | assumption)
               have q208 : x5_3 < (((rd_T40 l0 x4_1).f1).length : Int) := of_decide_eq_true (by first | (with_reducible assumption) | assumption)
               obtain ⟨ad208, A208_1, c208_1, e208, hx208_0, hx208_1, hl208_1, hi208_1⟩ := at_T63 HR207_4.out x5_3 p208 q208
               cases e208
               have HR208_1 := Aside0.mk hi208_1
               have HC208_1 := Aside0.mk hl208_1
               clear hi208_1 hl208_1
               replace p208 := eq_true p208
               replace q208 := eq_true q208
               go_wp2
               go_roundg k3
               case measure => have := HK1.out; have := HJ1.out; have := HK3.out; omega
               case rel => exact ⟨(decide ((((rd_T63 ((rd_T40 l0 x4_1).f1) x5_3).f1).length : Int) ≤ 6)), (wrap64 (x5_3 + 1)), eq_, eq_, H', ⟨by have := HK1.out; have := HJ1.out; have := HK3.out; omega⟩, by repeat (first | exact Drawn0.refl _ | apply Drawn0.step)⟩
              ·rw [if_neg c11] at H
               exact absurd H (by simp)
             ·replace c10 := Bool.eq_false_iff.mpr c10
              subst c10
              have H1 : (drydockref05_Few.l0 k3 l0 false (wrap64 (x4_1 + 1))) = some r := by rw [if_neg (show ¬ (false = true) by decide)] at H; exact H
              clear H
              have H := H1
              clear H1
              have H' := Aside0.mk H
              clear H
              have p206 : 0 ≤ (x4_1 : Int) := of_decide_eq_true (by first | (with_reducible assumption) | assumption)
              have q206 : x4_1 < (l0.length : Int) := of_decide_eq_true (by first | (with_reducible assumption) | assumption)
              obtain ⟨ad206, A206_4, c206_4, e206, hx206_0, hx206_1, hx206_2, hx206_3, hx206_4, hx206_5, hl206_4, hi206_4⟩ := at_T40 HR0.out x4_1 p206 q206
              obtain rfl : ad205 = ad206 := (by injection e206)
              have HR206_4 := Aside0.mk hi206_4
              have HC206_4 := Aside0.mk hl206_4
              clear hi206_4 hl206_4
              replace p206 := eq_true p206
              replace q206 := eq_true q206
              go_wp2
              go_roundg k3
              case measure => have := HK1.out; have := HJ1.out; have := HK3.out; omega
              case rel => exact ⟨(false), (wrap64 (x4_1 + 1)), eq_, eq_, H', ⟨by have := HK1.out; have := HJ1.out; have := HK3.out; omega⟩, by repeat (first | exact Drawn0.refl _ | apply Drawn0.step)⟩
            ·rw [if_neg c9] at H
             have c9b0 : decide (x5_3 < (((rd_T40 l0 x4_1).f1).length : Int)) = false := decide_eq_false c9
             clear c9
             have H' := Aside0.mk H
             clear H
             have p206 : 0 ≤ (x4_1 : Int) := of_decide_eq_true (by first | (with_reducible assumption) | assumption)
             have q206 : x4_1 < (l0.length : Int) := of_decide_eq_true (by first | (with_reducible assumption) | assumption)
             obtain ⟨ad206, A206_4, c206_4, e206, hx206_0, hx206_1, hx206_2, hx206_3, hx206_4, hx206_5, hl206_4, hi206_4⟩ := at_T40 HR0.out x4_1 p206 q206
             obtain rfl : ad205 = ad206 := (by injection e206)
             have HR206_4 := Aside0.mk hi206_4
             have HC206_4 := Aside0.mk hl206_4
             clear hi206_4 hl206_4
             replace p206 := eq_true p206
             replace q206 := eq_true q206
             go_wp2
             go_roundg k3
             case measure => have := HK1.out; have := HJ1.out; have := HK3.out; omega
             case rel => exact ⟨(x3_3), (wrap64 (x4_1 + 1)), eq_, eq_, H', ⟨by have := HK1.out; have := HJ1.out; have := HK3.out; omega⟩, by repeat (first | exact Drawn0.refl _ | apply Drawn0.step)⟩
           ·rw [if_neg c8] at H
            exact absurd H (by simp)
          ·rw [if_neg c7] at H
           exact absurd H (by simp)
       ·rw [if_neg c6] at H
        exact absurd H (by simp)
      ·rw [if_neg c5] at H
       exact absurd H (by simp)
     ·replace c4 := Bool.eq_false_iff.mpr c4
      subst c4
      have H1 : (some x3_1) = some r := by rw [if_neg (show ¬ (false = true) by decide)] at H; exact H
      clear H
      have H := H1
      clear H1
      obtain rfl := Option.some.inj H
      go_wp2
      go_ret
      exact ⟨by first | rfl | (simp; done) | (simp [*]; done) | (simp [*]; unfold wrap64; omega), by repeat (first | exact Drawn0.refl _ | apply Drawn0.step)⟩

end Go.Proofs.Ytlboachgeepadaa.P
