-- Written by a program of this session over the kit's print of the translation. Lean checks it.
import Derived.Test.YtipnfcicpnmggaaPx0
import Derived.Test.YtipnfcicpnmggaaPx4
import Derived.Test.YtipnfcicpnmggaaHFind
import Derived.Test.YtipnfcicpnmggaaSel
-- shorter
namespace Go.Proofs.Ytipnfcicpnmggaa.P
open Go.RowKit Go.Proofs.YtipnfcicpnmggaaW.PrintWords Go.Proofs.YtipnfcicpnmggaaW.PrintLast Go.Proofs.YtipnfcicpnmggaaW.PrintMore
attribute [local go_sem] max2_int min2_int max_two min_two max_three min_three max_four min_four   -- for this text's walks alone
set_option linter.unusedVariables false
set_option linter.unusedSimpArgs false

/-! ### epoch_May: function 23 -/
mutual
def epoch_May.j0 : Nat → Bool → Int → Int → Int → Int → Int → List (S43) → Option (Bool)
  | 0, _, _, _, _, _, _, _ => none
  | k + 1, x16, x102000, x102001, x102002, x102003, x102004, x102005 => if x16 = true then (some false) else (epoch_May.l0 k 0 x102000 x102001 x102002 x102003 x102004 x102005)
def epoch_May.l0 : Nat → Int → Int → Int → Int → Int → Int → List (S43) → Option (Bool)
  | 0, _, _, _, _, _, _, _ => none
  | k + 1, x17, x102000, x102001, x102002, x102003, x102004, x102005 => if x17 < 4 then (if 0 ≤ x17 then ((epoch_in.f (sel4I x102001 x102002 x102003 x102004 x17) 0 x102000).bind fun t103 => (if t103 = true then (epoch_May.l0 k (wrap64 (x17 + 1)) x102000 x102001 x102002 x102003 x102004 x102005) else (some false))) else (none)) else (epoch_May.l1 k 1 x102005 (x102005.length : Int) 0 x102000 x102001 x102002 x102003 x102004 x102005)
def epoch_May.l1 : Nat → Int → List (S43) → Int → Int → Int → Int → Int → Int → Int → List (S43) → Option (Bool)
  | 0, _, _, _, _, _, _, _, _, _, _ => none
  | k + 1, x4, x30, x31, x32, x102000, x102001, x102002, x102003, x102004, x102005 => if x32 < x31 then (if 0 ≤ x32 then (if x32 < (x30.length : Int) then (if ((rd_T43 x30 x32).f0) < 1 then (some false) else ((epoch_find.f x102000 x102001 x102002 x102003 x102004 x102005 ((rd_T43 x30 x32).f0)).bind fun t106 => (if t106 = x32 then ((epoch_in.f ((rd_T43 x30 x32).f1) x4 (wrap64 (x102000 - 1))).bind fun t107 => (if t107 = true then (epoch_May.l1 k ((rd_T43 x30 x32).f1) x30 x31 (wrap64 (x32 + 1)) x102000 x102001 x102002 x102003 x102004 x102005) else (some false))) else (some false)))) else (none)) else (none)) else (some true)
end
def epoch_May.f (k : Nat) (a0_0 : Int) (a0_1 : Int) (a0_2 : Int) (a0_3 : Int) (a0_4 : Int) (l0_5 : List (S43)) : Option (Bool) := (epoch_in.f a0_0 1 1073741824).bind fun t102 => (if t102 = true then (epoch_May.j0 k (decide ((l0_5.length : Int) > 16)) a0_0 a0_1 a0_2 a0_3 a0_4 l0_5) else (epoch_May.j0 k true a0_0 a0_1 a0_2 a0_3 a0_4 l0_5))
theorem epoch_May.mono_l : ∀ k, (∀ y0 y1 y2 y3 y4 y5 y6, LeO (epoch_May.j0 k y0 y1 y2 y3 y4 y5 y6) (epoch_May.j0 (k + 1) y0 y1 y2 y3 y4 y5 y6)) ∧ (∀ y0 y1 y2 y3 y4 y5 y6, LeO (epoch_May.l0 k y0 y1 y2 y3 y4 y5 y6) (epoch_May.l0 (k + 1) y0 y1 y2 y3 y4 y5 y6)) ∧ (∀ y0 y1 y2 y3 y4 y5 y6 y7 y8 y9, LeO (epoch_May.l1 k y0 y1 y2 y3 y4 y5 y6 y7 y8 y9) (epoch_May.l1 (k + 1) y0 y1 y2 y3 y4 y5 y6 y7 y8 y9))
  | 0 => ⟨fun _ _ _ _ _ _ _ r h => by simp [epoch_May.j0] at h, fun _ _ _ _ _ _ _ r h => by simp [epoch_May.l0] at h, fun _ _ _ _ _ _ _ _ _ _ r h => by simp [epoch_May.l1] at h⟩
  | k + 1 => by
    obtain ⟨ih0, ih1, ih2⟩ := epoch_May.mono_l k
    refine ⟨?_, ?_, ?_⟩
    · intro y0 y1 y2 y3 y4 y5 y6
      unfold epoch_May.j0
      repeat' first
      | (with_reducible exact ih0 _ _ _ _ _ _ _)
      | (with_reducible exact ih1 _ _ _ _ _ _ _)
      | (with_reducible exact ih2 _ _ _ _ _ _ _ _ _ _)
      | (with_reducible exact LeO.refl _)
      | (with_reducible exact LeO.none _)
      | (with_reducible refine LeO.ite ?_ ?_)
      | (with_reducible refine LeO.bind ?_ (fun _ => ?_))
      | exact ih0 _ _ _ _ _ _ _
      | exact ih1 _ _ _ _ _ _ _
      | exact ih2 _ _ _ _ _ _ _ _ _ _
      | exact LeO.none _
      | refine LeO.ite ?_ ?_
      | refine LeO.bind ?_ (fun _ => ?_)
    · intro y0 y1 y2 y3 y4 y5 y6
      unfold epoch_May.l0
      repeat' first
      | (with_reducible exact ih0 _ _ _ _ _ _ _)
      | (with_reducible exact ih1 _ _ _ _ _ _ _)
      | (with_reducible exact ih2 _ _ _ _ _ _ _ _ _ _)
      | (with_reducible exact LeO.refl _)
      | (with_reducible exact LeO.none _)
      | (with_reducible refine LeO.ite ?_ ?_)
      | (with_reducible refine LeO.bind ?_ (fun _ => ?_))
      | exact ih0 _ _ _ _ _ _ _
      | exact ih1 _ _ _ _ _ _ _
      | exact ih2 _ _ _ _ _ _ _ _ _ _
      | exact LeO.none _
      | refine LeO.ite ?_ ?_
      | refine LeO.bind ?_ (fun _ => ?_)
    · intro y0 y1 y2 y3 y4 y5 y6 y7 y8 y9
      unfold epoch_May.l1
      repeat' first
      | (with_reducible exact ih0 _ _ _ _ _ _ _)
      | (with_reducible exact ih1 _ _ _ _ _ _ _)
      | (with_reducible exact ih2 _ _ _ _ _ _ _ _ _ _)
      | (with_reducible exact LeO.refl _)
      | (with_reducible exact LeO.none _)
      | (with_reducible refine LeO.ite ?_ ?_)
      | (with_reducible refine LeO.bind ?_ (fun _ => ?_))
      | exact ih0 _ _ _ _ _ _ _
      | exact ih1 _ _ _ _ _ _ _
      | exact ih2 _ _ _ _ _ _ _ _ _ _
      | exact LeO.none _
      | refine LeO.ite ?_ ?_
      | refine LeO.bind ?_ (fun _ => ?_)
theorem epoch_May.mono : ∀ a0 a1 a2 a3 a4 a5 k, LeO (epoch_May.f k a0 a1 a2 a3 a4 a5) (epoch_May.f (k + 1) a0 a1 a2 a3 a4 a5) := by
 intro a0 a1 a2 a3 a4 a5 k
 obtain ⟨ih0, ih1, ih2⟩ := epoch_May.mono_l k
 unfold epoch_May.f
 repeat' first
  | (with_reducible exact ih0 _ _ _ _ _ _ _)
  | (with_reducible exact ih1 _ _ _ _ _ _ _)
  | (with_reducible exact ih2 _ _ _ _ _ _ _ _ _ _)
  | (with_reducible exact LeO.refl _)
  | (with_reducible exact LeO.none _)
  | (with_reducible refine LeO.ite ?_ ?_)
  | (with_reducible refine LeO.bind ?_ (fun _ => ?_))
  | exact ih0 _ _ _ _ _ _ _
  | exact ih1 _ _ _ _ _ _ _
  | exact ih2 _ _ _ _ _ _ _ _ _ _
  | exact LeO.none _
  | refine LeO.ite ?_ ?_
  | refine LeO.bind ?_ (fun _ => ?_)
set_option maxHeartbeats 8000000 in
set_option maxRecDepth 100000 in
theorem epoch_May.calls (k : Nat) (a0_0 : Int) (a0_1 : Int) (a0_2 : Int) (a0_3 : Int) (a0_4 : Int) (A0_5 : Option Addr) (c0_5 : Nat) (l0_5 : List (S43)) (r : Bool) (w : World) (hr0_5 : Kd.C k43 w A0_5 l0_5.length l0_5) (hc0_5 : l0_5.length ≤ c0_5) (h : epoch_May.f k a0_0 a0_1 a0_2 a0_3 a0_4 l0_5 = some r) :
    Calls Try.prog 23 #[.agg #[.int .i64 a0_0, .int .i64 a0_1, .int .i64 a0_2, .int .i64 a0_3, .int .i64 a0_4, .slice A0_5 l0_5.length c0_5]] w fun e w' => e = .returned (.bool r) ∧ Below w.heap.size w w' := by
 have hu25 := Try.underlying25
 have hu43 := Try.underlying43
 have HR0_5 := Aside0.mk hr0_5
 have HC0_5 := Aside0.mk hc0_5
 clear hr0_5 hc0_5
 have HB := Aside0.mk (Below.refl w.heap.size w)
 have H : ((epoch_in.f a0_0 1 1073741824).bind fun t102 => (if t102 = true then (epoch_May.j0 k (decide ((l0_5.length : Int) > 16)) a0_0 a0_1 a0_2 a0_3 a0_4 l0_5) else (epoch_May.j0 k true a0_0 a0_1 a0_2 a0_3 a0_4 l0_5))) = some r := h
 clear h
 have HC2 := Aside0.mk H
 clear H
 go_enter Try.func23, Try.ntmps23
 go_upto_region 1 with (first | ((with_reducible refine gate_dst (N := 1) rfl ?_); (try (refine gate_guard (by rfl) ?_; dsimp only)); refine box_event ?hg (N := 1) ?hd (cs := #[.int .i64 a0_0, .int .i64 a0_1, .int .i64 a0_2, .int .i64 a0_3, .int .i64 a0_4, .slice A0_5 l0_5.length c0_5]) (t := 25) ?hr ?_; (case hd => rfl); (case hg => rfl); (case hr => first | (go_simp; done) | (go_simp; rfl)); intro gb101 hg w3 hbox hb; have n0_ := Aside0.mk (below_step bs_ hb); have n1_ := Aside0.mk (hbox); have n2_ := Aside0.mk ((by rw [hg]; exact (below_size bs_) : w.heap.size ≤ gb101)); have n3_ := Aside0.mk ((by rw [hg]; exact (below_size bs_) : w.heap.size ≤ gb101)); clear HB; have HB := n0_; have BK101 := n1_; have GW101 := n2_; have GE101 := n3_; clear n0_ n1_ n2_ n3_; clear hb hbox hg))
 repeat (go_quiet (first | ((with_reducible refine gate_dst (N := 1) rfl ?_); (try (refine gate_guard (by rfl) ?_; dsimp only)); refine box_event ?hg (N := 1) ?hd (cs := #[.int .i64 a0_0, .int .i64 a0_1, .int .i64 a0_2, .int .i64 a0_3, .int .i64 a0_4, .slice A0_5 l0_5.length c0_5]) (t := 25) ?hr ?_; (case hd => rfl); (case hg => rfl); (case hr => first | (go_simp; done) | (go_simp; rfl)); intro gb101 hg w3 hbox hb; have n0_ := Aside0.mk (below_step bs_ hb); have n1_ := Aside0.mk (hbox); have n2_ := Aside0.mk ((by rw [hg]; exact (below_size bs_) : w.heap.size ≤ gb101)); have n3_ := Aside0.mk ((by rw [hg]; exact (below_size bs_) : w.heap.size ≤ gb101)); clear HB; have HB := n0_; have BK101 := n1_; have GW101 := n2_; have GE101 := n3_; clear n0_ n1_ n2_ n3_; clear hb hbox hg)); go_upto_region 1 with (first | ((with_reducible refine gate_dst (N := 1) rfl ?_); (try (refine gate_guard (by rfl) ?_; dsimp only)); refine box_event ?hg (N := 1) ?hd (cs := #[.int .i64 a0_0, .int .i64 a0_1, .int .i64 a0_2, .int .i64 a0_3, .int .i64 a0_4, .slice A0_5 l0_5.length c0_5]) (t := 25) ?hr ?_; (case hd => rfl); (case hg => rfl); (case hr => first | (go_simp; done) | (go_simp; rfl)); intro gb101 hg w3 hbox hb; have n0_ := Aside0.mk (below_step bs_ hb); have n1_ := Aside0.mk (hbox); have n2_ := Aside0.mk ((by rw [hg]; exact (below_size bs_) : w.heap.size ≤ gb101)); have n3_ := Aside0.mk ((by rw [hg]; exact (below_size bs_) : w.heap.size ≤ gb101)); clear HB; have HB := n0_; have BK101 := n1_; have GW101 := n2_; have GE101 := n3_; clear n0_ n1_ n2_ n3_; clear hb hbox hg)))
 (try simp only [Act.put, List.setIfInBounds_toArray, List.set_cons_zero, List.set_cons_succ])
 go_cut [16] (fun v16 wc => ∃ (kq : Nat) (x16_1 : Bool), v16 = .bool x16_1 ∧ Aside0 (epoch_May.j0 kq x16_1 a0_0 a0_1 a0_2 a0_3 a0_4 l0_5 = some r) ∧ Aside0 (kq ≤ k) ∧ Aside0 (wc.heap[gb101]? = some (.cells #[.int .i64 a0_0, .int .i64 a0_1, .int .i64 a0_2, .int .i64 a0_3, .int .i64 a0_4, (.slice A0_5 l0_5.length c0_5)] 25 (0, 0))) ∧ Aside0 (Below w.heap.size w wc))
 case first =>
  have H := HC2.out
  clear HC2
  replace H := Option.bind_eq_some_iff.mp H
  obtain ⟨t102, A40, H⟩ := H
  replace H : (if t102 = true then (epoch_May.j0 k (decide ((l0_5.length : Int) > 16)) a0_0 a0_1 a0_2 a0_3 a0_4 l0_5) else (epoch_May.j0 k true a0_0 a0_1 a0_2 a0_3 a0_4 l0_5)) = some r := H
  have A4 := Aside0.mk A40
  clear A40
  by_cases c5 : t102 = true
  ·subst c5
   have H1 : (epoch_May.j0 k (decide ((l0_5.length : Int) > 16)) a0_0 a0_1 a0_2 a0_3 a0_4 l0_5) = some r := by rw [if_pos rfl] at H; exact H
   clear H
   have H := H1
   clear H1
   have H' := Aside0.mk H
   clear H
   obtain ⟨hcz6_0, hcz6_1, hcz6_2, hcz6_3, hcz6_4, hcz6_5, hfz6_0, hfz6_1, hfz6_2, hfz6_3, hfz6_4, hfz6_5⟩ := blk6 BK101
   go_wp2_with (first | (go_at_call 30; (with_reducible refine (epoch_in.calls a0_0 1 1073741824 true _ A4.out).mono ?_); rintro e w' ⟨rfl, ⟨nd, rfl⟩⟩; (try first | exact ⟨rfl, _, World.drewN_drewN _ _ _⟩ | exact ⟨rfl, _, Eq.trans (World.drewN_drewN _ _ _) (congrArg (World.drewN _) (Nat.add_assoc _ _ _))⟩)))
   repeat (go_quiet (first | (go_at_call 30; (with_reducible refine (epoch_in.calls a0_0 1 1073741824 true _ A4.out).mono ?_); rintro e w' ⟨rfl, ⟨nd, rfl⟩⟩; (try first | exact ⟨rfl, _, World.drewN_drewN _ _ _⟩ | exact ⟨rfl, _, Eq.trans (World.drewN_drewN _ _ _) (congrArg (World.drewN _) (Nat.add_assoc _ _ _))⟩))); try go_wp2_with (first | (go_at_call 30; (with_reducible refine (epoch_in.calls a0_0 1 1073741824 true _ A4.out).mono ?_); rintro e w' ⟨rfl, ⟨nd, rfl⟩⟩; (try first | exact ⟨rfl, _, World.drewN_drewN _ _ _⟩ | exact ⟨rfl, _, Eq.trans (World.drewN_drewN _ _ _) (congrArg (World.drewN _) (Nat.add_assoc _ _ _))⟩))))
   go_meet
   case rel => exact ⟨_, (decide ((l0_5.length : Int) > 16)), eq_, H', ⟨by first | omega | exact Nat.le_refl _⟩, ⟨bk_ BK101⟩, ⟨bs_⟩⟩
  ·replace c5 := Bool.eq_false_iff.mpr c5
   subst c5
   have H1 : (epoch_May.j0 k true a0_0 a0_1 a0_2 a0_3 a0_4 l0_5) = some r := by rw [if_neg (show ¬ (false = true) by decide)] at H; exact H
   clear H
   have H := H1
   clear H1
   have H' := Aside0.mk H
   clear H
   obtain ⟨hcz7_0, hcz7_1, hcz7_2, hcz7_3, hcz7_4, hcz7_5, hfz7_0, hfz7_1, hfz7_2, hfz7_3, hfz7_4, hfz7_5⟩ := blk6 BK101
   go_wp2_with (first | (go_at_call 30; (with_reducible refine (epoch_in.calls a0_0 1 1073741824 false _ A4.out).mono ?_); rintro e w' ⟨rfl, ⟨nd, rfl⟩⟩; (try first | exact ⟨rfl, _, World.drewN_drewN _ _ _⟩ | exact ⟨rfl, _, Eq.trans (World.drewN_drewN _ _ _) (congrArg (World.drewN _) (Nat.add_assoc _ _ _))⟩)))
   repeat (go_quiet (first | (go_at_call 30; (with_reducible refine (epoch_in.calls a0_0 1 1073741824 false _ A4.out).mono ?_); rintro e w' ⟨rfl, ⟨nd, rfl⟩⟩; (try first | exact ⟨rfl, _, World.drewN_drewN _ _ _⟩ | exact ⟨rfl, _, Eq.trans (World.drewN_drewN _ _ _) (congrArg (World.drewN _) (Nat.add_assoc _ _ _))⟩))); try go_wp2_with (first | (go_at_call 30; (with_reducible refine (epoch_in.calls a0_0 1 1073741824 false _ A4.out).mono ?_); rintro e w' ⟨rfl, ⟨nd, rfl⟩⟩; (try first | exact ⟨rfl, _, World.drewN_drewN _ _ _⟩ | exact ⟨rfl, _, Eq.trans (World.drewN_drewN _ _ _) (congrArg (World.drewN _) (Nat.add_assoc _ _ _))⟩))))
   go_meet
   case rel => exact ⟨_, (true), eq_, H', ⟨by first | omega | exact Nat.le_refl _⟩, ⟨bk_ BK101⟩, ⟨bs_⟩⟩
 case rest =>
  clear HC2
  obtain ⟨kq, x16_1, rfl, HA, HJ1, BK101, HB⟩ := hcut
  cases kq with
  | zero => exact absurd HA.out (by simp [epoch_May.j0])
  | succ kj1 =>
   have H := HA.out
   clear HA
   simp only [epoch_May.j0] at H
   by_cases c8 : x16_1 = true
   ·subst c8
    have H1 : (some false) = some r := by rw [if_pos rfl] at H; exact H
    clear H
    have H := H1
    clear H1
    obtain rfl := Option.some.inj H
    go_wp2
    repeat (go_quiet (fail); try go_wp2)
    go_ret
    exact ⟨by first | rfl | (simp [errW_none, errW_some] <;> rfl) | (simp [*, errW_none, errW_some] <;> rfl), by repeat (first | (with_reducible first | exact HB.out | apply below_alloc | apply pw_below_drewN | apply below_drew1 | refine below_set ?_ GE101.out) | exact HB.out)⟩
   ·replace c8 := Bool.eq_false_iff.mpr c8
    subst c8
    have H1 : (epoch_May.l0 kj1 0 a0_0 a0_1 a0_2 a0_3 a0_4 l0_5) = some r := by rw [if_neg (show ¬ (false = true) by decide)] at H; exact H
    clear H
    have H := H1
    clear H1
    have H' := Aside0.mk H
    clear H
    go_wp2
    repeat (go_quiet (fail); try go_wp2)
    go_loopg [17] kj1 (fun kq v17 w' => ∃ (x17_2 : Int), v17 = .int .i64 x17_2 ∧ Aside0 (epoch_May.l0 kq x17_2 a0_0 a0_1 a0_2 a0_3 a0_4 l0_5 = some r) ∧ Aside0 (kq ≤ kj1) ∧ Aside0 (w'.heap[gb101]? = some (.cells #[.int .i64 a0_0, .int .i64 a0_1, .int .i64 a0_2, .int .i64 a0_3, .int .i64 a0_4, (.slice A0_5 l0_5.length c0_5)] 25 (0, 0))) ∧ Aside0 (Below w.heap.size w w'))
    case atStart => exact ⟨(0), eq_, H', ⟨Nat.le_refl _⟩, ⟨bk_ BK101⟩, ⟨bs_⟩⟩
    case round =>
     clear H'
     try clear c8
     obtain ⟨x17_2, rfl, HA, HK2, BK101, HB⟩ := hrel
     cases gk with
     | zero => exact absurd HA.out (by simp [epoch_May.l0])
     | succ k2 =>
      have H := HA.out
      clear HA
      simp only [epoch_May.l0] at H
      by_cases c9 : x17_2 < 4
      ·rw [if_pos c9] at H
       have c9b0 : decide (x17_2 < 4) = true := decide_eq_true c9
       clear c9
       by_cases c10 : 0 ≤ x17_2
       ·rw [if_pos c10] at H
        have c10b0 : decide (0 ≤ x17_2) = true := decide_eq_true c10
        clear c10
        replace H := Option.bind_eq_some_iff.mp H
        obtain ⟨t103, A110, H⟩ := H
        replace H : (if t103 = true then (epoch_May.l0 k2 (wrap64 (x17_2 + 1)) a0_0 a0_1 a0_2 a0_3 a0_4 l0_5) else (some false)) = some r := H
        have A11 := Aside0.mk A110
        clear A110
        by_cases c12 : t103 = true
        ·subst c12
         have H1 : (epoch_May.l0 k2 (wrap64 (x17_2 + 1)) a0_0 a0_1 a0_2 a0_3 a0_4 l0_5) = some r := by rw [if_pos rfl] at H; exact H
         clear H
         have H := H1
         clear H1
         have H' := Aside0.mk H
         clear H
         obtain ⟨hcz13_0, hcz13_1, hcz13_2, hcz13_3, hcz13_4, hcz13_5, hfz13_0, hfz13_1, hfz13_2, hfz13_3, hfz13_4, hfz13_5⟩ := blk6 BK101
         have pz14 : (0 ≤ (x17_2 : Int)) = True := eq_true (of_decide_eq_true (by first | (with_reducible assumption) | assumption))
         have qz14 : ((x17_2 : Int) < 4) = True := eq_true (of_decide_eq_true (by first | (with_reducible assumption) | assumption))
         have hcz14_v : wr.cell? ⟨gb101, 1 + (x17_2).toNat, none⟩ = some (.int .i64 (sel4I a0_1 a0_2 a0_3 a0_4 x17_2)) := (blk_sel4I BK101.out rfl rfl rfl rfl (of_eq_true pz14) (of_eq_true qz14))
         go_wp2_with (first | (go_at_call 30; (with_reducible refine (epoch_in.calls (sel4I a0_1 a0_2 a0_3 a0_4 x17_2) 0 a0_0 true _ A11.out).mono ?_); rintro e w' ⟨rfl, ⟨nd, rfl⟩⟩; (try first | exact ⟨rfl, _, World.drewN_drewN _ _ _⟩ | exact ⟨rfl, _, Eq.trans (World.drewN_drewN _ _ _) (congrArg (World.drewN _) (Nat.add_assoc _ _ _))⟩)))
         repeat (go_quiet (first | (go_at_call 30; (with_reducible refine (epoch_in.calls (sel4I a0_1 a0_2 a0_3 a0_4 x17_2) 0 a0_0 true _ A11.out).mono ?_); rintro e w' ⟨rfl, ⟨nd, rfl⟩⟩; (try first | exact ⟨rfl, _, World.drewN_drewN _ _ _⟩ | exact ⟨rfl, _, Eq.trans (World.drewN_drewN _ _ _) (congrArg (World.drewN _) (Nat.add_assoc _ _ _))⟩))); try go_wp2_with (first | (go_at_call 30; (with_reducible refine (epoch_in.calls (sel4I a0_1 a0_2 a0_3 a0_4 x17_2) 0 a0_0 true _ A11.out).mono ?_); rintro e w' ⟨rfl, ⟨nd, rfl⟩⟩; (try first | exact ⟨rfl, _, World.drewN_drewN _ _ _⟩ | exact ⟨rfl, _, Eq.trans (World.drewN_drewN _ _ _) (congrArg (World.drewN _) (Nat.add_assoc _ _ _))⟩))))
         go_roundg k2
         case measure => have := HJ1.out; have := HK2.out; omega
         case rel => exact ⟨(wrap64 (x17_2 + 1)), eq_, H', ⟨by have := HJ1.out; have := HK2.out; omega⟩, ⟨bk_ BK101⟩, ⟨bs_⟩⟩
        ·replace c12 := Bool.eq_false_iff.mpr c12
         subst c12
         have H1 : (some false) = some r := by rw [if_neg (show ¬ (false = true) by decide)] at H; exact H
         clear H
         have H := H1
         clear H1
         obtain rfl := Option.some.inj H
         obtain ⟨hcz15_0, hcz15_1, hcz15_2, hcz15_3, hcz15_4, hcz15_5, hfz15_0, hfz15_1, hfz15_2, hfz15_3, hfz15_4, hfz15_5⟩ := blk6 BK101
         have pz16 : (0 ≤ (x17_2 : Int)) = True := eq_true (of_decide_eq_true (by first | (with_reducible assumption) | assumption))
         have qz16 : ((x17_2 : Int) < 4) = True := eq_true (of_decide_eq_true (by first | (with_reducible assumption) | assumption))
         have hcz16_v : wr.cell? ⟨gb101, 1 + (x17_2).toNat, none⟩ = some (.int .i64 (sel4I a0_1 a0_2 a0_3 a0_4 x17_2)) := (blk_sel4I BK101.out rfl rfl rfl rfl (of_eq_true pz16) (of_eq_true qz16))
         go_wp2_with (first | (go_at_call 30; (with_reducible refine (epoch_in.calls (sel4I a0_1 a0_2 a0_3 a0_4 x17_2) 0 a0_0 false _ A11.out).mono ?_); rintro e w' ⟨rfl, ⟨nd, rfl⟩⟩; (try first | exact ⟨rfl, _, World.drewN_drewN _ _ _⟩ | exact ⟨rfl, _, Eq.trans (World.drewN_drewN _ _ _) (congrArg (World.drewN _) (Nat.add_assoc _ _ _))⟩)))
         repeat (go_quiet (first | (go_at_call 30; (with_reducible refine (epoch_in.calls (sel4I a0_1 a0_2 a0_3 a0_4 x17_2) 0 a0_0 false _ A11.out).mono ?_); rintro e w' ⟨rfl, ⟨nd, rfl⟩⟩; (try first | exact ⟨rfl, _, World.drewN_drewN _ _ _⟩ | exact ⟨rfl, _, Eq.trans (World.drewN_drewN _ _ _) (congrArg (World.drewN _) (Nat.add_assoc _ _ _))⟩))); try go_wp2_with (first | (go_at_call 30; (with_reducible refine (epoch_in.calls (sel4I a0_1 a0_2 a0_3 a0_4 x17_2) 0 a0_0 false _ A11.out).mono ?_); rintro e w' ⟨rfl, ⟨nd, rfl⟩⟩; (try first | exact ⟨rfl, _, World.drewN_drewN _ _ _⟩ | exact ⟨rfl, _, Eq.trans (World.drewN_drewN _ _ _) (congrArg (World.drewN _) (Nat.add_assoc _ _ _))⟩))))
         go_ret
         exact ⟨by first | rfl | (simp [errW_none, errW_some] <;> rfl) | (simp [*, errW_none, errW_some] <;> rfl), by repeat (first | (with_reducible first | exact HB.out | apply below_alloc | apply pw_below_drewN | apply below_drew1 | refine below_set ?_ GE101.out) | exact HB.out)⟩
       ·rw [if_neg c10] at H
        exact absurd H (by simp)
      ·rw [if_neg c9] at H
       have c9b0 : decide (x17_2 < 4) = false := decide_eq_false c9
       clear c9
       have H' := Aside0.mk H
       clear H
       obtain ⟨hcz17_0, hcz17_1, hcz17_2, hcz17_3, hcz17_4, hcz17_5, hfz17_0, hfz17_1, hfz17_2, hfz17_3, hfz17_4, hfz17_5⟩ := blk6 BK101
       go_wp2
       repeat (go_quiet (fail); try go_wp2)
       go_loopg [4, 32] k2 (fun kq v4 v32 w' => ∃ (x4_3 : Int) (x32_3 : Int), v4 = .int .i64 x4_3 ∧ v32 = .int .i64 x32_3 ∧ Aside0 (epoch_May.l1 kq x4_3 l0_5 (l0_5.length : Int) x32_3 a0_0 a0_1 a0_2 a0_3 a0_4 l0_5 = some r) ∧ Aside0 (kq ≤ k2) ∧ Aside0 (w'.heap[gb101]? = some (.cells #[.int .i64 a0_0, .int .i64 a0_1, .int .i64 a0_2, .int .i64 a0_3, .int .i64 a0_4, (.slice A0_5 l0_5.length c0_5)] 25 (0, 0))) ∧ Aside0 (Below w.heap.size w w'))
       case atStart => exact ⟨(1), (0), eq_, eq_, H', ⟨Nat.le_refl _⟩, ⟨bk_ BK101⟩, ⟨bs_⟩⟩
       case round =>
        clear H'
        try clear c8
        try clear c9
        obtain ⟨x4_3, x32_3, rfl, rfl, HA, HK3, BK101, HB⟩ := hrel
        cases gk with
        | zero => exact absurd HA.out (by simp [epoch_May.l1])
        | succ k3 =>
         have H := HA.out
         clear HA
         simp only [epoch_May.l1] at H
         by_cases c18 : x32_3 < (l0_5.length : Int)
         ·rw [if_pos c18] at H
          have c18b0 : decide (x32_3 < (l0_5.length : Int)) = true := decide_eq_true c18
          clear c18
          by_cases c19 : 0 ≤ x32_3
          ·rw [if_pos c19] at H
           have c19b0 : decide (0 ≤ x32_3) = true := decide_eq_true c19
           clear c19
           by_cases c20 : x32_3 < (l0_5.length : Int)
           ·rw [if_pos c20] at H
            have c20b0 : decide (x32_3 < (l0_5.length : Int)) = true := decide_eq_true c20
            clear c20
            by_cases c21 : ((rd_T43 l0_5 x32_3).f0) < 1
            ·rw [if_pos c21] at H
             have c21b0 : decide (((rd_T43 l0_5 x32_3).f0) < 1) = true := decide_eq_true c21
             clear c21
             obtain rfl := Option.some.inj H
             have p104 : 0 ≤ (x32_3 : Int) := of_decide_eq_true (by first | (with_reducible assumption) | assumption)
             have q104 : x32_3 < (l0_5.length : Int) := of_decide_eq_true (by first | (with_reducible assumption) | assumption)
             obtain ⟨ad104, e104, hx104_0, hx104_1⟩ := at_T43 HR0_5.out x32_3 p104 q104
             cases e104
             replace hx104_0 := (HB.out.cell (World.block_lt_of_cell? w _ hx104_0)).trans hx104_0
             replace hx104_1 := (HB.out.cell (World.block_lt_of_cell? w _ hx104_1)).trans hx104_1
             replace p104 := eq_true p104
             replace q104 := eq_true q104
             go_wp2_with (first | ((with_reducible refine gate_dst (N := 6) rfl ?_); (try (refine gate_guard (by rfl) ?_; dsimp only)); refine box_event ?hg (N := 6) ?hd (cs := #[.int .i64 0, .int .i64 0]) (t := 43) ?hr ?_; (case hd => rfl); (case hg => rfl); (case hr => first | (go_simp; done) | (go_simp; rfl)); intro gb105 hg w22 hbox hb; have n0_ := Aside0.mk (blk_below (bk_ BK101) hb); have n1_ := Aside0.mk (below_step bs_ hb); have n2_ := Aside0.mk (hbox); have n3_ := Aside0.mk ((by rw [hg]; exact (below_size bs_) : w.heap.size ≤ gb105)); have n4_ := Aside0.mk ((by rw [hg]; exact (below_size bs_) : w.heap.size ≤ gb105)); have n5_ := Aside0.mk ((by rw [hg]; exact Nat.ne_of_lt (blk_lt (bk_ BK101)) : gb101 ≠ gb105)); have n6_ := Aside0.mk ((by rw [hg]; exact Nat.ne_of_gt (blk_lt (bk_ BK101)) : gb105 ≠ gb101)); clear BK101 HB; have BK101 := n0_; have HB := n1_; have BK105 := n2_; have GW105 := n3_; have GE105 := n4_; have NB101_105 := n5_; have NB105_101 := n6_; clear n0_ n1_ n2_ n3_ n4_ n5_ n6_; clear hb hbox hg; have hnb23 := NB105_101.out; have hnc23 := NB101_105.out; obtain ⟨hcz24_0, hcz24_1, hfz24_0, hfz24_1⟩ := blk2 BK105))
             repeat (go_quiet (first | ((with_reducible refine gate_dst (N := 6) rfl ?_); (try (refine gate_guard (by rfl) ?_; dsimp only)); refine box_event ?hg (N := 6) ?hd (cs := #[.int .i64 0, .int .i64 0]) (t := 43) ?hr ?_; (case hd => rfl); (case hg => rfl); (case hr => first | (go_simp; done) | (go_simp; rfl)); intro gb105 hg w22 hbox hb; have n0_ := Aside0.mk (blk_below (bk_ BK101) hb); have n1_ := Aside0.mk (below_step bs_ hb); have n2_ := Aside0.mk (hbox); have n3_ := Aside0.mk ((by rw [hg]; exact (below_size bs_) : w.heap.size ≤ gb105)); have n4_ := Aside0.mk ((by rw [hg]; exact (below_size bs_) : w.heap.size ≤ gb105)); have n5_ := Aside0.mk ((by rw [hg]; exact Nat.ne_of_lt (blk_lt (bk_ BK101)) : gb101 ≠ gb105)); have n6_ := Aside0.mk ((by rw [hg]; exact Nat.ne_of_gt (blk_lt (bk_ BK101)) : gb105 ≠ gb101)); clear BK101 HB; have BK101 := n0_; have HB := n1_; have BK105 := n2_; have GW105 := n3_; have GE105 := n4_; have NB101_105 := n5_; have NB105_101 := n6_; clear n0_ n1_ n2_ n3_ n4_ n5_ n6_; clear hb hbox hg; have hnb23 := NB105_101.out; have hnc23 := NB101_105.out; obtain ⟨hcz24_0, hcz24_1, hfz24_0, hfz24_1⟩ := blk2 BK105)); try go_wp2_with (first | ((with_reducible refine gate_dst (N := 6) rfl ?_); (try (refine gate_guard (by rfl) ?_; dsimp only)); refine box_event ?hg (N := 6) ?hd (cs := #[.int .i64 0, .int .i64 0]) (t := 43) ?hr ?_; (case hd => rfl); (case hg => rfl); (case hr => first | (go_simp; done) | (go_simp; rfl)); intro gb105 hg w22 hbox hb; have n0_ := Aside0.mk (blk_below (bk_ BK101) hb); have n1_ := Aside0.mk (below_step bs_ hb); have n2_ := Aside0.mk (hbox); have n3_ := Aside0.mk ((by rw [hg]; exact (below_size bs_) : w.heap.size ≤ gb105)); have n4_ := Aside0.mk ((by rw [hg]; exact (below_size bs_) : w.heap.size ≤ gb105)); have n5_ := Aside0.mk ((by rw [hg]; exact Nat.ne_of_lt (blk_lt (bk_ BK101)) : gb101 ≠ gb105)); have n6_ := Aside0.mk ((by rw [hg]; exact Nat.ne_of_gt (blk_lt (bk_ BK101)) : gb105 ≠ gb101)); clear BK101 HB; have BK101 := n0_; have HB := n1_; have BK105 := n2_; have GW105 := n3_; have GE105 := n4_; have NB101_105 := n5_; have NB105_101 := n6_; clear n0_ n1_ n2_ n3_ n4_ n5_ n6_; clear hb hbox hg; have hnb23 := NB105_101.out; have hnc23 := NB101_105.out; obtain ⟨hcz24_0, hcz24_1, hfz24_0, hfz24_1⟩ := blk2 BK105)))
             go_ret
             exact ⟨by first | rfl | (simp [errW_none, errW_some] <;> rfl) | (simp [*, errW_none, errW_some] <;> rfl), by repeat (first | (with_reducible first | exact HB.out | apply below_alloc | apply pw_below_drewN | apply below_drew1 | refine below_set ?_ GE101.out | refine below_set ?_ GE105.out) | exact HB.out)⟩
            ·rw [if_neg c21] at H
             have c21b0 : decide (((rd_T43 l0_5 x32_3).f0) < 1) = false := decide_eq_false c21
             clear c21
             replace H := Option.bind_eq_some_iff.mp H
             obtain ⟨t106, A250, H⟩ := H
             replace H : (if t106 = x32_3 then ((epoch_in.f ((rd_T43 l0_5 x32_3).f1) x4_3 (wrap64 (a0_0 - 1))).bind fun t107 => (if t107 = true then (epoch_May.l1 k3 ((rd_T43 l0_5 x32_3).f1) l0_5 (l0_5.length : Int) (wrap64 (x32_3 + 1)) a0_0 a0_1 a0_2 a0_3 a0_4 l0_5) else (some false))) else (some false)) = some r := H
             have A25 := Aside0.mk A250
             clear A250
             by_cases c26 : t106 = x32_3
             ·rw [if_pos c26] at H
              have c26b0 : (t106 == x32_3) = true := beq_iff_eq.mpr c26
              have c26b1 : (t106 != x32_3) = false := bne_eq_false_iff_eq.mpr c26
              clear c26
              replace H := Option.bind_eq_some_iff.mp H
              obtain ⟨t107, A270, H⟩ := H
              replace H : (if t107 = true then (epoch_May.l1 k3 ((rd_T43 l0_5 x32_3).f1) l0_5 (l0_5.length : Int) (wrap64 (x32_3 + 1)) a0_0 a0_1 a0_2 a0_3 a0_4 l0_5) else (some false)) = some r := H
              have A27 := Aside0.mk A270
              clear A270
              by_cases c28 : t107 = true
              ·subst c28
               have H1 : (epoch_May.l1 k3 ((rd_T43 l0_5 x32_3).f1) l0_5 (l0_5.length : Int) (wrap64 (x32_3 + 1)) a0_0 a0_1 a0_2 a0_3 a0_4 l0_5) = some r := by rw [if_pos rfl] at H; exact H
               clear H
               have H := H1
               clear H1
               have H' := Aside0.mk H
               clear H
               have p104 : 0 ≤ (x32_3 : Int) := of_decide_eq_true (by first | (with_reducible assumption) | assumption)
               have q104 : x32_3 < (l0_5.length : Int) := of_decide_eq_true (by first | (with_reducible assumption) | assumption)
               obtain ⟨ad104, e104, hx104_0, hx104_1⟩ := at_T43 HR0_5.out x32_3 p104 q104
               cases e104
               replace hx104_0 := (HB.out.cell (World.block_lt_of_cell? w _ hx104_0)).trans hx104_0
               replace hx104_1 := (HB.out.cell (World.block_lt_of_cell? w _ hx104_1)).trans hx104_1
               replace p104 := eq_true p104
               replace q104 := eq_true q104
               go_wp2_with (first | ((with_reducible refine gate_dst (N := 6) rfl ?_); (try (refine gate_guard (by rfl) ?_; dsimp only)); refine box_event ?hg (N := 6) ?hd (cs := #[.int .i64 0, .int .i64 0]) (t := 43) ?hr ?_; (case hd => rfl); (case hg => rfl); (case hr => first | (go_simp; done) | (go_simp; rfl)); intro gb105 hg w29 hbox hb; have n0_ := Aside0.mk (blk_below (bk_ BK101) hb); have n1_ := Aside0.mk (below_step bs_ hb); have n2_ := Aside0.mk (hbox); have n3_ := Aside0.mk ((by rw [hg]; exact (below_size bs_) : w.heap.size ≤ gb105)); have n4_ := Aside0.mk ((by rw [hg]; exact (below_size bs_) : w.heap.size ≤ gb105)); have n5_ := Aside0.mk ((by rw [hg]; exact Nat.ne_of_lt (blk_lt (bk_ BK101)) : gb101 ≠ gb105)); have n6_ := Aside0.mk ((by rw [hg]; exact Nat.ne_of_gt (blk_lt (bk_ BK101)) : gb105 ≠ gb101)); clear BK101 HB; have BK101 := n0_; have HB := n1_; have BK105 := n2_; have GW105 := n3_; have GE105 := n4_; have NB101_105 := n5_; have NB105_101 := n6_; clear n0_ n1_ n2_ n3_ n4_ n5_ n6_; clear hb hbox hg; have hnb30 := NB105_101.out; have hnc30 := NB101_105.out; obtain ⟨hcz31_0, hcz31_1, hfz31_0, hfz31_1⟩ := blk2 BK105; obtain ⟨hcz32_0, hcz32_1, hcz32_2, hcz32_3, hcz32_4, hcz32_5, hfz32_0, hfz32_1, hfz32_2, hfz32_3, hfz32_4, hfz32_5⟩ := blk6 BK101) | (go_at_call 26; (with_reducible refine (epoch_find.calls a0_0 a0_1 a0_2 a0_3 a0_4 _ _ l0_5 ((rd_T43 l0_5 x32_3).f0) t106 _ ?side1 ?side2 A25.out).mono ?_); (case side1 => exact Kd.C_below HR0_5.out bs_); (case side2 => exact HC0_5.out); rintro e w33 ⟨rfl, hb⟩; have n0_ := Aside0.mk (blk_below (bf_ BK101) hb); have n1_ := Aside0.mk (blk_below (bp_ (o := .cells #[.int .i64 ((rd_T43 l0_5 x32_3).f0), .int .i64 ((rd_T43 l0_5 x32_3).f1)] 43 (0, 0)) BK105) hb); have n2_ := Aside0.mk (below_step bs_ hb); clear BK101 BK105 HB; have BK101 := n0_; have BK105 := n1_; have HB := n2_; clear n0_ n1_ n2_; (try clear hb); (try clear hb2); (try clear hk); (try clear hi); obtain ⟨hcz34_0, hcz34_1, hfz34_0, hfz34_1⟩ := blk2 BK105; obtain ⟨hcz35_0, hcz35_1, hcz35_2, hcz35_3, hcz35_4, hcz35_5, hfz35_0, hfz35_1, hfz35_2, hfz35_3, hfz35_4, hfz35_5⟩ := blk6 BK101) | (go_at_call 30; (with_reducible refine (epoch_in.calls ((rd_T43 l0_5 x32_3).f1) x4_3 (wrap64 (a0_0 - 1)) true _ A27.out).mono ?_); rintro e w' ⟨rfl, ⟨nd, rfl⟩⟩; (try first | exact ⟨rfl, _, World.drewN_drewN _ _ _⟩ | exact ⟨rfl, _, Eq.trans (World.drewN_drewN _ _ _) (congrArg (World.drewN _) (Nat.add_assoc _ _ _))⟩)))
               repeat (go_quiet (first | ((with_reducible refine gate_dst (N := 6) rfl ?_); (try (refine gate_guard (by rfl) ?_; dsimp only)); refine box_event ?hg (N := 6) ?hd (cs := #[.int .i64 0, .int .i64 0]) (t := 43) ?hr ?_; (case hd => rfl); (case hg => rfl); (case hr => first | (go_simp; done) | (go_simp; rfl)); intro gb105 hg w29 hbox hb; have n0_ := Aside0.mk (blk_below (bk_ BK101) hb); have n1_ := Aside0.mk (below_step bs_ hb); have n2_ := Aside0.mk (hbox); have n3_ := Aside0.mk ((by rw [hg]; exact (below_size bs_) : w.heap.size ≤ gb105)); have n4_ := Aside0.mk ((by rw [hg]; exact (below_size bs_) : w.heap.size ≤ gb105)); have n5_ := Aside0.mk ((by rw [hg]; exact Nat.ne_of_lt (blk_lt (bk_ BK101)) : gb101 ≠ gb105)); have n6_ := Aside0.mk ((by rw [hg]; exact Nat.ne_of_gt (blk_lt (bk_ BK101)) : gb105 ≠ gb101)); clear BK101 HB; have BK101 := n0_; have HB := n1_; have BK105 := n2_; have GW105 := n3_; have GE105 := n4_; have NB101_105 := n5_; have NB105_101 := n6_; clear n0_ n1_ n2_ n3_ n4_ n5_ n6_; clear hb hbox hg; have hnb30 := NB105_101.out; have hnc30 := NB101_105.out; obtain ⟨hcz31_0, hcz31_1, hfz31_0, hfz31_1⟩ := blk2 BK105; obtain ⟨hcz32_0, hcz32_1, hcz32_2, hcz32_3, hcz32_4, hcz32_5, hfz32_0, hfz32_1, hfz32_2, hfz32_3, hfz32_4, hfz32_5⟩ := blk6 BK101) | (go_at_call 26; (with_reducible refine (epoch_find.calls a0_0 a0_1 a0_2 a0_3 a0_4 _ _ l0_5 ((rd_T43 l0_5 x32_3).f0) t106 _ ?side1 ?side2 A25.out).mono ?_); (case side1 => exact Kd.C_below HR0_5.out bs_); (case side2 => exact HC0_5.out); rintro e w33 ⟨rfl, hb⟩; have n0_ := Aside0.mk (blk_below (bf_ BK101) hb); have n1_ := Aside0.mk (blk_below (bp_ (o := .cells #[.int .i64 ((rd_T43 l0_5 x32_3).f0), .int .i64 ((rd_T43 l0_5 x32_3).f1)] 43 (0, 0)) BK105) hb); have n2_ := Aside0.mk (below_step bs_ hb); clear BK101 BK105 HB; have BK101 := n0_; have BK105 := n1_; have HB := n2_; clear n0_ n1_ n2_; (try clear hb); (try clear hb2); (try clear hk); (try clear hi); obtain ⟨hcz34_0, hcz34_1, hfz34_0, hfz34_1⟩ := blk2 BK105; obtain ⟨hcz35_0, hcz35_1, hcz35_2, hcz35_3, hcz35_4, hcz35_5, hfz35_0, hfz35_1, hfz35_2, hfz35_3, hfz35_4, hfz35_5⟩ := blk6 BK101) | (go_at_call 30; (with_reducible refine (epoch_in.calls ((rd_T43 l0_5 x32_3).f1) x4_3 (wrap64 (a0_0 - 1)) true _ A27.out).mono ?_); rintro e w' ⟨rfl, ⟨nd, rfl⟩⟩; (try first | exact ⟨rfl, _, World.drewN_drewN _ _ _⟩ | exact ⟨rfl, _, Eq.trans (World.drewN_drewN _ _ _) (congrArg (World.drewN _) (Nat.add_assoc _ _ _))⟩))); try go_wp2_with (first | ((with_reducible refine gate_dst (N := 6) rfl ?_); (try (refine gate_guard (by rfl) ?_; dsimp only)); refine box_event ?hg (N := 6) ?hd (cs := #[.int .i64 0, .int .i64 0]) (t := 43) ?hr ?_; (case hd => rfl); (case hg => rfl); (case hr => first | (go_simp; done) | (go_simp; rfl)); intro gb105 hg w29 hbox hb; have n0_ := Aside0.mk (blk_below (bk_ BK101) hb); have n1_ := Aside0.mk (below_step bs_ hb); have n2_ := Aside0.mk (hbox); have n3_ := Aside0.mk ((by rw [hg]; exact (below_size bs_) : w.heap.size ≤ gb105)); have n4_ := Aside0.mk ((by rw [hg]; exact (below_size bs_) : w.heap.size ≤ gb105)); have n5_ := Aside0.mk ((by rw [hg]; exact Nat.ne_of_lt (blk_lt (bk_ BK101)) : gb101 ≠ gb105)); have n6_ := Aside0.mk ((by rw [hg]; exact Nat.ne_of_gt (blk_lt (bk_ BK101)) : gb105 ≠ gb101)); clear BK101 HB; have BK101 := n0_; have HB := n1_; have BK105 := n2_; have GW105 := n3_; have GE105 := n4_; have NB101_105 := n5_; have NB105_101 := n6_; clear n0_ n1_ n2_ n3_ n4_ n5_ n6_; clear hb hbox hg; have hnb30 := NB105_101.out; have hnc30 := NB101_105.out; obtain ⟨hcz31_0, hcz31_1, hfz31_0, hfz31_1⟩ := blk2 BK105; obtain ⟨hcz32_0, hcz32_1, hcz32_2, hcz32_3, hcz32_4, hcz32_5, hfz32_0, hfz32_1, hfz32_2, hfz32_3, hfz32_4, hfz32_5⟩ := blk6 BK101) | (go_at_call 26; (with_reducible refine (epoch_find.calls a0_0 a0_1 a0_2 a0_3 a0_4 _ _ l0_5 ((rd_T43 l0_5 x32_3).f0) t106 _ ?side1 ?side2 A25.out).mono ?_); (case side1 => exact Kd.C_below HR0_5.out bs_); (case side2 => exact HC0_5.out); rintro e w33 ⟨rfl, hb⟩; have n0_ := Aside0.mk (blk_below (bf_ BK101) hb); have n1_ := Aside0.mk (blk_below (bp_ (o := .cells #[.int .i64 ((rd_T43 l0_5 x32_3).f0), .int .i64 ((rd_T43 l0_5 x32_3).f1)] 43 (0, 0)) BK105) hb); have n2_ := Aside0.mk (below_step bs_ hb); clear BK101 BK105 HB; have BK101 := n0_; have BK105 := n1_; have HB := n2_; clear n0_ n1_ n2_; (try clear hb); (try clear hb2); (try clear hk); (try clear hi); obtain ⟨hcz34_0, hcz34_1, hfz34_0, hfz34_1⟩ := blk2 BK105; obtain ⟨hcz35_0, hcz35_1, hcz35_2, hcz35_3, hcz35_4, hcz35_5, hfz35_0, hfz35_1, hfz35_2, hfz35_3, hfz35_4, hfz35_5⟩ := blk6 BK101) | (go_at_call 30; (with_reducible refine (epoch_in.calls ((rd_T43 l0_5 x32_3).f1) x4_3 (wrap64 (a0_0 - 1)) true _ A27.out).mono ?_); rintro e w' ⟨rfl, ⟨nd, rfl⟩⟩; (try first | exact ⟨rfl, _, World.drewN_drewN _ _ _⟩ | exact ⟨rfl, _, Eq.trans (World.drewN_drewN _ _ _) (congrArg (World.drewN _) (Nat.add_assoc _ _ _))⟩))))
               go_roundg k3
               case measure => have := HJ1.out; have := HK2.out; have := HK3.out; omega
               case rel => exact ⟨((rd_T43 l0_5 x32_3).f1), (wrap64 (x32_3 + 1)), eq_, eq_, H', ⟨by have := HJ1.out; have := HK2.out; have := HK3.out; omega⟩, ⟨bk_ BK101⟩, ⟨bs_⟩⟩
              ·replace c28 := Bool.eq_false_iff.mpr c28
               subst c28
               have H1 : (some false) = some r := by rw [if_neg (show ¬ (false = true) by decide)] at H; exact H
               clear H
               have H := H1
               clear H1
               obtain rfl := Option.some.inj H
               have p104 : 0 ≤ (x32_3 : Int) := of_decide_eq_true (by first | (with_reducible assumption) | assumption)
               have q104 : x32_3 < (l0_5.length : Int) := of_decide_eq_true (by first | (with_reducible assumption) | assumption)
               obtain ⟨ad104, e104, hx104_0, hx104_1⟩ := at_T43 HR0_5.out x32_3 p104 q104
               cases e104
               replace hx104_0 := (HB.out.cell (World.block_lt_of_cell? w _ hx104_0)).trans hx104_0
               replace hx104_1 := (HB.out.cell (World.block_lt_of_cell? w _ hx104_1)).trans hx104_1
               replace p104 := eq_true p104
               replace q104 := eq_true q104
               go_wp2_with (first | ((with_reducible refine gate_dst (N := 6) rfl ?_); (try (refine gate_guard (by rfl) ?_; dsimp only)); refine box_event ?hg (N := 6) ?hd (cs := #[.int .i64 0, .int .i64 0]) (t := 43) ?hr ?_; (case hd => rfl); (case hg => rfl); (case hr => first | (go_simp; done) | (go_simp; rfl)); intro gb105 hg w36 hbox hb; have n0_ := Aside0.mk (blk_below (bk_ BK101) hb); have n1_ := Aside0.mk (below_step bs_ hb); have n2_ := Aside0.mk (hbox); have n3_ := Aside0.mk ((by rw [hg]; exact (below_size bs_) : w.heap.size ≤ gb105)); have n4_ := Aside0.mk ((by rw [hg]; exact (below_size bs_) : w.heap.size ≤ gb105)); have n5_ := Aside0.mk ((by rw [hg]; exact Nat.ne_of_lt (blk_lt (bk_ BK101)) : gb101 ≠ gb105)); have n6_ := Aside0.mk ((by rw [hg]; exact Nat.ne_of_gt (blk_lt (bk_ BK101)) : gb105 ≠ gb101)); clear BK101 HB; have BK101 := n0_; have HB := n1_; have BK105 := n2_; have GW105 := n3_; have GE105 := n4_; have NB101_105 := n5_; have NB105_101 := n6_; clear n0_ n1_ n2_ n3_ n4_ n5_ n6_; clear hb hbox hg; have hnb37 := NB105_101.out; have hnc37 := NB101_105.out; obtain ⟨hcz38_0, hcz38_1, hfz38_0, hfz38_1⟩ := blk2 BK105; obtain ⟨hcz39_0, hcz39_1, hcz39_2, hcz39_3, hcz39_4, hcz39_5, hfz39_0, hfz39_1, hfz39_2, hfz39_3, hfz39_4, hfz39_5⟩ := blk6 BK101) | (go_at_call 26; (with_reducible refine (epoch_find.calls a0_0 a0_1 a0_2 a0_3 a0_4 _ _ l0_5 ((rd_T43 l0_5 x32_3).f0) t106 _ ?side1 ?side2 A25.out).mono ?_); (case side1 => exact Kd.C_below HR0_5.out bs_); (case side2 => exact HC0_5.out); rintro e w40 ⟨rfl, hb⟩; have n0_ := Aside0.mk (blk_below (bf_ BK101) hb); have n1_ := Aside0.mk (blk_below (bp_ (o := .cells #[.int .i64 ((rd_T43 l0_5 x32_3).f0), .int .i64 ((rd_T43 l0_5 x32_3).f1)] 43 (0, 0)) BK105) hb); have n2_ := Aside0.mk (below_step bs_ hb); clear BK101 BK105 HB; have BK101 := n0_; have BK105 := n1_; have HB := n2_; clear n0_ n1_ n2_; (try clear hb); (try clear hb2); (try clear hk); (try clear hi); obtain ⟨hcz41_0, hcz41_1, hfz41_0, hfz41_1⟩ := blk2 BK105; obtain ⟨hcz42_0, hcz42_1, hcz42_2, hcz42_3, hcz42_4, hcz42_5, hfz42_0, hfz42_1, hfz42_2, hfz42_3, hfz42_4, hfz42_5⟩ := blk6 BK101) | (go_at_call 30; (with_reducible refine (epoch_in.calls ((rd_T43 l0_5 x32_3).f1) x4_3 (wrap64 (a0_0 - 1)) false _ A27.out).mono ?_); rintro e w' ⟨rfl, ⟨nd, rfl⟩⟩; (try first | exact ⟨rfl, _, World.drewN_drewN _ _ _⟩ | exact ⟨rfl, _, Eq.trans (World.drewN_drewN _ _ _) (congrArg (World.drewN _) (Nat.add_assoc _ _ _))⟩)))
               repeat (go_quiet (first | ((with_reducible refine gate_dst (N := 6) rfl ?_); (try (refine gate_guard (by rfl) ?_; dsimp only)); refine box_event ?hg (N := 6) ?hd (cs := #[.int .i64 0, .int .i64 0]) (t := 43) ?hr ?_; (case hd => rfl); (case hg => rfl); (case hr => first | (go_simp; done) | (go_simp; rfl)); intro gb105 hg w36 hbox hb; have n0_ := Aside0.mk (blk_below (bk_ BK101) hb); have n1_ := Aside0.mk (below_step bs_ hb); have n2_ := Aside0.mk (hbox); have n3_ := Aside0.mk ((by rw [hg]; exact (below_size bs_) : w.heap.size ≤ gb105)); have n4_ := Aside0.mk ((by rw [hg]; exact (below_size bs_) : w.heap.size ≤ gb105)); have n5_ := Aside0.mk ((by rw [hg]; exact Nat.ne_of_lt (blk_lt (bk_ BK101)) : gb101 ≠ gb105)); have n6_ := Aside0.mk ((by rw [hg]; exact Nat.ne_of_gt (blk_lt (bk_ BK101)) : gb105 ≠ gb101)); clear BK101 HB; have BK101 := n0_; have HB := n1_; have BK105 := n2_; have GW105 := n3_; have GE105 := n4_; have NB101_105 := n5_; have NB105_101 := n6_; clear n0_ n1_ n2_ n3_ n4_ n5_ n6_; clear hb hbox hg; have hnb37 := NB105_101.out; have hnc37 := NB101_105.out; obtain ⟨hcz38_0, hcz38_1, hfz38_0, hfz38_1⟩ := blk2 BK105; obtain ⟨hcz39_0, hcz39_1, hcz39_2, hcz39_3, hcz39_4, hcz39_5, hfz39_0, hfz39_1, hfz39_2, hfz39_3, hfz39_4, hfz39_5⟩ := blk6 BK101) | (go_at_call 26; (with_reducible refine (epoch_find.calls a0_0 a0_1 a0_2 a0_3 a0_4 _ _ l0_5 ((rd_T43 l0_5 x32_3).f0) t106 _ ?side1 ?side2 A25.out).mono ?_); (case side1 => exact Kd.C_below HR0_5.out bs_); (case side2 => exact HC0_5.out); rintro e w40 ⟨rfl, hb⟩; have n0_ := Aside0.mk (blk_below (bf_ BK101) hb); have n1_ := Aside0.mk (blk_below (bp_ (o := .cells #[.int .i64 ((rd_T43 l0_5 x32_3).f0), .int .i64 ((rd_T43 l0_5 x32_3).f1)] 43 (0, 0)) BK105) hb); have n2_ := Aside0.mk (below_step bs_ hb); clear BK101 BK105 HB; have BK101 := n0_; have BK105 := n1_; have HB := n2_; clear n0_ n1_ n2_; (try clear hb); (try clear hb2); (try clear hk); (try clear hi); obtain ⟨hcz41_0, hcz41_1, hfz41_0, hfz41_1⟩ := blk2 BK105; obtain ⟨hcz42_0, hcz42_1, hcz42_2, hcz42_3, hcz42_4, hcz42_5, hfz42_0, hfz42_1, hfz42_2, hfz42_3, hfz42_4, hfz42_5⟩ := blk6 BK101) | (go_at_call 30; (with_reducible refine (epoch_in.calls ((rd_T43 l0_5 x32_3).f1) x4_3 (wrap64 (a0_0 - 1)) false _ A27.out).mono ?_); rintro e w' ⟨rfl, ⟨nd, rfl⟩⟩; (try first | exact ⟨rfl, _, World.drewN_drewN _ _ _⟩ | exact ⟨rfl, _, Eq.trans (World.drewN_drewN _ _ _) (congrArg (World.drewN _) (Nat.add_assoc _ _ _))⟩))); try go_wp2_with (first | ((with_reducible refine gate_dst (N := 6) rfl ?_); (try (refine gate_guard (by rfl) ?_; dsimp only)); refine box_event ?hg (N := 6) ?hd (cs := #[.int .i64 0, .int .i64 0]) (t := 43) ?hr ?_; (case hd => rfl); (case hg => rfl); (case hr => first | (go_simp; done) | (go_simp; rfl)); intro gb105 hg w36 hbox hb; have n0_ := Aside0.mk (blk_below (bk_ BK101) hb); have n1_ := Aside0.mk (below_step bs_ hb); have n2_ := Aside0.mk (hbox); have n3_ := Aside0.mk ((by rw [hg]; exact (below_size bs_) : w.heap.size ≤ gb105)); have n4_ := Aside0.mk ((by rw [hg]; exact (below_size bs_) : w.heap.size ≤ gb105)); have n5_ := Aside0.mk ((by rw [hg]; exact Nat.ne_of_lt (blk_lt (bk_ BK101)) : gb101 ≠ gb105)); have n6_ := Aside0.mk ((by rw [hg]; exact Nat.ne_of_gt (blk_lt (bk_ BK101)) : gb105 ≠ gb101)); clear BK101 HB; have BK101 := n0_; have HB := n1_; have BK105 := n2_; have GW105 := n3_; have GE105 := n4_; have NB101_105 := n5_; have NB105_101 := n6_; clear n0_ n1_ n2_ n3_ n4_ n5_ n6_; clear hb hbox hg; have hnb37 := NB105_101.out; have hnc37 := NB101_105.out; obtain ⟨hcz38_0, hcz38_1, hfz38_0, hfz38_1⟩ := blk2 BK105; obtain ⟨hcz39_0, hcz39_1, hcz39_2, hcz39_3, hcz39_4, hcz39_5, hfz39_0, hfz39_1, hfz39_2, hfz39_3, hfz39_4, hfz39_5⟩ := blk6 BK101) | (go_at_call 26; (with_reducible refine (epoch_find.calls a0_0 a0_1 a0_2 a0_3 a0_4 _ _ l0_5 ((rd_T43 l0_5 x32_3).f0) t106 _ ?side1 ?side2 A25.out).mono ?_); (case side1 => exact Kd.C_below HR0_5.out bs_); (case side2 => exact HC0_5.out); rintro e w40 ⟨rfl, hb⟩; have n0_ := Aside0.mk (blk_below (bf_ BK101) hb); have n1_ := Aside0.mk (blk_below (bp_ (o := .cells #[.int .i64 ((rd_T43 l0_5 x32_3).f0), .int .i64 ((rd_T43 l0_5 x32_3).f1)] 43 (0, 0)) BK105) hb); have n2_ := Aside0.mk (below_step bs_ hb); clear BK101 BK105 HB; have BK101 := n0_; have BK105 := n1_; have HB := n2_; clear n0_ n1_ n2_; (try clear hb); (try clear hb2); (try clear hk); (try clear hi); obtain ⟨hcz41_0, hcz41_1, hfz41_0, hfz41_1⟩ := blk2 BK105; obtain ⟨hcz42_0, hcz42_1, hcz42_2, hcz42_3, hcz42_4, hcz42_5, hfz42_0, hfz42_1, hfz42_2, hfz42_3, hfz42_4, hfz42_5⟩ := blk6 BK101) | (go_at_call 30; (with_reducible refine (epoch_in.calls ((rd_T43 l0_5 x32_3).f1) x4_3 (wrap64 (a0_0 - 1)) false _ A27.out).mono ?_); rintro e w' ⟨rfl, ⟨nd, rfl⟩⟩; (try first | exact ⟨rfl, _, World.drewN_drewN _ _ _⟩ | exact ⟨rfl, _, Eq.trans (World.drewN_drewN _ _ _) (congrArg (World.drewN _) (Nat.add_assoc _ _ _))⟩))))
               go_ret
               exact ⟨by first | rfl | (simp [errW_none, errW_some] <;> rfl) | (simp [*, errW_none, errW_some] <;> rfl), by repeat (first | (with_reducible first | exact HB.out | apply below_alloc | apply pw_below_drewN | apply below_drew1 | refine below_set ?_ GE101.out | refine below_set ?_ GE105.out) | exact HB.out)⟩
             ·rw [if_neg c26] at H
              have c26b0 : (t106 == x32_3) = false := beq_eq_false_iff_ne.mpr c26
              have c26b1 : (t106 != x32_3) = true := bne_iff_ne.mpr c26
              obtain rfl := Option.some.inj H
              have p104 : 0 ≤ (x32_3 : Int) := of_decide_eq_true (by first | (with_reducible assumption) | assumption)
              have q104 : x32_3 < (l0_5.length : Int) := of_decide_eq_true (by first | (with_reducible assumption) | assumption)
              obtain ⟨ad104, e104, hx104_0, hx104_1⟩ := at_T43 HR0_5.out x32_3 p104 q104
              cases e104
              replace hx104_0 := (HB.out.cell (World.block_lt_of_cell? w _ hx104_0)).trans hx104_0
              replace hx104_1 := (HB.out.cell (World.block_lt_of_cell? w _ hx104_1)).trans hx104_1
              replace p104 := eq_true p104
              replace q104 := eq_true q104
              go_wp2_with (first | ((with_reducible refine gate_dst (N := 6) rfl ?_); (try (refine gate_guard (by rfl) ?_; dsimp only)); refine box_event ?hg (N := 6) ?hd (cs := #[.int .i64 0, .int .i64 0]) (t := 43) ?hr ?_; (case hd => rfl); (case hg => rfl); (case hr => first | (go_simp; done) | (go_simp; rfl)); intro gb105 hg w43 hbox hb; have n0_ := Aside0.mk (blk_below (bk_ BK101) hb); have n1_ := Aside0.mk (below_step bs_ hb); have n2_ := Aside0.mk (hbox); have n3_ := Aside0.mk ((by rw [hg]; exact (below_size bs_) : w.heap.size ≤ gb105)); have n4_ := Aside0.mk ((by rw [hg]; exact (below_size bs_) : w.heap.size ≤ gb105)); have n5_ := Aside0.mk ((by rw [hg]; exact Nat.ne_of_lt (blk_lt (bk_ BK101)) : gb101 ≠ gb105)); have n6_ := Aside0.mk ((by rw [hg]; exact Nat.ne_of_gt (blk_lt (bk_ BK101)) : gb105 ≠ gb101)); clear BK101 HB; have BK101 := n0_; have HB := n1_; have BK105 := n2_; have GW105 := n3_; have GE105 := n4_; have NB101_105 := n5_; have NB105_101 := n6_; clear n0_ n1_ n2_ n3_ n4_ n5_ n6_; clear hb hbox hg; have hnb44 := NB105_101.out; have hnc44 := NB101_105.out; obtain ⟨hcz45_0, hcz45_1, hfz45_0, hfz45_1⟩ := blk2 BK105; obtain ⟨hcz46_0, hcz46_1, hcz46_2, hcz46_3, hcz46_4, hcz46_5, hfz46_0, hfz46_1, hfz46_2, hfz46_3, hfz46_4, hfz46_5⟩ := blk6 BK101) | (go_at_call 26; (with_reducible refine (epoch_find.calls a0_0 a0_1 a0_2 a0_3 a0_4 _ _ l0_5 ((rd_T43 l0_5 x32_3).f0) t106 _ ?side1 ?side2 A25.out).mono ?_); (case side1 => exact Kd.C_below HR0_5.out bs_); (case side2 => exact HC0_5.out); rintro e w47 ⟨rfl, hb⟩; have n0_ := Aside0.mk (blk_below (bf_ BK101) hb); have n1_ := Aside0.mk (blk_below (bp_ (o := .cells #[.int .i64 ((rd_T43 l0_5 x32_3).f0), .int .i64 ((rd_T43 l0_5 x32_3).f1)] 43 (0, 0)) BK105) hb); have n2_ := Aside0.mk (below_step bs_ hb); clear BK101 BK105 HB; have BK101 := n0_; have BK105 := n1_; have HB := n2_; clear n0_ n1_ n2_; (try clear hb); (try clear hb2); (try clear hk); (try clear hi)))
              repeat (go_quiet (first | ((with_reducible refine gate_dst (N := 6) rfl ?_); (try (refine gate_guard (by rfl) ?_; dsimp only)); refine box_event ?hg (N := 6) ?hd (cs := #[.int .i64 0, .int .i64 0]) (t := 43) ?hr ?_; (case hd => rfl); (case hg => rfl); (case hr => first | (go_simp; done) | (go_simp; rfl)); intro gb105 hg w43 hbox hb; have n0_ := Aside0.mk (blk_below (bk_ BK101) hb); have n1_ := Aside0.mk (below_step bs_ hb); have n2_ := Aside0.mk (hbox); have n3_ := Aside0.mk ((by rw [hg]; exact (below_size bs_) : w.heap.size ≤ gb105)); have n4_ := Aside0.mk ((by rw [hg]; exact (below_size bs_) : w.heap.size ≤ gb105)); have n5_ := Aside0.mk ((by rw [hg]; exact Nat.ne_of_lt (blk_lt (bk_ BK101)) : gb101 ≠ gb105)); have n6_ := Aside0.mk ((by rw [hg]; exact Nat.ne_of_gt (blk_lt (bk_ BK101)) : gb105 ≠ gb101)); clear BK101 HB; have BK101 := n0_; have HB := n1_; have BK105 := n2_; have GW105 := n3_; have GE105 := n4_; have NB101_105 := n5_; have NB105_101 := n6_; clear n0_ n1_ n2_ n3_ n4_ n5_ n6_; clear hb hbox hg; have hnb44 := NB105_101.out; have hnc44 := NB101_105.out; obtain ⟨hcz45_0, hcz45_1, hfz45_0, hfz45_1⟩ := blk2 BK105; obtain ⟨hcz46_0, hcz46_1, hcz46_2, hcz46_3, hcz46_4, hcz46_5, hfz46_0, hfz46_1, hfz46_2, hfz46_3, hfz46_4, hfz46_5⟩ := blk6 BK101) | (go_at_call 26; (with_reducible refine (epoch_find.calls a0_0 a0_1 a0_2 a0_3 a0_4 _ _ l0_5 ((rd_T43 l0_5 x32_3).f0) t106 _ ?side1 ?side2 A25.out).mono ?_); (case side1 => exact Kd.C_below HR0_5.out bs_); (case side2 => exact HC0_5.out); rintro e w47 ⟨rfl, hb⟩; have n0_ := Aside0.mk (blk_below (bf_ BK101) hb); have n1_ := Aside0.mk (blk_below (bp_ (o := .cells #[.int .i64 ((rd_T43 l0_5 x32_3).f0), .int .i64 ((rd_T43 l0_5 x32_3).f1)] 43 (0, 0)) BK105) hb); have n2_ := Aside0.mk (below_step bs_ hb); clear BK101 BK105 HB; have BK101 := n0_; have BK105 := n1_; have HB := n2_; clear n0_ n1_ n2_; (try clear hb); (try clear hb2); (try clear hk); (try clear hi))); try go_wp2_with (first | ((with_reducible refine gate_dst (N := 6) rfl ?_); (try (refine gate_guard (by rfl) ?_; dsimp only)); refine box_event ?hg (N := 6) ?hd (cs := #[.int .i64 0, .int .i64 0]) (t := 43) ?hr ?_; (case hd => rfl); (case hg => rfl); (case hr => first | (go_simp; done) | (go_simp; rfl)); intro gb105 hg w43 hbox hb; have n0_ := Aside0.mk (blk_below (bk_ BK101) hb); have n1_ := Aside0.mk (below_step bs_ hb); have n2_ := Aside0.mk (hbox); have n3_ := Aside0.mk ((by rw [hg]; exact (below_size bs_) : w.heap.size ≤ gb105)); have n4_ := Aside0.mk ((by rw [hg]; exact (below_size bs_) : w.heap.size ≤ gb105)); have n5_ := Aside0.mk ((by rw [hg]; exact Nat.ne_of_lt (blk_lt (bk_ BK101)) : gb101 ≠ gb105)); have n6_ := Aside0.mk ((by rw [hg]; exact Nat.ne_of_gt (blk_lt (bk_ BK101)) : gb105 ≠ gb101)); clear BK101 HB; have BK101 := n0_; have HB := n1_; have BK105 := n2_; have GW105 := n3_; have GE105 := n4_; have NB101_105 := n5_; have NB105_101 := n6_; clear n0_ n1_ n2_ n3_ n4_ n5_ n6_; clear hb hbox hg; have hnb44 := NB105_101.out; have hnc44 := NB101_105.out; obtain ⟨hcz45_0, hcz45_1, hfz45_0, hfz45_1⟩ := blk2 BK105; obtain ⟨hcz46_0, hcz46_1, hcz46_2, hcz46_3, hcz46_4, hcz46_5, hfz46_0, hfz46_1, hfz46_2, hfz46_3, hfz46_4, hfz46_5⟩ := blk6 BK101) | (go_at_call 26; (with_reducible refine (epoch_find.calls a0_0 a0_1 a0_2 a0_3 a0_4 _ _ l0_5 ((rd_T43 l0_5 x32_3).f0) t106 _ ?side1 ?side2 A25.out).mono ?_); (case side1 => exact Kd.C_below HR0_5.out bs_); (case side2 => exact HC0_5.out); rintro e w47 ⟨rfl, hb⟩; have n0_ := Aside0.mk (blk_below (bf_ BK101) hb); have n1_ := Aside0.mk (blk_below (bp_ (o := .cells #[.int .i64 ((rd_T43 l0_5 x32_3).f0), .int .i64 ((rd_T43 l0_5 x32_3).f1)] 43 (0, 0)) BK105) hb); have n2_ := Aside0.mk (below_step bs_ hb); clear BK101 BK105 HB; have BK101 := n0_; have BK105 := n1_; have HB := n2_; clear n0_ n1_ n2_; (try clear hb); (try clear hb2); (try clear hk); (try clear hi))))
              go_ret
              exact ⟨by first | rfl | (simp [errW_none, errW_some] <;> rfl) | (simp [*, errW_none, errW_some] <;> rfl), by repeat (first | (with_reducible first | exact HB.out | apply below_alloc | apply pw_below_drewN | apply below_drew1 | refine below_set ?_ GE101.out | refine below_set ?_ GE105.out) | exact HB.out)⟩
           ·rw [if_neg c20] at H
            exact absurd H (by simp)
          ·rw [if_neg c19] at H
           exact absurd H (by simp)
         ·rw [if_neg c18] at H
          have c18b0 : decide (x32_3 < (l0_5.length : Int)) = false := decide_eq_false c18
          clear c18
          obtain rfl := Option.some.inj H
          go_wp2
          repeat (go_quiet (fail); try go_wp2)
          go_ret
          exact ⟨by first | rfl | (simp [errW_none, errW_some] <;> rfl) | (simp [*, errW_none, errW_some] <;> rfl), by repeat (first | (with_reducible first | exact HB.out | apply below_alloc | apply pw_below_drewN | apply below_drew1 | refine below_set ?_ GE101.out) | exact HB.out)⟩

end Go.Proofs.Ytipnfcicpnmggaa.P
