-- Written by a program of this session over the kit's print of the translation. Lean checks it.
import Derived.Test.YtlboachgeepadaaPx0
import Derived.Test.YtlboachgeepadaaPx3
import Derived.Test.YtlboachgeepadaaPx4
import Derived.Test.YtlboachgeepadaaPx5
-- shorter
namespace Go.Proofs.Ytlboachgeepadaa.P
open Go.RowKit Go.Proofs.YtlboachgeepadaaW.PrintWords Go.Proofs.YtlboachgeepadaaW.PrintLast Go.Proofs.YtlboachgeepadaaW.PrintMore
attribute [local go_sem] max2_int min2_int max_two min_two max_three min_three max_four min_four   -- for this text's walks alone
set_option linter.unusedVariables false
set_option linter.unusedSimpArgs false

/-! ### drydocklaw19_awake: function 7 -/
def drydocklaw19_awake.f (k : Nat)  : Option (Bool) := (delta_Note.f k ([] : List Int) false 5).bind fun bt122 => ((delta_Note.f k bt122.1 bt122.2 6).bind fun bt126 => ((delta_Note.f k bt126.1 bt126.2 5).bind fun bt130 => ((delta_Of.f 2 (([2, 9] : List Int))).bind fun bt138 => (if (bt130.1.length : Int) = 2 then (if 0 < (bt130.1.length : Int) then (if (rd bt130.1 0) = 5 then (if 1 < (bt130.1.length : Int) then (if (rd bt130.1 1) = 6 then ((delta_May.f k bt130.1 bt130.2).bind fun t143 => (if t143 = true then (if bt138.1 = 2 then (if bt138.2.1 = 9 then (some bt138.2.2) else (none)) else (none)) else (none))) else (none)) else (none)) else (none)) else (none)) else (none)))))
theorem drydocklaw19_awake.mono : ∀ k, LeO (drydocklaw19_awake.f k ) (drydocklaw19_awake.f (k + 1) ) := by
 intro  k
 unfold drydocklaw19_awake.f
 repeat' first
  | (with_reducible exact delta_May.mono _ _ _)
  | (with_reducible exact delta_Note.mono _ _ _ _)
  | (with_reducible exact LeO.refl _)
  | (with_reducible exact LeO.none _)
  | (with_reducible refine LeO.ite ?_ ?_)
  | (with_reducible refine LeO.bind ?_ (fun _ => ?_))
  | exact delta_May.mono _ _ _
  | exact delta_Note.mono _ _ _ _
  | exact LeO.none _
  | refine LeO.ite ?_ ?_
  | refine LeO.bind ?_ (fun _ => ?_)
set_option maxHeartbeats 8000000 in
set_option maxRecDepth 100000 in
theorem drydocklaw19_awake.calls (k : Nat)  (r : Bool) (w : World) (h : drydocklaw19_awake.f k  = some r) :
    Calls Try.prog 7 #[] w fun e w' => e = .returned (.bool r) ∧ Below w.heap.size w w' := by
 have hu25 := Try.underlying25
 have HB := Aside0.mk (Below.refl w.heap.size w)
 have H : ((delta_Note.f k ([] : List Int) false 5).bind fun bt122 => ((delta_Note.f k bt122.1 bt122.2 6).bind fun bt126 => ((delta_Note.f k bt126.1 bt126.2 5).bind fun bt130 => ((delta_Of.f 2 (([2, 9] : List Int))).bind fun bt138 => (if (bt130.1.length : Int) = 2 then (if 0 < (bt130.1.length : Int) then (if (rd bt130.1 0) = 5 then (if 1 < (bt130.1.length : Int) then (if (rd bt130.1 1) = 6 then ((delta_May.f k bt130.1 bt130.2).bind fun t143 => (if t143 = true then (if bt138.1 = 2 then (if bt138.2.1 = 9 then (some bt138.2.2) else (none)) else (none)) else (none))) else (none)) else (none)) else (none)) else (none)) else (none)))))) = some r := h
 clear h
 replace H := Option.bind_eq_some_iff.mp H
 obtain ⟨⟨t122, t125⟩, A10, H⟩ := H
 replace H : ((delta_Note.f k t122 t125 6).bind fun bt126 => ((delta_Note.f k bt126.1 bt126.2 5).bind fun bt130 => ((delta_Of.f 2 (([2, 9] : List Int))).bind fun bt138 => (if (bt130.1.length : Int) = 2 then (if 0 < (bt130.1.length : Int) then (if (rd bt130.1 0) = 5 then (if 1 < (bt130.1.length : Int) then (if (rd bt130.1 1) = 6 then ((delta_May.f k bt130.1 bt130.2).bind fun t143 => (if t143 = true then (if bt138.1 = 2 then (if bt138.2.1 = 9 then (some bt138.2.2) else (none)) else (none)) else (none))) else (none)) else (none)) else (none)) else (none)) else (none))))) = some r := H
 have A1 := Aside0.mk A10
 clear A10
 replace H := Option.bind_eq_some_iff.mp H
 obtain ⟨⟨t126, t129⟩, A20, H⟩ := H
 replace H : ((delta_Note.f k t126 t129 5).bind fun bt130 => ((delta_Of.f 2 (([2, 9] : List Int))).bind fun bt138 => (if (bt130.1.length : Int) = 2 then (if 0 < (bt130.1.length : Int) then (if (rd bt130.1 0) = 5 then (if 1 < (bt130.1.length : Int) then (if (rd bt130.1 1) = 6 then ((delta_May.f k bt130.1 bt130.2).bind fun t143 => (if t143 = true then (if bt138.1 = 2 then (if bt138.2.1 = 9 then (some bt138.2.2) else (none)) else (none)) else (none))) else (none)) else (none)) else (none)) else (none)) else (none)))) = some r := H
 have A2 := Aside0.mk A20
 clear A20
 replace H := Option.bind_eq_some_iff.mp H
 obtain ⟨⟨t130, t133⟩, A30, H⟩ := H
 replace H : ((delta_Of.f 2 (([2, 9] : List Int))).bind fun bt138 => (if (t130.length : Int) = 2 then (if 0 < (t130.length : Int) then (if (rd t130 0) = 5 then (if 1 < (t130.length : Int) then (if (rd t130 1) = 6 then ((delta_May.f k t130 t133).bind fun t143 => (if t143 = true then (if bt138.1 = 2 then (if bt138.2.1 = 9 then (some bt138.2.2) else (none)) else (none)) else (none))) else (none)) else (none)) else (none)) else (none)) else (none))) = some r := H
 have A3 := Aside0.mk A30
 clear A30
 obtain ⟨y135, hy135⟩ : ∃ y_ : List Int, y_ = (([2, 9] : List Int)) := ⟨_, rfl⟩
 replace H : ((delta_Of.f 2 y135).bind fun bt138 => (if (t130.length : Int) = 2 then (if 0 < (t130.length : Int) then (if (rd t130 0) = 5 then (if 1 < (t130.length : Int) then (if (rd t130 1) = 6 then ((delta_May.f k t130 t133).bind fun t143 => (if t143 = true then (if bt138.1 = 2 then (if bt138.2.1 = 9 then (some bt138.2.2) else (none)) else (none)) else (none))) else (none)) else (none)) else (none)) else (none)) else (none))) = some r := by first | (rw [hy135]; with_reducible exact H) | (have H2_ := (Option.bind_some _ _).symm.trans H; rw [hy135]; with_reducible exact H2_) | (have H2_ := (Option.bind_some _ _).symm.trans H; with_reducible exact H2_) | with_reducible exact H | (rw [hy135]; exact H) | exact H
 have Ny135 := Aside0.mk hy135
 clear hy135
 replace H := Option.bind_eq_some_iff.mp H
 obtain ⟨⟨t138, t139, t140⟩, A40, H⟩ := H
 replace H : (if (t130.length : Int) = 2 then (if 0 < (t130.length : Int) then (if (rd t130 0) = 5 then (if 1 < (t130.length : Int) then (if (rd t130 1) = 6 then ((delta_May.f k t130 t133).bind fun t143 => (if t143 = true then (if t138 = 2 then (if t139 = 9 then (some t140) else (none)) else (none)) else (none))) else (none)) else (none)) else (none)) else (none)) else (none)) = some r := H
 have A4 := Aside0.mk A40
 clear A40
 by_cases c5 : (t130.length : Int) = 2
 ·rw [if_pos c5] at H
  have c5b0 : ((t130.length : Int) == 2) = true := beq_iff_eq.mpr c5
  have c5b1 : ((t130.length : Int) != 2) = false := bne_eq_false_iff_eq.mpr c5
  clear c5
  by_cases c6 : 0 < (t130.length : Int)
  ·rw [if_pos c6] at H
   have c6b0 : decide (0 < (t130.length : Int)) = true := decide_eq_true c6
   have c6b1 : decide (0 < t130.length) = true := decide_eq_true (by omega)
   clear c6
   by_cases c7 : (rd t130 0) = 5
   ·rw [if_pos c7] at H
    have c7b0 : ((rd t130 0) == 5) = true := beq_iff_eq.mpr c7
    have c7b1 : ((rd t130 0) != 5) = false := bne_eq_false_iff_eq.mpr c7
    clear c7
    by_cases c8 : 1 < (t130.length : Int)
    ·rw [if_pos c8] at H
     have c8b0 : decide (1 < (t130.length : Int)) = true := decide_eq_true c8
     have c8b1 : decide (1 < t130.length) = true := decide_eq_true (by omega)
     clear c8
     by_cases c9 : (rd t130 1) = 6
     ·rw [if_pos c9] at H
      have c9b0 : ((rd t130 1) == 6) = true := beq_iff_eq.mpr c9
      have c9b1 : ((rd t130 1) != 6) = false := bne_eq_false_iff_eq.mpr c9
      clear c9
      replace H := Option.bind_eq_some_iff.mp H
      obtain ⟨t143, A100, H⟩ := H
      replace H : (if t143 = true then (if t138 = 2 then (if t139 = 9 then (some t140) else (none)) else (none)) else (none)) = some r := H
      have A10 := Aside0.mk A100
      clear A100
      by_cases c11 : t143 = true
      ·subst c11
       have H1 : (if t138 = 2 then (if t139 = 9 then (some t140) else (none)) else (none)) = some r := by rw [if_pos rfl] at H; exact H
       clear H
       have H := H1
       clear H1
       by_cases c12 : t138 = 2
       ·rw [if_pos c12] at H
        have c12b0 : (t138 == 2) = true := beq_iff_eq.mpr c12
        have c12b1 : (t138 != 2) = false := bne_eq_false_iff_eq.mpr c12
        clear c12
        by_cases c13 : t139 = 9
        ·rw [if_pos c13] at H
         have c13b0 : (t139 == 9) = true := beq_iff_eq.mpr c13
         have c13b1 : (t139 != 9) = false := bne_eq_false_iff_eq.mpr c13
         clear c13
         obtain rfl := Option.some.inj H
         go_enter Try.func7, Try.ntmps7
         go_wp2_with (first | ((with_reducible refine gate_callee (f := 8) rfl ?_); refine goesL_ (some 6) rfl rfl Try.func8 (by kernel_rfl) rfl #[.agg #[.slice none 0 0, .bool false], .int .u32 5] rfl (by (try simp only [List.map_toArray, List.map_cons, List.map_nil]); first | done | rfl | (simp only [List.length_drop, List.length_take]; rfl)) ?_; (refine (delta_Note.calls k _ _ ([] : List Int) false 5 t122 t125 _ ?side1 ?side2 A1.out).mono ?_); (case side1 => exact Kd.C_nil _ _); (case side2 => exact Nat.le_refl _); rintro e w14 ⟨v123, rfl, ho0, hb⟩; refine ⟨_, rfl, ?_⟩; have n0_ := Aside0.mk (Kd.R_lower ho0 (below_size bs_)); have n1_ := Aside0.mk (below_step bs_ hb); clear HB; have HO124 := n0_; have HB := n1_; clear n0_ n1_; (try clear hb); (try clear hb2); (try clear hk); (try clear hi); (try clear ho0); obtain ⟨Ao15, co15, eo15⟩ := Kd.R_slice HO124.out; subst eo15) | ((with_reducible refine gate_callee (f := 8) rfl ?_); refine goesL_ (some 7) rfl rfl Try.func8 (by kernel_rfl) rfl #[.agg #[.slice Ao15 t122.length co15, .bool t125], .int .u32 6] rfl (by (try simp only [List.map_toArray, List.map_cons, List.map_nil]); first | done | rfl | (simp only [List.length_drop, List.length_take]; rfl)) ?_; (with_reducible refine (delta_Note.calls k _ _ t122 t125 6 t126 t129 _ ?side1 ?side2 A2.out).mono ?_); (case side1 => repeat (first | exact (Kd.R_reads' HO124.out).2.2 | (with_reducible refine Kd.C_alloc ?_ _) | (with_reducible refine Kd.C_drewN ?_ _) | (with_reducible refine Kd.C_drew ?_))); (case side2 => exact (Kd.R_reads' HO124.out).2.1); rintro e w16 ⟨v127, rfl, ho0, hb⟩; refine ⟨_, rfl, ?_⟩; have n0_ := Aside0.mk (Kd.R_elder' (rk_ HO124) (Kd.R_base ho0) hb); have n1_ := Aside0.mk (Kd.R_lower (Kd.R_new' ho0 (Kd.R_lt (rk_ HO124))) (below_size bs_)); have n2_ := Aside0.mk (below_step bs_ hb); clear HO124 HB; have HO124 := n0_; have HO128 := n1_; have HB := n2_; clear n0_ n1_ n2_; (try clear hb); (try clear hb2); (try clear hk); (try clear hi); (try clear ho0); obtain ⟨Ao17, co17, eo17⟩ := Kd.R_slice HO128.out; subst eo17) | ((with_reducible refine gate_callee (f := 8) rfl ?_); refine goesL_ (some 8) rfl rfl Try.func8 (by kernel_rfl) rfl #[.agg #[.slice Ao17 t126.length co17, .bool t129], .int .u32 5] rfl (by (try simp only [List.map_toArray, List.map_cons, List.map_nil]); first | done | rfl | (simp only [List.length_drop, List.length_take]; rfl)) ?_; (with_reducible refine (delta_Note.calls k _ _ t126 t129 5 t130 t133 _ ?side1 ?side2 A3.out).mono ?_); (case side1 => repeat (first | exact (Kd.R_reads' HO128.out).2.2 | (with_reducible refine Kd.C_alloc ?_ _) | (with_reducible refine Kd.C_drewN ?_ _) | (with_reducible refine Kd.C_drew ?_))); (case side2 => exact (Kd.R_reads' HO128.out).2.1); rintro e w18 ⟨v131, rfl, ho0, hb⟩; refine ⟨_, rfl, ?_⟩; have n0_ := Aside0.mk (Kd.R_elder' (rk_ HO124) (Kd.R_base ho0) hb); have n1_ := Aside0.mk (Kd.R_elder' (rk_ HO128) (Kd.R_base ho0) hb); have n2_ := Aside0.mk (Kd.R_lower (Kd.R_new' (Kd.R_new' ho0 (Kd.R_lt (rk_ HO124))) (Kd.R_lt (rk_ HO128))) (below_size bs_)); have n3_ := Aside0.mk (below_step bs_ hb); clear HO124 HO128 HB; have HO124 := n0_; have HO128 := n1_; have HO132 := n2_; have HB := n3_; clear n0_ n1_ n2_ n3_; (try clear hb); (try clear hb2); (try clear hk); (try clear hi); (try clear ho0); obtain ⟨Ao19, co19, eo19⟩ := Kd.R_slice HO132.out; subst eo19) | ((with_reducible refine gate_dst (N := 1) rfl ?_); refine box_event ?hg (N := 1) ?hd (cs := #[.slice none 0 0, .bool false]) (t := 25) ?hr ?_; (case hd => rfl); (case hg => rfl); (case hr => first | (go_simp; done) | (go_simp; rfl)); intro gb134 hg w20 hbox hb; have n0_ := Aside0.mk (Kd.R_below (rk_ HO124) hb); have n1_ := Aside0.mk (Kd.R_below (rk_ HO128) hb); have n2_ := Aside0.mk (Kd.R_below (rk_ HO132) hb); have n3_ := Aside0.mk (below_step bs_ hb); have n4_ := Aside0.mk (hbox); have n5_ := Aside0.mk ((by rw [hg]; exact (below_size bs_) : w.heap.size ≤ gb134)); have n6_ := Aside0.mk ((by rw [hg]; exact (below_size bs_) : w.heap.size ≤ gb134)); clear HO124 HO128 HO132 HB; have HO124 := n0_; have HO128 := n1_; have HO132 := n2_; have HB := n3_; have BK134 := n4_; have GW134 := n5_; have GE134 := n6_; clear n0_ n1_ n2_ n3_ n4_ n5_ n6_; clear hb hbox hg; obtain ⟨hcz21_0, hcz21_1, hfz21_0, hfz21_1⟩ := blk2 BK134) | ((with_reducible refine gate_dst (N := 10) rfl ?_); refine Kd.R_lit (Kd.int .u32) _ 27 ?hg (N := 10) ?hd (xs := ([2, 9] : List Int)) (inner := [.int .u32 2, .int .u32 9]) (ok := fun _ => True) (okp := fun _ => True) ?hr ?hp (fun _ hk => hk) trivial (Below.refl _ _) (Nat.le_refl _) (by simp) ?_; (case hd => rfl); (case hg => rfl); (case hr => first | (go_simp; done) | (go_simp; rfl)); (case hp => exact (Reps.one (show Kd.M (Kd.int .u32) _ _ _ 2 [.int .u32 2] from rfl) (Reps.one (show Kd.M (Kd.int .u32) _ _ _ 9 [.int .u32 9] from rfl) (Reps.none _ _)))); intro v136 w22 ho23 hb hg_ hnew_; clear hg_ hnew_; (first | rw [← Ny135.out] at ho23 | (simp only [Int.reduceToNat] at ho23; rw [← Ny135.out] at ho23)); have n0_ := Aside0.mk (Kd.R_elder' (by (with_reducible repeat (first | apply Kd.R_alloc | apply Kd.R_drewN | apply Kd.R_drew)); exact (Kd.R_mono (far2 gb134 (Kd.R_types HO124.out BK134.out (by decide)) (fun _ hk => hk.2)) (fun _ h_ => h_.1))) (Kd.R_base ho23) hb); have n1_ := Aside0.mk (Kd.R_elder' (by (with_reducible repeat (first | apply Kd.R_alloc | apply Kd.R_drewN | apply Kd.R_drew)); exact (Kd.R_mono (far2 gb134 (Kd.R_types HO128.out BK134.out (by decide)) (fun _ hk => hk.2)) (fun _ h_ => h_.1))) (Kd.R_base ho23) hb); have n2_ := Aside0.mk (Kd.R_elder' (by (with_reducible repeat (first | apply Kd.R_alloc | apply Kd.R_drewN | apply Kd.R_drew)); exact (Kd.R_mono (far2 gb134 (Kd.R_types HO132.out BK134.out (by decide)) (fun _ hk => hk.2)) (fun _ h_ => h_.1))) (Kd.R_base ho23) hb); have n3_ := Aside0.mk (Kd.R_lower (Kd.R_new' (Kd.R_new' (Kd.R_new' ho23 (Kd.R_lt (by (with_reducible repeat (first | apply Kd.R_alloc | apply Kd.R_drewN | apply Kd.R_drew)); exact (Kd.R_mono (far2 gb134 (Kd.R_types HO124.out BK134.out (by decide)) (fun _ hk => hk.2)) (fun _ h_ => h_.1))))) (Kd.R_lt (by (with_reducible repeat (first | apply Kd.R_alloc | apply Kd.R_drewN | apply Kd.R_drew)); exact (Kd.R_mono (far2 gb134 (Kd.R_types HO128.out BK134.out (by decide)) (fun _ hk => hk.2)) (fun _ h_ => h_.1))))) (Kd.R_lt (by (with_reducible repeat (first | apply Kd.R_alloc | apply Kd.R_drewN | apply Kd.R_drew)); exact (Kd.R_mono (far2 gb134 (Kd.R_types HO132.out BK134.out (by decide)) (fun _ hk => hk.2)) (fun _ h_ => h_.1))))) (below_size bs_)); have n4_ := Aside0.mk (blk_below (bp_ (o := .cells #[.slice Ao19 t130.length co19, .bool t133] 25 (0, 0)) BK134) hb); have n5_ := Aside0.mk (below_step bs_ hb); clear HO124 HO128 HO132 BK134 HB; have HO124 := n0_; have HO128 := n1_; have HO132 := n2_; have HO137 := n3_; have BK134 := n4_; have HB := n5_; clear n0_ n1_ n2_ n3_ n4_ n5_; clear hb ho23; obtain ⟨Ao24, co24, eo24⟩ := Kd.R_slice HO137.out; subst eo24) | ((with_reducible refine gate_callee (f := 16) rfl ?_); refine goesL_ (some 11) rfl rfl Try.func16 (by kernel_rfl) rfl #[.int .i64 2, .slice Ao24 y135.length co24] rfl (by (try simp only [List.map_toArray, List.map_cons, List.map_nil]); first | done | rfl | (simp only [List.length_drop, List.length_take]; rfl)) ?_; (with_reducible refine (delta_Of.calls 2 _ _ y135 t138 t139 t140 _ ?side1 ?side2 A4.out).mono ?_); (case side1 => repeat (first | exact (Kd.R_reads' HO137.out).2.2 | (with_reducible refine Kd.C_alloc ?_ _) | (with_reducible refine Kd.C_drewN ?_ _) | (with_reducible refine Kd.C_drew ?_))); (case side2 => exact (Kd.R_reads' HO137.out).2.1); rintro e w' ⟨rfl, ⟨nd, rfl⟩⟩; refine ⟨_, rfl, ?_⟩; obtain ⟨hcz25_0, hcz25_1, hfz25_0, hfz25_1⟩ := blk2 BK134; have p141 : 0 ≤ (0 : Int) := (by omega); have q141 : 0 < (t130.length : Int) := of_decide_eq_true (by first | (with_reducible assumption) | assumption); obtain ⟨ad141, e141, hx141_0⟩ := Kd.at_int (Kd.R_reads' HO132.out).2.2 0 p141 q141; cases e141; have qi141 : (0 < t130.length) = True := eq_true (by omega); (try rw [show ((0 : Int)).toNat = 0 from rfl] at hx141_0); (try rw [Addr.add_zero'] at hx141_0); replace p141 := eq_true p141; replace q141 := eq_true q141; have p142 : 0 ≤ (1 : Int) := (by omega); have q142 : 1 < (t130.length : Int) := of_decide_eq_true (by first | (with_reducible assumption) | assumption); obtain ⟨ad142, e142, hx142_0⟩ := Kd.at_int (Kd.R_reads' HO132.out).2.2 1 p142 q142; obtain rfl : ad141 = ad142 := (by injection e142); (try simp only [show (1 : Int).toNat = 1 from rfl, Nat.reduceMul, Nat.reduceEqDiff, Go.Addr.add, ↓reduceIte] at hx142_0); have qi142 : (1 < t130.length) = True := eq_true (by omega); (try rw [show ((1 : Int)).toNat = 1 from rfl] at hx142_0); replace p142 := eq_true p142; replace q142 := eq_true q142) | (go_at_call 10; (with_reducible refine (delta_May.calls k _ _ t130 t133 true _ ?side1 ?side2 A10.out).mono ?_); (case side1 => repeat (first | exact (Kd.R_reads' HO132.out).2.2 | (with_reducible refine Kd.C_alloc ?_ _) | (with_reducible refine Kd.C_drewN ?_ _) | (with_reducible refine Kd.C_drew ?_))); (case side2 => exact (Kd.R_reads' HO132.out).2.1); rintro e w26 ⟨rfl, hb⟩; have n0_ := Aside0.mk (Kd.R_below (rk_ HO124) hb); have n1_ := Aside0.mk (Kd.R_below (rk_ HO128) hb); have n2_ := Aside0.mk (Kd.R_below (rk_ HO132) hb); have n3_ := Aside0.mk (Kd.R_below (rk_ HO137) hb); have n4_ := Aside0.mk (blk_below (bk_ BK134) hb); have n5_ := Aside0.mk (below_step bs_ hb); clear HO124 HO128 HO132 HO137 BK134 HB; have HO124 := n0_; have HO128 := n1_; have HO132 := n2_; have HO137 := n3_; have BK134 := n4_; have HB := n5_; clear n0_ n1_ n2_ n3_ n4_ n5_; (try clear hb); (try clear hb2); (try clear hk); (try clear hi)))
         go_ret
         exact ⟨by first | rfl | (simp [errW_none, errW_some] <;> rfl) | (simp [*, errW_none, errW_some] <;> rfl), by repeat (first | (with_reducible first | exact HB.out | apply below_alloc | apply pw_below_drewN | apply below_drew1 | refine below_set ?_ GE134.out) | exact HB.out)⟩
        ·rw [if_neg c13] at H
         exact absurd H (by simp)
       ·rw [if_neg c12] at H
        exact absurd H (by simp)
      ·replace c11 := Bool.eq_false_iff.mpr c11
       subst c11
       have H1 : (none) = some r := by rw [if_neg (show ¬ (false = true) by decide)] at H; exact H
       clear H
       have H := H1
       clear H1
       exact absurd H (by simp)
     ·rw [if_neg c9] at H
      exact absurd H (by simp)
    ·rw [if_neg c8] at H
     exact absurd H (by simp)
   ·rw [if_neg c7] at H
    exact absurd H (by simp)
  ·rw [if_neg c6] at H
   exact absurd H (by simp)
 ·rw [if_neg c5] at H
  exact absurd H (by simp)

/-! ### drydockref19_Has: function 9 -/
def drydockref19_Has.l0 : Nat → List Int → Int → Int → Option (Bool)
  | 0, _, _, _ => none
  | k + 1, x0, x1, x5 => if x5 < (x0.length : Int) then (if 0 ≤ x5 then (if (rd x0 x5) = x1 then (some true) else (drydockref19_Has.l0 k x0 x1 (wrap64 (x5 + 1)))) else (none)) else (some false)
def drydockref19_Has.f (k : Nat) (l0 : List Int) (a1 : Int) : Option (Bool) := drydockref19_Has.l0 k l0 a1 0
theorem drydockref19_Has.mono_l : ∀ k, (∀ y0 y1 y2, LeO (drydockref19_Has.l0 k y0 y1 y2) (drydockref19_Has.l0 (k + 1) y0 y1 y2))
  | 0 => fun _ _ _ r h => by simp [drydockref19_Has.l0] at h
  | k + 1 => by
    have ih0 := drydockref19_Has.mono_l k
    · intro y0 y1 y2
      unfold drydockref19_Has.l0
      repeat' first
      | (with_reducible exact ih0 _ _ _)
      | (with_reducible exact LeO.refl _)
      | (with_reducible exact LeO.none _)
      | (with_reducible refine LeO.ite ?_ ?_)
      | (with_reducible refine LeO.bind ?_ (fun _ => ?_))
      | exact ih0 _ _ _
      | exact LeO.none _
      | refine LeO.ite ?_ ?_
      | refine LeO.bind ?_ (fun _ => ?_)
theorem drydockref19_Has.mono : ∀ a0 a1 k, LeO (drydockref19_Has.f k a0 a1) (drydockref19_Has.f (k + 1) a0 a1) := by
 intro a0 a1 k
 have ih0 := drydockref19_Has.mono_l k
 unfold drydockref19_Has.f
 repeat' first
  | (with_reducible exact ih0 _ _ _)
  | (with_reducible exact LeO.refl _)
  | (with_reducible exact LeO.none _)
  | (with_reducible refine LeO.ite ?_ ?_)
  | (with_reducible refine LeO.bind ?_ (fun _ => ?_))
  | exact ih0 _ _ _
  | exact LeO.none _
  | refine LeO.ite ?_ ?_
  | refine LeO.bind ?_ (fun _ => ?_)
set_option maxHeartbeats 8000000 in
set_option maxRecDepth 100000 in
theorem drydockref19_Has.calls (k : Nat) (A0 : Option Addr) (c0 : Nat) (l0 : List Int) (a1 : Int) (r : Bool) (w : World) (hr0 : Kd.C (Kd.int .u32) w A0 l0.length l0) (hc0 : l0.length ≤ c0) (h : drydockref19_Has.f k l0 a1 = some r) :
    Calls Try.prog 9 #[.slice A0 l0.length c0, .int .u32 a1] w fun e w' => e = .returned (.bool r) ∧ Drawn0 w w' := by
 have HR0 := Aside0.mk hr0
 have HC0 := Aside0.mk hc0
 clear hr0 hc0
 have H : (drydockref19_Has.l0 k l0 a1 0) = some r := h
 clear h
 have H' := Aside0.mk H
 clear H
 go_enter Try.func9, Try.ntmps9
 go_wp2
 go_loopg [5] k (fun kq v5 w' => ∃ (x5_1 : Int), v5 = .int .i64 x5_1 ∧ Aside0 (drydockref19_Has.l0 kq l0 a1 x5_1 = some r) ∧ Aside0 (kq ≤ k) ∧ Drawn0 w w')
 case atStart => exact ⟨(0), eq_, H', ⟨Nat.le_refl _⟩, by repeat (first | exact Drawn0.refl _ | apply Drawn0.step)⟩
 case round =>
  clear H'
  obtain ⟨x5_1, rfl, HA, HK1, ⟨m1, rfl⟩⟩ := hrel
  cases gk with
  | zero => exact absurd HA.out (by simp [drydockref19_Has.l0])
  | succ k1 =>
   have H := HA.out
   clear HA
   simp only [drydockref19_Has.l0] at H
   by_cases c3 : x5_1 < (l0.length : Int)
   ·rw [if_pos c3] at H
    have c3b0 : decide (x5_1 < (l0.length : Int)) = true := decide_eq_true c3
    clear c3
    by_cases c4 : 0 ≤ x5_1
    ·rw [if_pos c4] at H
     have c4b0 : decide (0 ≤ x5_1) = true := decide_eq_true c4
     clear c4
     by_cases c5 : (rd l0 x5_1) = a1
     ·rw [if_pos c5] at H
      have c5b0 : ((rd l0 x5_1) == a1) = true := beq_iff_eq.mpr c5
      have c5b1 : ((rd l0 x5_1) != a1) = false := bne_eq_false_iff_eq.mpr c5
      clear c5
      obtain rfl := Option.some.inj H
      have p144 : 0 ≤ (x5_1 : Int) := of_decide_eq_true (by first | (with_reducible assumption) | assumption)
      have q144 : x5_1 < (l0.length : Int) := of_decide_eq_true (by first | (with_reducible assumption) | assumption)
      obtain ⟨ad144, e144, hx144_0⟩ := Kd.at_int HR0.out x5_1 p144 q144
      cases e144
      replace p144 := eq_true p144
      replace q144 := eq_true q144
      go_wp2
      go_ret
      exact ⟨by first | rfl | (simp; done) | (simp [*]; done) | (simp [*]; unfold wrap64; omega), by repeat (first | exact Drawn0.refl _ | apply Drawn0.step)⟩
     ·rw [if_neg c5] at H
      have c5b0 : ((rd l0 x5_1) == a1) = false := beq_eq_false_iff_ne.mpr c5
      have c5b1 : ((rd l0 x5_1) != a1) = true := bne_iff_ne.mpr c5
      have H' := Aside0.mk H
      clear H
      have p144 : 0 ≤ (x5_1 : Int) := of_decide_eq_true (by first | (with_reducible assumption) | assumption)
      have q144 : x5_1 < (l0.length : Int) := of_decide_eq_true (by first | (with_reducible assumption) | assumption)
      obtain ⟨ad144, e144, hx144_0⟩ := Kd.at_int HR0.out x5_1 p144 q144
      cases e144
      replace p144 := eq_true p144
      replace q144 := eq_true q144
      go_wp2
      go_roundg k1
      case measure => have := HK1.out; omega
      case rel => exact ⟨(wrap64 (x5_1 + 1)), eq_, H', ⟨by have := HK1.out; omega⟩, by repeat (first | exact Drawn0.refl _ | apply Drawn0.step)⟩
    ·rw [if_neg c4] at H
     exact absurd H (by simp)
   ·rw [if_neg c3] at H
    have c3b0 : decide (x5_1 < (l0.length : Int)) = false := decide_eq_false c3
    clear c3
    obtain rfl := Option.some.inj H
    go_wp2
    go_ret
    exact ⟨by first | rfl | (simp; done) | (simp [*]; done) | (simp [*]; unfold wrap64; omega), by repeat (first | exact Drawn0.refl _ | apply Drawn0.step)⟩

end Go.Proofs.Ytlboachgeepadaa.P
