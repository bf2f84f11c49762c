-- Written by a program of this session over the kit's print of the translation. Lean checks it.
import Derived.Test.YtlboachgeepadaaPx0
import Derived.Test.YtlboachgeepadaaPx6
-- shorter
namespace Go.Proofs.Ytlboachgeepadaa.P
open Go.RowKit Go.Proofs.YtlboachgeepadaaW.PrintWords Go.Proofs.YtlboachgeepadaaW.PrintLast Go.Proofs.YtlboachgeepadaaW.PrintMore
attribute [local go_sem] max2_int min2_int max_two min_two max_three min_three max_four min_four   -- for this text's walks alone
set_option linter.unusedVariables false
set_option linter.unusedSimpArgs false

theorem has_n_ (k : Nat) (A : Option Addr) (c n : Nat) (l : List Int) (a1 : Int) (r : Bool) (w : World) (hn : l.length = n) (hr : Kd.C (Kd.int .u32) w A n l) (hc : n ≤ c) (h : drydockref19_Has.f k l a1 = some r) :
    Calls Try.prog 9 #[.slice A n c, .int .u32 a1] w fun e w' => e = .returned (.bool r) ∧ Drawn0 w w' := by
  subst hn; exact drydockref19_Has.calls k A c l a1 r w hr hc h
/-! ### drydockref19_May: function 21 -/
def drydockref19_May.l0 : Nat → Int → List Int → Bool → Option (Bool)
  | 0, _, _, _ => none
  | k + 1, x3, x248000, x248001 => if x3 < (x248000.length : Int) then (if 0 ≤ x3 then (if x3 ≤ (x248000.length : Int) then ((drydockref19_Has.f k (x248000.take (x3 : Int).toNat) (rd x248000 x3)).bind fun t250 => (if t250 = true then (some false) else (drydockref19_May.l0 k (wrap64 (x3 + 1)) x248000 x248001))) else (none)) else (none)) else (if (x248000.length : Int) < 8 then (if x248001 = true then (some ((x248000.length : Int) == 8)) else (some true)) else (some ((x248000.length : Int) == 8)))
def drydockref19_May.f (k : Nat) (l0_0 : List Int) (a0_1 : Bool) : Option (Bool) := drydockref19_May.l0 k 0 l0_0 a0_1
theorem drydockref19_May.mono_l : ∀ k, (∀ y0 y1 y2, LeO (drydockref19_May.l0 k y0 y1 y2) (drydockref19_May.l0 (k + 1) y0 y1 y2))
  | 0 => fun _ _ _ r h => by simp [drydockref19_May.l0] at h
  | k + 1 => by
    have ih0 := drydockref19_May.mono_l k
    · intro y0 y1 y2
      unfold drydockref19_May.l0
      repeat' first
      | (with_reducible exact ih0 _ _ _)
      | (with_reducible exact drydockref19_Has.mono _ _ _)
      | (with_reducible exact LeO.refl _)
      | (with_reducible exact LeO.none _)
      | (with_reducible refine LeO.ite ?_ ?_)
      | (with_reducible refine LeO.bind ?_ (fun _ => ?_))
      | exact ih0 _ _ _
      | exact drydockref19_Has.mono _ _ _
      | exact LeO.none _
      | refine LeO.ite ?_ ?_
      | refine LeO.bind ?_ (fun _ => ?_)
theorem drydockref19_May.mono : ∀ a0 a1 k, LeO (drydockref19_May.f k a0 a1) (drydockref19_May.f (k + 1) a0 a1) := by
 intro a0 a1 k
 have ih0 := drydockref19_May.mono_l k
 unfold drydockref19_May.f
 repeat' first
  | (with_reducible exact ih0 _ _ _)
  | (with_reducible exact drydockref19_Has.mono _ _ _)
  | (with_reducible exact LeO.refl _)
  | (with_reducible exact LeO.none _)
  | (with_reducible refine LeO.ite ?_ ?_)
  | (with_reducible refine LeO.bind ?_ (fun _ => ?_))
  | exact ih0 _ _ _
  | exact drydockref19_Has.mono _ _ _
  | exact LeO.none _
  | refine LeO.ite ?_ ?_
  | refine LeO.bind ?_ (fun _ => ?_)
set_option maxHeartbeats 8000000 in
set_option maxRecDepth 100000 in
theorem drydockref19_May.calls (k : Nat) (A0_0 : Option Addr) (c0_0 : Nat) (l0_0 : List Int) (a0_1 : Bool) (r : Bool) (w : World) (hr0_0 : Kd.C (Kd.int .u32) w A0_0 l0_0.length l0_0) (hc0_0 : l0_0.length ≤ c0_0) (h : drydockref19_May.f k l0_0 a0_1 = some r) :
    Calls Try.prog 21 #[.agg #[.slice A0_0 l0_0.length c0_0, .bool a0_1]] w fun e w' => e = .returned (.bool r) ∧ Below w.heap.size w w' := by
 have hu25 := Try.underlying25
 have HR0_0 := Aside0.mk hr0_0
 have HC0_0 := Aside0.mk hc0_0
 clear hr0_0 hc0_0
 have HB := Aside0.mk (Below.refl w.heap.size w)
 have H : (drydockref19_May.l0 k 0 l0_0 a0_1) = some r := h
 clear h
 have H' := Aside0.mk H
 clear H
 go_enter Try.func21, Try.ntmps21
 go_wp2_with (first | ((with_reducible refine gate_dst (N := 1) rfl ?_); (try (refine gate_guard (by rfl) ?_; dsimp only)); refine box_event ?hg (N := 1) ?hd (cs := #[.slice A0_0 l0_0.length c0_0, .bool a0_1]) (t := 25) ?hr ?_; (case hd => rfl); (case hg => rfl); (case hr => first | (go_simp; done) | (go_simp; rfl)); intro gb247 hg w2 hbox hb; have n0_ := Aside0.mk (below_step bs_ hb); have n1_ := Aside0.mk (hbox); have n2_ := Aside0.mk ((by rw [hg]; exact (below_size bs_) : w.heap.size ≤ gb247)); have n3_ := Aside0.mk ((by rw [hg]; exact (below_size bs_) : w.heap.size ≤ gb247)); clear HB; have HB := n0_; have BK247 := n1_; have GW247 := n2_; have GE247 := n3_; clear n0_ n1_ n2_ n3_; clear hb hbox hg))
 repeat (go_quiet (first | ((with_reducible refine gate_dst (N := 1) rfl ?_); (try (refine gate_guard (by rfl) ?_; dsimp only)); refine box_event ?hg (N := 1) ?hd (cs := #[.slice A0_0 l0_0.length c0_0, .bool a0_1]) (t := 25) ?hr ?_; (case hd => rfl); (case hg => rfl); (case hr => first | (go_simp; done) | (go_simp; rfl)); intro gb247 hg w2 hbox hb; have n0_ := Aside0.mk (below_step bs_ hb); have n1_ := Aside0.mk (hbox); have n2_ := Aside0.mk ((by rw [hg]; exact (below_size bs_) : w.heap.size ≤ gb247)); have n3_ := Aside0.mk ((by rw [hg]; exact (below_size bs_) : w.heap.size ≤ gb247)); clear HB; have HB := n0_; have BK247 := n1_; have GW247 := n2_; have GE247 := n3_; clear n0_ n1_ n2_ n3_; clear hb hbox hg)); try go_wp2_with (first | ((with_reducible refine gate_dst (N := 1) rfl ?_); (try (refine gate_guard (by rfl) ?_; dsimp only)); refine box_event ?hg (N := 1) ?hd (cs := #[.slice A0_0 l0_0.length c0_0, .bool a0_1]) (t := 25) ?hr ?_; (case hd => rfl); (case hg => rfl); (case hr => first | (go_simp; done) | (go_simp; rfl)); intro gb247 hg w2 hbox hb; have n0_ := Aside0.mk (below_step bs_ hb); have n1_ := Aside0.mk (hbox); have n2_ := Aside0.mk ((by rw [hg]; exact (below_size bs_) : w.heap.size ≤ gb247)); have n3_ := Aside0.mk ((by rw [hg]; exact (below_size bs_) : w.heap.size ≤ gb247)); clear HB; have HB := n0_; have BK247 := n1_; have GW247 := n2_; have GE247 := n3_; clear n0_ n1_ n2_ n3_; clear hb hbox hg)))
 go_loopg [3] k (fun kq v3 w' => ∃ (x3_1 : Int), v3 = .int .i64 x3_1 ∧ Aside0 (drydockref19_May.l0 kq x3_1 l0_0 a0_1 = some r) ∧ Aside0 (kq ≤ k) ∧ Aside0 (w'.heap[gb247]? = some (.cells #[(.slice A0_0 l0_0.length c0_0), .bool a0_1] 25 (0, 0))) ∧ Aside0 (Below w.heap.size w w'))
 case atStart => exact ⟨(0), eq_, H', ⟨Nat.le_refl _⟩, ⟨bk_ BK247⟩, ⟨bs_⟩⟩
 case round =>
  clear H'
  obtain ⟨x3_1, rfl, HA, HK1, BK247, HB⟩ := hrel
  cases gk with
  | zero => exact absurd HA.out (by simp [drydockref19_May.l0])
  | succ k1 =>
   have H := HA.out
   clear HA
   simp only [drydockref19_May.l0] at H
   by_cases c3 : x3_1 < (l0_0.length : Int)
   ·rw [if_pos c3] at H
    have c3b0 : decide (x3_1 < (l0_0.length : Int)) = true := decide_eq_true c3
    clear c3
    by_cases c4 : 0 ≤ x3_1
    ·rw [if_pos c4] at H
     have c4b0 := eq_true c4
     have c4b1 : decide (0 ≤ x3_1) = true := decide_eq_true c4
     clear c4
     by_cases c5 : x3_1 ≤ (l0_0.length : Int)
     ·rw [if_pos c5] at H
      have c5b0 := eq_true c5
      have c5b1 : decide (x3_1 ≤ (l0_0.length : Int)) = true := decide_eq_true c5
      clear c5
      replace H := Option.bind_eq_some_iff.mp H
      obtain ⟨t250, A60, H⟩ := H
      replace H : (if t250 = true then (some false) else (drydockref19_May.l0 k1 (wrap64 (x3_1 + 1)) l0_0 a0_1)) = some r := H
      have A6 := Aside0.mk A60
      clear A60
      by_cases c7 : t250 = true
      ·subst c7
       have H1 : (some false) = some r := by rw [if_pos rfl] at H; exact H
       clear H
       have H := H1
       clear H1
       obtain rfl := Option.some.inj H
       obtain ⟨hcz8_0, hcz8_1, hfz8_0, hfz8_1⟩ := blk2 BK247
       obtain ⟨i09, hi09, _, hsz9, _⟩ := info_parts info27
       obtain ⟨hcut9, hA9, hC9⟩ := print_take_of (P := Try.prog) (Value.int .u32) 0 22 27 .i64 Try.underlying22 hi09 hsz9 A0_0 c0_0 l0_0 x3_1 (of_decide_eq_true (by first | (with_reducible assumption) | assumption)) (of_decide_eq_true (by first | (with_reducible assumption) | assumption)) HC0_0.out
       have HR248 := Aside0.mk (Kd.C_of_reads (h1 := fun _ => rfl) (hA9 _ (Kd.reads_of_C HR0_0.out)))
       have HC248 := Aside0.mk hC9
       clear hA9 hC9 hi09 hsz9
       have p249 : 0 ≤ (x3_1 : Int) := of_decide_eq_true (by first | (with_reducible assumption) | assumption)
       have q249 : x3_1 < (l0_0.length : Int) := of_decide_eq_true (by first | (with_reducible assumption) | assumption)
       have HLN_ := Aside0.mk (show (l0_0.take (x3_1 : Int).toNat).length = (x3_1 : Int).toNat from (by rw [List.length_take]; omega))
       obtain ⟨ad249, e249, hx249_0⟩ := Kd.at_int HR0_0.out x3_1 p249 q249
       cases e249
       replace hx249_0 := (HB.out.cell (World.block_lt_of_cell? w _ hx249_0)).trans hx249_0
       replace p249 := eq_true p249
       replace q249 := eq_true q249
       go_wp2_with (first | (go_at_call 9; (with_reducible refine (has_n_ k1 _ _ _ (l0_0.take (x3_1 : Int).toNat) (rd l0_0 x3_1) true _ HLN_.out ?side1 ?side2 A6.out).mono ?_); (case side1 => (have h_ := Kd.C_below HR248.out HB.out; rw [HLN_.out] at h_; exact h_)); (case side2 => (have h_ := HC248.out; rw [HLN_.out] at h_; exact h_)); rintro e w' ⟨rfl, ⟨nd, rfl⟩⟩; (try first | exact ⟨rfl, _, World.drewN_drewN _ _ _⟩ | exact ⟨rfl, _, Eq.trans (World.drewN_drewN _ _ _) (congrArg (World.drewN _) (Nat.add_assoc _ _ _))⟩)))
       repeat (go_quiet (first | (go_at_call 9; (with_reducible refine (has_n_ k1 _ _ _ (l0_0.take (x3_1 : Int).toNat) (rd l0_0 x3_1) true _ HLN_.out ?side1 ?side2 A6.out).mono ?_); (case side1 => (have h_ := Kd.C_below HR248.out HB.out; rw [HLN_.out] at h_; exact h_)); (case side2 => (have h_ := HC248.out; rw [HLN_.out] at h_; exact h_)); rintro e w' ⟨rfl, ⟨nd, rfl⟩⟩; (try first | exact ⟨rfl, _, World.drewN_drewN _ _ _⟩ | exact ⟨rfl, _, Eq.trans (World.drewN_drewN _ _ _) (congrArg (World.drewN _) (Nat.add_assoc _ _ _))⟩))); try go_wp2_with (first | (go_at_call 9; (with_reducible refine (has_n_ k1 _ _ _ (l0_0.take (x3_1 : Int).toNat) (rd l0_0 x3_1) true _ HLN_.out ?side1 ?side2 A6.out).mono ?_); (case side1 => (have h_ := Kd.C_below HR248.out HB.out; rw [HLN_.out] at h_; exact h_)); (case side2 => (have h_ := HC248.out; rw [HLN_.out] at h_; exact h_)); rintro e w' ⟨rfl, ⟨nd, rfl⟩⟩; (try first | exact ⟨rfl, _, World.drewN_drewN _ _ _⟩ | exact ⟨rfl, _, Eq.trans (World.drewN_drewN _ _ _) (congrArg (World.drewN _) (Nat.add_assoc _ _ _))⟩))))
       go_ret
       exact ⟨by first | rfl | (simp [errW_none, errW_some] <;> rfl) | (simp [*, errW_none, errW_some] <;> rfl), by repeat (first | (with_reducible first | exact HB.out | apply below_alloc | apply pw_below_drewN | apply below_drew1 | refine below_set ?_ GE247.out) | exact HB.out)⟩
      ·replace c7 := Bool.eq_false_iff.mpr c7
       subst c7
       have H1 : (drydockref19_May.l0 k1 (wrap64 (x3_1 + 1)) l0_0 a0_1) = some r := by rw [if_neg (show ¬ (false = true) by decide)] at H; exact H
       clear H
       have H := H1
       clear H1
       have H' := Aside0.mk H
       clear H
       obtain ⟨hcz10_0, hcz10_1, hfz10_0, hfz10_1⟩ := blk2 BK247
       obtain ⟨i011, hi011, _, hsz11, _⟩ := info_parts info27
       obtain ⟨hcut11, hA11, hC11⟩ := print_take_of (P := Try.prog) (Value.int .u32) 0 22 27 .i64 Try.underlying22 hi011 hsz11 A0_0 c0_0 l0_0 x3_1 (of_decide_eq_true (by first | (with_reducible assumption) | assumption)) (of_decide_eq_true (by first | (with_reducible assumption) | assumption)) HC0_0.out
       have HR248 := Aside0.mk (Kd.C_of_reads (h1 := fun _ => rfl) (hA11 _ (Kd.reads_of_C HR0_0.out)))
       have HC248 := Aside0.mk hC11
       clear hA11 hC11 hi011 hsz11
       have p249 : 0 ≤ (x3_1 : Int) := of_decide_eq_true (by first | (with_reducible assumption) | assumption)
       have q249 : x3_1 < (l0_0.length : Int) := of_decide_eq_true (by first | (with_reducible assumption) | assumption)
       have HLN_ := Aside0.mk (show (l0_0.take (x3_1 : Int).toNat).length = (x3_1 : Int).toNat from (by rw [List.length_take]; omega))
       obtain ⟨ad249, e249, hx249_0⟩ := Kd.at_int HR0_0.out x3_1 p249 q249
       cases e249
       replace hx249_0 := (HB.out.cell (World.block_lt_of_cell? w _ hx249_0)).trans hx249_0
       replace p249 := eq_true p249
       replace q249 := eq_true q249
       go_wp2_with (first | (go_at_call 9; (with_reducible refine (has_n_ k1 _ _ _ (l0_0.take (x3_1 : Int).toNat) (rd l0_0 x3_1) false _ HLN_.out ?side1 ?side2 A6.out).mono ?_); (case side1 => (have h_ := Kd.C_below HR248.out HB.out; rw [HLN_.out] at h_; exact h_)); (case side2 => (have h_ := HC248.out; rw [HLN_.out] at h_; exact h_)); rintro e w' ⟨rfl, ⟨nd, rfl⟩⟩; (try first | exact ⟨rfl, _, World.drewN_drewN _ _ _⟩ | exact ⟨rfl, _, Eq.trans (World.drewN_drewN _ _ _) (congrArg (World.drewN _) (Nat.add_assoc _ _ _))⟩)))
       repeat (go_quiet (first | (go_at_call 9; (with_reducible refine (has_n_ k1 _ _ _ (l0_0.take (x3_1 : Int).toNat) (rd l0_0 x3_1) false _ HLN_.out ?side1 ?side2 A6.out).mono ?_); (case side1 => (have h_ := Kd.C_below HR248.out HB.out; rw [HLN_.out] at h_; exact h_)); (case side2 => (have h_ := HC248.out; rw [HLN_.out] at h_; exact h_)); rintro e w' ⟨rfl, ⟨nd, rfl⟩⟩; (try first | exact ⟨rfl, _, World.drewN_drewN _ _ _⟩ | exact ⟨rfl, _, Eq.trans (World.drewN_drewN _ _ _) (congrArg (World.drewN _) (Nat.add_assoc _ _ _))⟩))); try go_wp2_with (first | (go_at_call 9; (with_reducible refine (has_n_ k1 _ _ _ (l0_0.take (x3_1 : Int).toNat) (rd l0_0 x3_1) false _ HLN_.out ?side1 ?side2 A6.out).mono ?_); (case side1 => (have h_ := Kd.C_below HR248.out HB.out; rw [HLN_.out] at h_; exact h_)); (case side2 => (have h_ := HC248.out; rw [HLN_.out] at h_; exact h_)); rintro e w' ⟨rfl, ⟨nd, rfl⟩⟩; (try first | exact ⟨rfl, _, World.drewN_drewN _ _ _⟩ | exact ⟨rfl, _, Eq.trans (World.drewN_drewN _ _ _) (congrArg (World.drewN _) (Nat.add_assoc _ _ _))⟩))))
       go_roundg k1
       case measure => have := HK1.out; omega
       case rel => exact ⟨(wrap64 (x3_1 + 1)), eq_, H', ⟨by have := HK1.out; omega⟩, ⟨bk_ BK247⟩, ⟨bs_⟩⟩
     ·rw [if_neg c5] at H
      exact absurd H (by simp)
    ·rw [if_neg c4] at H
     exact absurd H (by simp)
   ·rw [if_neg c3] at H
    have c3b0 : decide (x3_1 < (l0_0.length : Int)) = false := decide_eq_false c3
    clear c3
    by_cases c12 : (l0_0.length : Int) < 8
    ·rw [if_pos c12] at H
     have c12b0 : decide ((l0_0.length : Int) < 8) = true := decide_eq_true c12
     have c12b1 : decide (l0_0.length < 8) = true := decide_eq_true (by omega)
     clear c12
     by_cases c13 : a0_1 = true
     ·subst c13
      have H1 : (some ((l0_0.length : Int) == 8)) = some r := by rw [if_pos rfl] at H; exact H
      clear H
      have H := H1
      clear H1
      obtain rfl := Option.some.inj H
      obtain ⟨hcz14_0, hcz14_1, hfz14_0, hfz14_1⟩ := blk2 BK247
      go_wp2
      repeat (go_quiet (fail); try go_wp2)
      go_ret
      exact ⟨by first | rfl | (simp [errW_none, errW_some] <;> rfl) | (simp [*, errW_none, errW_some] <;> rfl), by repeat (first | (with_reducible first | exact HB.out | apply below_alloc | apply pw_below_drewN | apply below_drew1 | refine below_set ?_ GE247.out) | exact HB.out)⟩
     ·replace c13 := Bool.eq_false_iff.mpr c13
      subst c13
      have H1 : (some true) = some r := by rw [if_neg (show ¬ (false = true) by decide)] at H; exact H
      clear H
      have H := H1
      clear H1
      obtain rfl := Option.some.inj H
      obtain ⟨hcz15_0, hcz15_1, hfz15_0, hfz15_1⟩ := blk2 BK247
      go_wp2
      repeat (go_quiet (fail); try go_wp2)
      go_ret
      exact ⟨by first | rfl | (simp [errW_none, errW_some] <;> rfl) | (simp [*, errW_none, errW_some] <;> rfl), by repeat (first | (with_reducible first | exact HB.out | apply below_alloc | apply pw_below_drewN | apply below_drew1 | refine below_set ?_ GE247.out) | exact HB.out)⟩
    ·rw [if_neg c12] at H
     have c12b0 : decide ((l0_0.length : Int) < 8) = false := decide_eq_false c12
     have c12b1 : decide (l0_0.length < 8) = false := decide_eq_false (by omega)
     clear c12
     obtain rfl := Option.some.inj H
     obtain ⟨hcz16_0, hcz16_1, hfz16_0, hfz16_1⟩ := blk2 BK247
     go_wp2
     repeat (go_quiet (fail); try go_wp2)
     go_ret
     exact ⟨by first | rfl | (simp [errW_none, errW_some] <;> rfl) | (simp [*, errW_none, errW_some] <;> rfl), by repeat (first | (with_reducible first | exact HB.out | apply below_alloc | apply pw_below_drewN | apply below_drew1 | refine below_set ?_ GE247.out) | exact HB.out)⟩

end Go.Proofs.Ytlboachgeepadaa.P
