-- Written by a program of this session over the kit's print of the translation. Lean checks it.
import Derived.Test.YtoehingbhmaidaaPx0
import Derived.Test.YtoehingbhmaidaaPx9
import Derived.Test.YtoehingbhmaidaaPx10
-- shorter
namespace Go.Proofs.Ytoehingbhmaidaa.P
open Go.RowKit Go.Proofs.YtoehingbhmaidaaW.PrintWords Go.Proofs.YtoehingbhmaidaaW.PrintLast Go.Proofs.YtoehingbhmaidaaW.PrintMore
attribute [local go_sem] max2_int min2_int max_two min_two max_three min_three max_four min_four   -- for this text's walks alone
set_option linter.unusedVariables false
set_option linter.unusedSimpArgs false

/-! ### drydockref16_why: function 26 -/
def drydockref16_why.j0 : Nat → Int → Bool → Int → List (S26) → Option (Int)
  | 0, _, _, _, _ => none
  | k + 1, x2, x16, x163000, x163001 => if x16 = true then (some 1) else (if x2 = x163000 then (if x2 ≥ 1073741824 then (some 2) else (some 0)) else (some 5))
def drydockref16_why.f (k : Nat) (a0_0 : Int) (l0_1 : List (S26)) (a1_0 : Int) (a1_1 : Int) (a2 : Int) : Option (Int) := (drydockref16_May.f k a0_0 l0_1).bind fun t164 => (if t164 = true then ((drydockref16_One.f a1_0 a1_1).bind fun t165 => (drydockref16_why.j0 k a2 (!t165) a0_0 l0_1)) else (drydockref16_why.j0 k a2 true a0_0 l0_1))
theorem drydockref16_why.mono_l : ∀ k, (∀ y0 y1 y2 y3, LeO (drydockref16_why.j0 k y0 y1 y2 y3) (drydockref16_why.j0 (k + 1) y0 y1 y2 y3))
  | 0 => fun _ _ _ _ r h => by simp [drydockref16_why.j0] at h
  | k + 1 => by
    have ih0 := drydockref16_why.mono_l k
    · intro y0 y1 y2 y3
      unfold drydockref16_why.j0
      repeat' first
      | (with_reducible exact ih0 _ _ _ _)
      | (with_reducible exact drydockref16_May.mono _ _ _)
      | (with_reducible exact LeO.refl _)
      | (with_reducible exact LeO.none _)
      | (with_reducible refine LeO.ite ?_ ?_)
      | (with_reducible refine LeO.bind ?_ (fun _ => ?_))
      | exact ih0 _ _ _ _
      | exact drydockref16_May.mono _ _ _
      | exact LeO.none _
      | refine LeO.ite ?_ ?_
      | refine LeO.bind ?_ (fun _ => ?_)
theorem drydockref16_why.mono : ∀ a0 a1 a2 a3 a4 k, LeO (drydockref16_why.f k a0 a1 a2 a3 a4) (drydockref16_why.f (k + 1) a0 a1 a2 a3 a4) := by
 intro a0 a1 a2 a3 a4 k
 have ih0 := drydockref16_why.mono_l k
 unfold drydockref16_why.f
 repeat' first
  | (with_reducible exact ih0 _ _ _ _)
  | (with_reducible exact drydockref16_May.mono _ _ _)
  | (with_reducible exact LeO.refl _)
  | (with_reducible exact LeO.none _)
  | (with_reducible refine LeO.ite ?_ ?_)
  | (with_reducible refine LeO.bind ?_ (fun _ => ?_))
  | exact ih0 _ _ _ _
  | exact drydockref16_May.mono _ _ _
  | exact LeO.none _
  | refine LeO.ite ?_ ?_
  | refine LeO.bind ?_ (fun _ => ?_)
set_option maxHeartbeats 8000000 in
set_option maxRecDepth 100000 in
theorem drydockref16_why.calls (k : Nat) (a0_0 : Int) (A0_1 : Option Addr) (c0_1 : Nat) (l0_1 : List (S26)) (a1_0 : Int) (a1_1 : Int) (a2 : Int) (r : Int) (w : World) (hr0_1 : Kd.C k26 w A0_1 l0_1.length l0_1) (hc0_1 : l0_1.length ≤ c0_1) (h : drydockref16_why.f k a0_0 l0_1 a1_0 a1_1 a2 = some r) :
    Calls Try.prog 26 #[.agg #[.int .i64 a0_0, .slice A0_1 l0_1.length c0_1], .agg #[.int .i64 a1_0, .int .i64 a1_1], .int .i64 a2] w fun e w' => e = .returned (.int .i64 r) ∧ Below w.heap.size w w' := by
 have hu24 := Try.underlying24
 have hu26 := Try.underlying26
 have HR0_1 := Aside0.mk hr0_1
 have HC0_1 := Aside0.mk hc0_1
 clear hr0_1 hc0_1
 have HB := Aside0.mk (Below.refl w.heap.size w)
 have H : ((drydockref16_May.f k a0_0 l0_1).bind fun t164 => (if t164 = true then ((drydockref16_One.f a1_0 a1_1).bind fun t165 => (drydockref16_why.j0 k a2 (!t165) a0_0 l0_1)) else (drydockref16_why.j0 k a2 true a0_0 l0_1))) = some r := h
 clear h
 replace H := Option.bind_eq_some_iff.mp H
 obtain ⟨t164, A40, H⟩ := H
 replace H : (if t164 = true then ((drydockref16_One.f a1_0 a1_1).bind fun t165 => (drydockref16_why.j0 k a2 (!t165) a0_0 l0_1)) else (drydockref16_why.j0 k a2 true a0_0 l0_1)) = some r := H
 have A4 := Aside0.mk A40
 clear A40
 have HC5 := Aside0.mk H
 clear H
 go_enter Try.func26, Try.ntmps26
 go_upto_region 2 with (first | ((with_reducible refine gate_dst (N := 3) rfl ?_); refine box_event ?hg (N := 3) ?hd (cs := #[.int .i64 a0_0, .slice A0_1 l0_1.length c0_1]) (t := 24) ?hr ?_; (case hd => rfl); (case hg => rfl); (case hr => first | (go_simp; done) | (go_simp; rfl)); intro gb162 hg w6 hbox hb; have n0_ := Aside0.mk (below_step bs_ hb); have n1_ := Aside0.mk (hbox); have n2_ := Aside0.mk ((by rw [hg]; exact (below_size bs_) : w.heap.size ≤ gb162)); have n3_ := Aside0.mk ((by rw [hg]; exact (below_size bs_) : w.heap.size ≤ gb162)); clear HB; have HB := n0_; have BK162 := n1_; have GW162 := n2_; have GE162 := n3_; clear n0_ n1_ n2_ n3_; clear hb hbox hg) | ((with_reducible refine gate_dst (N := 4) rfl ?_); refine box_event ?hg (N := 4) ?hd (cs := #[.int .i64 a1_0, .int .i64 a1_1]) (t := 26) ?hr ?_; (case hd => rfl); (case hg => rfl); (case hr => first | (go_simp; done) | (go_simp; rfl)); intro gb163 hg w7 hbox hb; have n0_ := Aside0.mk (blk_below (bk_ BK162) hb); have n1_ := Aside0.mk (below_step bs_ hb); have n2_ := Aside0.mk (hbox); have n3_ := Aside0.mk ((by rw [hg]; exact (below_size bs_) : w.heap.size ≤ gb163)); have n4_ := Aside0.mk ((by rw [hg]; exact (below_size bs_) : w.heap.size ≤ gb163)); have n5_ := Aside0.mk ((by rw [hg]; exact Nat.ne_of_lt (blk_lt (bk_ BK162)) : gb162 ≠ gb163)); have n6_ := Aside0.mk ((by rw [hg]; exact Nat.ne_of_gt (blk_lt (bk_ BK162)) : gb163 ≠ gb162)); clear BK162 HB; have BK162 := n0_; have HB := n1_; have BK163 := n2_; have GW163 := n3_; have GE163 := n4_; have NB162_163 := n5_; have NB163_162 := n6_; clear n0_ n1_ n2_ n3_ n4_ n5_ n6_; clear hb hbox hg; have hnb8 := NB162_163.out; have hnc8 := NB163_162.out; obtain ⟨hcz9_0, hcz9_1, hfz9_0, hfz9_1⟩ := blk2 BK162) | ((with_reducible refine gate_callee (f := 22) rfl ?_); refine goesL_ (some 9) rfl rfl Try.func22 (by kernel_rfl) rfl #[.agg #[.int .i64 a0_0, .slice A0_1 l0_1.length c0_1]] rfl (by (try simp only [List.map_toArray, List.map_cons, List.map_nil]); first | done | rfl | (simp only [List.length_drop, List.length_take]; rfl)) ?_; (with_reducible refine (drydockref16_May.calls k a0_0 _ _ l0_1 t164 _ ?side1 ?side2 A4.out).mono ?_); (case side1 => repeat (first | exact (Kd.C_below HR0_1.out HB.out) | (with_reducible refine Kd.C_alloc ?_ _) | (with_reducible refine Kd.C_drewN ?_ _) | (with_reducible refine Kd.C_drew ?_))); (case side2 => exact HC0_1.out); rintro e w10 ⟨rfl, hb⟩; refine ⟨_, rfl, ?_⟩; have n0_ := Aside0.mk (blk_below (bk_ BK162) hb); have n1_ := Aside0.mk (blk_below (bk_ BK163) hb); have n2_ := Aside0.mk (below_step bs_ hb); clear BK162 BK163 HB; have BK162 := n0_; have BK163 := n1_; have HB := n2_; clear n0_ n1_ n2_; (try clear hb); (try clear hb2); (try clear hk); (try clear hi)))
 (try simp only [Act.put, List.setIfInBounds_toArray, List.set_cons_zero, List.set_cons_succ])
 go_cut [16] (fun v16 wc => ∃ (kq : Nat) (x16_4 : Bool), v16 = .bool x16_4 ∧ Aside0 (drydockref16_why.j0 kq a2 x16_4 a0_0 l0_1 = some r) ∧ Aside0 (kq ≤ k) ∧ Aside0 (wc.heap[gb162]? = some (.cells #[.int .i64 a0_0, (.slice A0_1 l0_1.length c0_1)] 24 (0, 0))) ∧ Aside0 (wc.heap[gb163]? = some (.cells #[.int .i64 a1_0, .int .i64 a1_1] 26 (0, 0))) ∧ Aside0 (Below w.heap.size w wc))
 case first =>
  have H := HC5.out
  clear HC5
  by_cases c11 : t164 = true
  ·subst c11
   have H1 : ((drydockref16_One.f a1_0 a1_1).bind fun t165 => (drydockref16_why.j0 k a2 (!t165) a0_0 l0_1)) = some r := by rw [if_pos rfl] at H; exact H
   clear H
   have H := H1
   clear H1
   replace H := Option.bind_eq_some_iff.mp H
   obtain ⟨t165, A120, H⟩ := H
   replace H : (drydockref16_why.j0 k a2 (!t165) a0_0 l0_1) = some r := H
   have A12 := Aside0.mk A120
   clear A120
   have H' := Aside0.mk H
   clear H
   have hnb13 := NB163_162.out
   have hnc13 := NB162_163.out
   obtain ⟨hcz14_0, hcz14_1, hfz14_0, hfz14_1⟩ := blk2 BK163
   go_wp2_with (first | (go_at_call 31; (with_reducible refine (drydockref16_One.calls a1_0 a1_1 t165 _ A12.out).mono ?_); rintro e w15 ⟨rfl, hb⟩; have n0_ := Aside0.mk (blk_below (bk_ BK162) hb); have n1_ := Aside0.mk (blk_below (bk_ BK163) hb); have n2_ := Aside0.mk (below_step bs_ hb); clear BK162 BK163 HB; have BK162 := n0_; have BK163 := n1_; have HB := n2_; clear n0_ n1_ n2_; (try clear hb); (try clear hb2); (try clear hk); (try clear hi)))
   go_meet
   case rel => exact ⟨_, (!t165), (by first | rfl | (simp; done) | (simp [*]; done)), H', ⟨by first | omega | exact Nat.le_refl _⟩, ⟨bk_ BK162⟩, ⟨bk_ BK163⟩, ⟨bs_⟩⟩
  ·replace c11 := Bool.eq_false_iff.mpr c11
   subst c11
   have H1 : (drydockref16_why.j0 k a2 true a0_0 l0_1) = some r := by rw [if_neg (show ¬ (false = true) by decide)] at H; exact H
   clear H
   have H := H1
   clear H1
   have H' := Aside0.mk H
   clear H
   go_wp2
   go_meet
   case rel => exact ⟨_, (true), (by first | rfl | (simp; done) | (simp [*]; done)), H', ⟨by first | omega | exact Nat.le_refl _⟩, ⟨bk_ BK162⟩, ⟨bk_ BK163⟩, ⟨bs_⟩⟩
 case rest =>
  clear HC5
  try clear hcz9_0
  try clear hcz9_1
  try clear hfz9_0
  try clear hfz9_1
  obtain ⟨kq, x16_4, rfl, HA, HJ4, BK162, BK163, HB⟩ := hcut
  cases kq with
  | zero => exact absurd HA.out (by simp [drydockref16_why.j0])
  | succ kj4 =>
   have H := HA.out
   clear HA
   simp only [drydockref16_why.j0] at H
   by_cases c16 : x16_4 = true
   ·subst c16
    have H1 : (some 1) = some r := by rw [if_pos rfl] at H; exact H
    clear H
    have H := H1
    clear H1
    obtain rfl := Option.some.inj H
    go_wp2
    go_ret
    exact ⟨by first | rfl | (simp [errW_none, errW_some] <;> rfl) | (simp [*, errW_none, errW_some] <;> rfl), by repeat (first | (with_reducible first | exact HB.out | apply below_alloc | apply pw_below_drewN | apply below_drew1 | refine below_set ?_ GE162.out | refine below_set ?_ GE163.out) | exact HB.out)⟩
   ·replace c16 := Bool.eq_false_iff.mpr c16
    subst c16
    have H1 : (if a2 = a0_0 then (if a2 ≥ 1073741824 then (some 2) else (some 0)) else (some 5)) = some r := by rw [if_neg (show ¬ (false = true) by decide)] at H; exact H
    clear H
    have H := H1
    clear H1
    by_cases c17 : a2 = a0_0
    ·rw [if_pos c17] at H
     have c17b0 : (a2 == a0_0) = true := beq_iff_eq.mpr c17
     have c17b1 : (a2 != a0_0) = false := bne_eq_false_iff_eq.mpr c17
     clear c17
     by_cases c18 : a2 ≥ 1073741824
     ·rw [if_pos c18] at H
      have c18b0 : decide (1073741824 ≤ a2) = true := decide_eq_true c18
      clear c18
      obtain rfl := Option.some.inj H
      have hnb19 := NB162_163.out
      have hnc19 := NB163_162.out
      obtain ⟨hcz20_0, hcz20_1, hfz20_0, hfz20_1⟩ := blk2 BK162
      go_wp2
      go_ret
      exact ⟨by first | rfl | (simp [errW_none, errW_some] <;> rfl) | (simp [*, errW_none, errW_some] <;> rfl), by repeat (first | (with_reducible first | exact HB.out | apply below_alloc | apply pw_below_drewN | apply below_drew1 | refine below_set ?_ GE162.out | refine below_set ?_ GE163.out) | exact HB.out)⟩
     ·rw [if_neg c18] at H
      have c18b0 : decide (1073741824 ≤ a2) = false := decide_eq_false c18
      clear c18
      obtain rfl := Option.some.inj H
      have hnb21 := NB162_163.out
      have hnc21 := NB163_162.out
      obtain ⟨hcz22_0, hcz22_1, hfz22_0, hfz22_1⟩ := blk2 BK162
      go_wp2
      go_ret
      exact ⟨by first | rfl | (simp [errW_none, errW_some] <;> rfl) | (simp [*, errW_none, errW_some] <;> rfl), by repeat (first | (with_reducible first | exact HB.out | apply below_alloc | apply pw_below_drewN | apply below_drew1 | refine below_set ?_ GE162.out | refine below_set ?_ GE163.out) | exact HB.out)⟩
    ·rw [if_neg c17] at H
     have c17b0 : (a2 == a0_0) = false := beq_eq_false_iff_ne.mpr c17
     have c17b1 : (a2 != a0_0) = true := bne_iff_ne.mpr c17
     obtain rfl := Option.some.inj H
     have hnb23 := NB162_163.out
     have hnc23 := NB163_162.out
     obtain ⟨hcz24_0, hcz24_1, hfz24_0, hfz24_1⟩ := blk2 BK162
     go_wp2
     go_ret
     exact ⟨by first | rfl | (simp [errW_none, errW_some] <;> rfl) | (simp [*, errW_none, errW_some] <;> rfl), by repeat (first | (with_reducible first | exact HB.out | apply below_alloc | apply pw_below_drewN | apply below_drew1 | refine below_set ?_ GE162.out | refine below_set ?_ GE163.out) | exact HB.out)⟩

end Go.Proofs.Ytoehingbhmaidaa.P
