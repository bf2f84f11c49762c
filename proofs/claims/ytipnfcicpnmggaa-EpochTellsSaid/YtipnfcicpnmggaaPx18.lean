-- Written by a program of this session over the kit's print of the translation. Lean checks it.
import Derived.Test.YtipnfcicpnmggaaPx0
import Derived.Test.YtipnfcicpnmggaaPx13
import Derived.Test.YtipnfcicpnmggaaSel
-- shorter
namespace Go.Proofs.Ytipnfcicpnmggaa.P
open Go.RowKit Go.Proofs.YtipnfcicpnmggaaW.PrintWords Go.Proofs.YtipnfcicpnmggaaW.PrintLast Go.Proofs.YtipnfcicpnmggaaW.PrintMore
attribute [local go_sem] max2_int min2_int max_two min_two max_three min_three max_four min_four   -- for this text's walks alone
set_option linter.unusedVariables false
set_option linter.unusedSimpArgs false

/-! ### drydockref17_Ready: function 22 -/
mutual
def drydockref17_Ready.l0 : Nat → List Int → Bool → Int → Int → Int → Int → Int → Int → List (S43) → Option (List Int)
  | 0, _, _, _, _, _, _, _, _, _ => none
  | k + 1, x3, x4, x5, x300000, x300001, x300002, x300003, x300004, x300005 => if x5 < (x300005.length : Int) then (drydockref17_Ready.j1 k x3 x4 x5 x4 x300000 x300001 x300002 x300003 x300004 x300005) else (drydockref17_Ready.j1 k x3 x4 x5 false x300000 x300001 x300002 x300003 x300004 x300005)
def drydockref17_Ready.j1 : Nat → List Int → Bool → Int → Bool → Int → Int → Int → Int → Int → List (S43) → Option (List Int)
  | 0, _, _, _, _, _, _, _, _, _, _ => none
  | k + 1, x3, x4, x5, x17, x300000, x300001, x300002, x300003, x300004, x300005 => if x17 = true then (drydockref17_Ready.l1 k x3 x4 x5 true 0 x300000 x300001 x300002 x300003 x300004 x300005) else (some x3)
def drydockref17_Ready.l1 : Nat → List Int → Bool → Int → Bool → Int → Int → Int → Int → Int → Int → List (S43) → Option (List Int)
  | 0, _, _, _, _, _, _, _, _, _, _, _ => none
  | k + 1, x3, x4, x5, x6, x7, x300000, x300001, x300002, x300003, x300004, x300005 => if x7 < 4 then (if x6 = true then (if 0 ≤ x7 then (if (sel4I x300001 x300002 x300003 x300004 x7) = 0 then (drydockref17_Ready.l1 k x3 x4 x5 true (wrap64 (x7 + 1)) x300000 x300001 x300002 x300003 x300004 x300005) else (if 0 ≤ x5 then (if x5 < (x300005.length : Int) then (drydockref17_Ready.l1 k x3 x4 x5 (decide (((rd_T43 x300005 x5).f1) < (sel4I x300001 x300002 x300003 x300004 x7))) (wrap64 (x7 + 1)) x300000 x300001 x300002 x300003 x300004 x300005) else (none)) else (none))) else (none)) else (drydockref17_Ready.l1 k x3 x4 x5 false (wrap64 (x7 + 1)) x300000 x300001 x300002 x300003 x300004 x300005)) else (if x6 = true then (if 0 ≤ x5 then (if x5 < (x300005.length : Int) then (if x3.length < 17592186044416 then (drydockref17_Ready.l0 k (x3 ++ [(rd_T43 x300005 x5).f0]) x4 (wrap64 (x5 + 1)) x300000 x300001 x300002 x300003 x300004 x300005) else (none)) else (none)) else (none)) else (drydockref17_Ready.l0 k x3 x4 (wrap64 (x5 + 1)) x300000 x300001 x300002 x300003 x300004 x300005))
end
def drydockref17_Ready.f (k : Nat) (a0_0 : Int) (a0_1 : Int) (a0_2 : Int) (a0_3 : Int) (a0_4 : Int) (l0_5 : List (S43)) : Option (List Int) := (drydockref17_May.f k a0_0 a0_1 a0_2 a0_3 a0_4 l0_5).bind fun t300 => (drydockref17_Ready.l0 k ([] : List Int) t300 0 a0_0 a0_1 a0_2 a0_3 a0_4 l0_5)
theorem drydockref17_Ready.mono_l : ∀ k, (∀ y0 y1 y2 y3 y4 y5 y6 y7 y8, LeO (drydockref17_Ready.l0 k y0 y1 y2 y3 y4 y5 y6 y7 y8) (drydockref17_Ready.l0 (k + 1) y0 y1 y2 y3 y4 y5 y6 y7 y8)) ∧ (∀ y0 y1 y2 y3 y4 y5 y6 y7 y8 y9, LeO (drydockref17_Ready.j1 k y0 y1 y2 y3 y4 y5 y6 y7 y8 y9) (drydockref17_Ready.j1 (k + 1) y0 y1 y2 y3 y4 y5 y6 y7 y8 y9)) ∧ (∀ y0 y1 y2 y3 y4 y5 y6 y7 y8 y9 y10, LeO (drydockref17_Ready.l1 k y0 y1 y2 y3 y4 y5 y6 y7 y8 y9 y10) (drydockref17_Ready.l1 (k + 1) y0 y1 y2 y3 y4 y5 y6 y7 y8 y9 y10))
  | 0 => ⟨fun _ _ _ _ _ _ _ _ _ r h => by simp [drydockref17_Ready.l0] at h, fun _ _ _ _ _ _ _ _ _ _ r h => by simp [drydockref17_Ready.j1] at h, fun _ _ _ _ _ _ _ _ _ _ _ r h => by simp [drydockref17_Ready.l1] at h⟩
  | k + 1 => by
    obtain ⟨ih0, ih1, ih2⟩ := drydockref17_Ready.mono_l k
    refine ⟨?_, ?_, ?_⟩
    · intro y0 y1 y2 y3 y4 y5 y6 y7 y8
      unfold drydockref17_Ready.l0
      repeat' first
      | (with_reducible exact ih0 _ _ _ _ _ _ _ _ _)
      | (with_reducible exact ih1 _ _ _ _ _ _ _ _ _ _)
      | (with_reducible exact ih2 _ _ _ _ _ _ _ _ _ _ _)
      | (with_reducible exact drydockref17_May.mono _ _ _ _ _ _ _)
      | (with_reducible exact LeO.refl _)
      | (with_reducible exact LeO.none _)
      | (with_reducible refine LeO.ite ?_ ?_)
      | (with_reducible refine LeO.bind ?_ (fun _ => ?_))
      | exact ih0 _ _ _ _ _ _ _ _ _
      | exact ih1 _ _ _ _ _ _ _ _ _ _
      | exact ih2 _ _ _ _ _ _ _ _ _ _ _
      | exact drydockref17_May.mono _ _ _ _ _ _ _
      | exact LeO.none _
      | refine LeO.ite ?_ ?_
      | refine LeO.bind ?_ (fun _ => ?_)
    · intro y0 y1 y2 y3 y4 y5 y6 y7 y8 y9
      unfold drydockref17_Ready.j1
      repeat' first
      | (with_reducible exact ih0 _ _ _ _ _ _ _ _ _)
      | (with_reducible exact ih1 _ _ _ _ _ _ _ _ _ _)
      | (with_reducible exact ih2 _ _ _ _ _ _ _ _ _ _ _)
      | (with_reducible exact drydockref17_May.mono _ _ _ _ _ _ _)
      | (with_reducible exact LeO.refl _)
      | (with_reducible exact LeO.none _)
      | (with_reducible refine LeO.ite ?_ ?_)
      | (with_reducible refine LeO.bind ?_ (fun _ => ?_))
      | exact ih0 _ _ _ _ _ _ _ _ _
      | exact ih1 _ _ _ _ _ _ _ _ _ _
      | exact ih2 _ _ _ _ _ _ _ _ _ _ _
      | exact drydockref17_May.mono _ _ _ _ _ _ _
      | exact LeO.none _
      | refine LeO.ite ?_ ?_
      | refine LeO.bind ?_ (fun _ => ?_)
    · intro y0 y1 y2 y3 y4 y5 y6 y7 y8 y9 y10
      unfold drydockref17_Ready.l1
      repeat' first
      | (with_reducible exact ih0 _ _ _ _ _ _ _ _ _)
      | (with_reducible exact ih1 _ _ _ _ _ _ _ _ _ _)
      | (with_reducible exact ih2 _ _ _ _ _ _ _ _ _ _ _)
      | (with_reducible exact drydockref17_May.mono _ _ _ _ _ _ _)
      | (with_reducible exact LeO.refl _)
      | (with_reducible exact LeO.none _)
      | (with_reducible refine LeO.ite ?_ ?_)
      | (with_reducible refine LeO.bind ?_ (fun _ => ?_))
      | exact ih0 _ _ _ _ _ _ _ _ _
      | exact ih1 _ _ _ _ _ _ _ _ _ _
      | exact ih2 _ _ _ _ _ _ _ _ _ _ _
      | exact drydockref17_May.mono _ _ _ _ _ _ _
      | exact LeO.none _
      | refine LeO.ite ?_ ?_
      | refine LeO.bind ?_ (fun _ => ?_)
theorem drydockref17_Ready.mono : ∀ a0 a1 a2 a3 a4 a5 k, LeO (drydockref17_Ready.f k a0 a1 a2 a3 a4 a5) (drydockref17_Ready.f (k + 1) a0 a1 a2 a3 a4 a5) := by
 intro a0 a1 a2 a3 a4 a5 k
 obtain ⟨ih0, ih1, ih2⟩ := drydockref17_Ready.mono_l k
 unfold drydockref17_Ready.f
 repeat' first
  | (with_reducible exact ih0 _ _ _ _ _ _ _ _ _)
  | (with_reducible exact ih1 _ _ _ _ _ _ _ _ _ _)
  | (with_reducible exact ih2 _ _ _ _ _ _ _ _ _ _ _)
  | (with_reducible exact drydockref17_May.mono _ _ _ _ _ _ _)
  | (with_reducible exact LeO.refl _)
  | (with_reducible exact LeO.none _)
  | (with_reducible refine LeO.ite ?_ ?_)
  | (with_reducible refine LeO.bind ?_ (fun _ => ?_))
  | exact ih0 _ _ _ _ _ _ _ _ _
  | exact ih1 _ _ _ _ _ _ _ _ _ _
  | exact ih2 _ _ _ _ _ _ _ _ _ _ _
  | exact drydockref17_May.mono _ _ _ _ _ _ _
  | exact LeO.none _
  | refine LeO.ite ?_ ?_
  | refine LeO.bind ?_ (fun _ => ?_)
set_option maxHeartbeats 8000000 in
set_option maxRecDepth 100000 in
theorem drydockref17_Ready.calls (k : Nat) (a0_0 : Int) (a0_1 : Int) (a0_2 : Int) (a0_3 : Int) (a0_4 : Int) (A0_5 : Option Addr) (c0_5 : Nat) (l0_5 : List (S43)) (r : List Int) (w : World) (hr0_5 : Kd.C k43 w A0_5 l0_5.length l0_5) (hc0_5 : l0_5.length ≤ c0_5) (h : drydockref17_Ready.f k a0_0 a0_1 a0_2 a0_3 a0_4 l0_5 = some r) :
    Calls Try.prog 22 #[.agg #[.int .i64 a0_0, .int .i64 a0_1, .int .i64 a0_2, .int .i64 a0_3, .int .i64 a0_4, .slice A0_5 l0_5.length c0_5]] w fun e w' => ∃ v0_ : Value, e = .returned (v0_) ∧ Kd.R (Kd.int .i64) 3 w' w.heap.size (fun _ => True) v0_ r ∧ Below w.heap.size w w' := by
 have hu25 := Try.underlying25
 have HR0_5 := Aside0.mk hr0_5
 have HC0_5 := Aside0.mk hc0_5
 clear hr0_5 hc0_5
 have HB := Aside0.mk (Below.refl w.heap.size w)
 have H : ((drydockref17_May.f k a0_0 a0_1 a0_2 a0_3 a0_4 l0_5).bind fun t300 => (drydockref17_Ready.l0 k ([] : List Int) t300 0 a0_0 a0_1 a0_2 a0_3 a0_4 l0_5)) = some r := h
 clear h
 replace H := Option.bind_eq_some_iff.mp H
 obtain ⟨t300, A20, H⟩ := H
 replace H : (drydockref17_Ready.l0 k ([] : List Int) t300 0 a0_0 a0_1 a0_2 a0_3 a0_4 l0_5) = some r := H
 have A2 := Aside0.mk A20
 clear A20
 have H' := Aside0.mk H
 clear H
 go_enter Try.func22, Try.ntmps22
 go_wp2_with (first | ((with_reducible refine gate_dst (N := 1) rfl ?_); refine box_event ?hg (N := 1) ?hd (cs := #[.int .i64 a0_0, .int .i64 a0_1, .int .i64 a0_2, .int .i64 a0_3, .int .i64 a0_4, .slice A0_5 l0_5.length c0_5]) (t := 25) ?hr ?_; (case hd => rfl); (case hg => rfl); (case hr => first | (go_simp; done) | (go_simp; rfl)); intro gb299 hg w3 hbox hb; have n0_ := Aside0.mk (below_step bs_ hb); have n1_ := Aside0.mk (hbox); have n2_ := Aside0.mk ((by rw [hg]; exact (below_size bs_) : w.heap.size ≤ gb299)); have n3_ := Aside0.mk ((by rw [hg]; exact (below_size bs_) : w.heap.size ≤ gb299)); clear HB; have HB := n0_; have BK299 := n1_; have GW299 := n2_; have GE299 := n3_; clear n0_ n1_ n2_ n3_; clear hb hbox hg; obtain ⟨hcz4_0, hcz4_1, hcz4_2, hcz4_3, hcz4_4, hcz4_5, hfz4_0, hfz4_1, hfz4_2, hfz4_3, hfz4_4, hfz4_5⟩ := blk6 BK299) | (go_at_call 24; (with_reducible refine (drydockref17_May.calls k a0_0 a0_1 a0_2 a0_3 a0_4 _ _ l0_5 t300 _ ?side1 ?side2 A2.out).mono ?_); (case side1 => repeat (first | exact (Kd.C_below HR0_5.out HB.out) | (with_reducible refine Kd.C_alloc ?_ _) | (with_reducible refine Kd.C_drewN ?_ _) | (with_reducible refine Kd.C_drew ?_))); (case side2 => exact HC0_5.out); rintro e w5 ⟨rfl, hb⟩; have n0_ := Aside0.mk (blk_below (bk_ BK299) hb); have n1_ := Aside0.mk (below_step bs_ hb); clear BK299 HB; have BK299 := n0_; have HB := n1_; clear n0_ n1_; (try clear hb); (try clear hb2); (try clear hk); (try clear hi)))
 repeat (go_quiet (first | ((with_reducible refine gate_dst (N := 1) rfl ?_); refine box_event ?hg (N := 1) ?hd (cs := #[.int .i64 a0_0, .int .i64 a0_1, .int .i64 a0_2, .int .i64 a0_3, .int .i64 a0_4, .slice A0_5 l0_5.length c0_5]) (t := 25) ?hr ?_; (case hd => rfl); (case hg => rfl); (case hr => first | (go_simp; done) | (go_simp; rfl)); intro gb299 hg w3 hbox hb; have n0_ := Aside0.mk (below_step bs_ hb); have n1_ := Aside0.mk (hbox); have n2_ := Aside0.mk ((by rw [hg]; exact (below_size bs_) : w.heap.size ≤ gb299)); have n3_ := Aside0.mk ((by rw [hg]; exact (below_size bs_) : w.heap.size ≤ gb299)); clear HB; have HB := n0_; have BK299 := n1_; have GW299 := n2_; have GE299 := n3_; clear n0_ n1_ n2_ n3_; clear hb hbox hg; obtain ⟨hcz4_0, hcz4_1, hcz4_2, hcz4_3, hcz4_4, hcz4_5, hfz4_0, hfz4_1, hfz4_2, hfz4_3, hfz4_4, hfz4_5⟩ := blk6 BK299) | (go_at_call 24; (with_reducible refine (drydockref17_May.calls k a0_0 a0_1 a0_2 a0_3 a0_4 _ _ l0_5 t300 _ ?side1 ?side2 A2.out).mono ?_); (case side1 => repeat (first | exact (Kd.C_below HR0_5.out HB.out) | (with_reducible refine Kd.C_alloc ?_ _) | (with_reducible refine Kd.C_drewN ?_ _) | (with_reducible refine Kd.C_drew ?_))); (case side2 => exact HC0_5.out); rintro e w5 ⟨rfl, hb⟩; have n0_ := Aside0.mk (blk_below (bk_ BK299) hb); have n1_ := Aside0.mk (below_step bs_ hb); clear BK299 HB; have BK299 := n0_; have HB := n1_; clear n0_ n1_; (try clear hb); (try clear hb2); (try clear hk); (try clear hi))); try go_wp2_with (first | ((with_reducible refine gate_dst (N := 1) rfl ?_); refine box_event ?hg (N := 1) ?hd (cs := #[.int .i64 a0_0, .int .i64 a0_1, .int .i64 a0_2, .int .i64 a0_3, .int .i64 a0_4, .slice A0_5 l0_5.length c0_5]) (t := 25) ?hr ?_; (case hd => rfl); (case hg => rfl); (case hr => first | (go_simp; done) | (go_simp; rfl)); intro gb299 hg w3 hbox hb; have n0_ := Aside0.mk (below_step bs_ hb); have n1_ := Aside0.mk (hbox); have n2_ := Aside0.mk ((by rw [hg]; exact (below_size bs_) : w.heap.size ≤ gb299)); have n3_ := Aside0.mk ((by rw [hg]; exact (below_size bs_) : w.heap.size ≤ gb299)); clear HB; have HB := n0_; have BK299 := n1_; have GW299 := n2_; have GE299 := n3_; clear n0_ n1_ n2_ n3_; clear hb hbox hg; obtain ⟨hcz4_0, hcz4_1, hcz4_2, hcz4_3, hcz4_4, hcz4_5, hfz4_0, hfz4_1, hfz4_2, hfz4_3, hfz4_4, hfz4_5⟩ := blk6 BK299) | (go_at_call 24; (with_reducible refine (drydockref17_May.calls k a0_0 a0_1 a0_2 a0_3 a0_4 _ _ l0_5 t300 _ ?side1 ?side2 A2.out).mono ?_); (case side1 => repeat (first | exact (Kd.C_below HR0_5.out HB.out) | (with_reducible refine Kd.C_alloc ?_ _) | (with_reducible refine Kd.C_drewN ?_ _) | (with_reducible refine Kd.C_drew ?_))); (case side2 => exact HC0_5.out); rintro e w5 ⟨rfl, hb⟩; have n0_ := Aside0.mk (blk_below (bk_ BK299) hb); have n1_ := Aside0.mk (below_step bs_ hb); clear BK299 HB; have BK299 := n0_; have HB := n1_; clear n0_ n1_; (try clear hb); (try clear hb2); (try clear hk); (try clear hi))))
 go_loopg [3, 5] k (fun kq v3 v5 w' => ∃ (x3_1 : List Int) (x5_1 : Int), v5 = .int .i64 x5_1 ∧ Aside0 (drydockref17_Ready.l0 kq x3_1 t300 x5_1 a0_0 a0_1 a0_2 a0_3 a0_4 l0_5 = some r) ∧ Aside0 (kq ≤ k) ∧ Aside0 (Kd.R (Kd.int .i64) 3 w' w.heap.size (fun _ => True) v3 x3_1) ∧ Aside0 (w'.heap[gb299]? = some (.cells #[.int .i64 a0_0, .int .i64 a0_1, .int .i64 a0_2, .int .i64 a0_3, .int .i64 a0_4, (.slice A0_5 l0_5.length c0_5)] 25 (0, 0))) ∧ Aside0 (Below w.heap.size w w'))
 case atStart => exact ⟨(([] : List Int)), (0), eq_, H', ⟨Nat.le_refl _⟩, ⟨by first | exact Kd.R_nil _ _ _ _ _ | exact Kd.N_nil _ _ _ _ _ | exact Kd.V_nil _ _ _ _ _ | exact Kd.Q_nil _ _ _ _ _ | exact Kd.S_nil _ _ _ _ _⟩, ⟨bk_ BK299⟩, ⟨bs_⟩⟩
 case round =>
  clear H'
  obtain ⟨x3_1, x5_1, rfl, HA, HK1, HO_3, BK299, HB⟩ := hrel
  cases gk with
  | zero => exact absurd HA.out (by simp [drydockref17_Ready.l0])
  | succ k1 =>
   have H := HA.out
   clear HA
   simp only [drydockref17_Ready.l0] at H
   have HC6 := Aside0.mk H
   clear H
   go_upto_region 4 with (fail)
   repeat (go_quiet (fail); go_upto_region 4 with (fail))
   go_cut [17] (fun v17 wc => ∃ (kq : Nat) (x17_5 : Bool), v17 = .bool x17_5 ∧ Aside0 (drydockref17_Ready.j1 kq x3_1 t300 x5_1 x17_5 a0_0 a0_1 a0_2 a0_3 a0_4 l0_5 = some r) ∧ Aside0 (kq ≤ k1) ∧ Aside0 (Kd.R (Kd.int .i64) 3 wc w.heap.size (fun _ => True) u3 x3_1) ∧ Aside0 (wc.heap[gb299]? = some (.cells #[.int .i64 a0_0, .int .i64 a0_1, .int .i64 a0_2, .int .i64 a0_3, .int .i64 a0_4, (.slice A0_5 l0_5.length c0_5)] 25 (0, 0))) ∧ Aside0 (Below w.heap.size w wc))
   case first =>
    have H := HC6.out
    clear HC6
    by_cases c7 : x5_1 < (l0_5.length : Int)
    ·rw [if_pos c7] at H
     have c7b0 : decide (x5_1 < (l0_5.length : Int)) = true := decide_eq_true c7
     clear c7
     (first | rw [c7b0] | (simp only [i64_w, i32_w]; rw [c7b0]) | skip)
     have H' := Aside0.mk H
     clear H
     obtain ⟨hcz8_0, hcz8_1, hcz8_2, hcz8_3, hcz8_4, hcz8_5, hfz8_0, hfz8_1, hfz8_2, hfz8_3, hfz8_4, hfz8_5⟩ := blk6 BK299
     go_wp2
     repeat (go_quiet (fail); try go_wp2)
     go_meet
     case rel => exact ⟨_, (t300), eq_, H', ⟨by have := HK1.out; first | omega | exact Nat.le_refl _⟩, ⟨by (with_reducible repeat (first | apply Kd.R_alloc | apply Kd.R_drewN | apply Kd.R_drew)); exact HO_3.out⟩, ⟨bk_ BK299⟩, ⟨bs_⟩⟩
    ·rw [if_neg c7] at H
     have c7b0 : decide (x5_1 < (l0_5.length : Int)) = false := decide_eq_false c7
     clear c7
     (first | rw [c7b0] | (simp only [i64_w, i32_w]; rw [c7b0]) | skip)
     have H' := Aside0.mk H
     clear H
     obtain ⟨hcz9_0, hcz9_1, hcz9_2, hcz9_3, hcz9_4, hcz9_5, hfz9_0, hfz9_1, hfz9_2, hfz9_3, hfz9_4, hfz9_5⟩ := blk6 BK299
     go_wp2
     repeat (go_quiet (fail); try go_wp2)
     go_meet
     case rel => exact ⟨_, (false), eq_, H', ⟨by have := HK1.out; first | omega | exact Nat.le_refl _⟩, ⟨by (with_reducible repeat (first | apply Kd.R_alloc | apply Kd.R_drewN | apply Kd.R_drew)); exact HO_3.out⟩, ⟨bk_ BK299⟩, ⟨bs_⟩⟩
   case rest =>
    clear HC6
    obtain ⟨kq, x17_5, rfl, HA, HJ5, HO_3, BK299, HB⟩ := hcut
    cases kq with
    | zero => exact absurd HA.out (by simp [drydockref17_Ready.j1])
    | succ kj5 =>
     have H := HA.out
     clear HA
     simp only [drydockref17_Ready.j1] at H
     by_cases c10 : x17_5 = true
     ·subst c10
      have H1 : (drydockref17_Ready.l1 kj5 x3_1 t300 x5_1 true 0 a0_0 a0_1 a0_2 a0_3 a0_4 l0_5) = some r := by rw [if_pos rfl] at H; exact H
      clear H
      have H := H1
      clear H1
      have H' := Aside0.mk H
      clear H
      go_wp2
      repeat (go_quiet (fail); try go_wp2)
      go_loopg [6, 7] kj5 (fun kq v6 v7 w' => ∃ (x6_3 : Bool) (x7_3 : Int), v6 = .bool x6_3 ∧ v7 = .int .i64 x7_3 ∧ Aside0 (drydockref17_Ready.l1 kq x3_1 t300 x5_1 x6_3 x7_3 a0_0 a0_1 a0_2 a0_3 a0_4 l0_5 = some r) ∧ Aside0 (kq ≤ kj5) ∧ Aside0 (Kd.R (Kd.int .i64) 3 w' w.heap.size (fun _ => True) u3 x3_1) ∧ Aside0 (w'.heap[gb299]? = some (.cells #[.int .i64 a0_0, .int .i64 a0_1, .int .i64 a0_2, .int .i64 a0_3, .int .i64 a0_4, (.slice A0_5 l0_5.length c0_5)] 25 (0, 0))) ∧ Aside0 (Below w.heap.size w w'))
      case atStart => exact ⟨(true), (0), eq_, eq_, H', ⟨Nat.le_refl _⟩, ⟨by (with_reducible repeat (first | apply Kd.R_alloc | apply Kd.R_drewN | apply Kd.R_drew)); exact HO_3.out⟩, ⟨bk_ BK299⟩, ⟨bs_⟩⟩
      case round =>
       clear H'
       try clear c10
       obtain ⟨x6_3, x7_3, rfl, rfl, HA, HK3, HO_3, BK299, HB⟩ := hrel
       cases gk with
       | zero => exact absurd HA.out (by simp [drydockref17_Ready.l1])
       | succ k3 =>
        have H := HA.out
        clear HA
        simp only [drydockref17_Ready.l1] at H
        by_cases c11 : x7_3 < 4
        ·rw [if_pos c11] at H
         have c11b0 : decide (x7_3 < 4) = true := decide_eq_true c11
         clear c11
         by_cases c12 : x6_3 = true
         ·subst c12
          have H1 : (if 0 ≤ x7_3 then (if (sel4I a0_1 a0_2 a0_3 a0_4 x7_3) = 0 then (drydockref17_Ready.l1 k3 x3_1 t300 x5_1 true (wrap64 (x7_3 + 1)) a0_0 a0_1 a0_2 a0_3 a0_4 l0_5) else (if 0 ≤ x5_1 then (if x5_1 < (l0_5.length : Int) then (drydockref17_Ready.l1 k3 x3_1 t300 x5_1 (decide (((rd_T43 l0_5 x5_1).f1) < (sel4I a0_1 a0_2 a0_3 a0_4 x7_3))) (wrap64 (x7_3 + 1)) a0_0 a0_1 a0_2 a0_3 a0_4 l0_5) else (none)) else (none))) else (none)) = some r := by rw [if_pos rfl] at H; exact H
          clear H
          have H := H1
          clear H1
          by_cases c13 : 0 ≤ x7_3
          ·rw [if_pos c13] at H
           have c13b0 : decide (0 ≤ x7_3) = true := decide_eq_true c13
           clear c13
           by_cases c14 : (sel4I a0_1 a0_2 a0_3 a0_4 x7_3) = 0
           ·rw [if_pos c14] at H
            have c14b0 : ((sel4I a0_1 a0_2 a0_3 a0_4 x7_3) == 0) = true := beq_iff_eq.mpr c14
            have c14b1 : ((sel4I a0_1 a0_2 a0_3 a0_4 x7_3) != 0) = false := bne_eq_false_iff_eq.mpr c14
            clear c14
            have H' := Aside0.mk H
            clear H
            obtain ⟨hcz15_0, hcz15_1, hcz15_2, hcz15_3, hcz15_4, hcz15_5, hfz15_0, hfz15_1, hfz15_2, hfz15_3, hfz15_4, hfz15_5⟩ := blk6 BK299
            have pz16 : (0 ≤ (x7_3 : Int)) = True := eq_true (of_decide_eq_true (by first | (with_reducible assumption) | assumption))
            have qz16 : ((x7_3 : Int) < 4) = True := eq_true (of_decide_eq_true (by first | (with_reducible assumption) | assumption))
            have hcz16_v : wr.cell? ⟨gb299, 1 + (x7_3).toNat, none⟩ = some (.int .i64 (sel4I a0_1 a0_2 a0_3 a0_4 x7_3)) := (blk_sel4I BK299.out rfl rfl rfl rfl (of_eq_true pz16) (of_eq_true qz16))
            go_wp2
            repeat (go_quiet (fail); try go_wp2)
            go_roundg k3
            case measure => have := HK1.out; have := HJ5.out; have := HK3.out; omega
            case rel => exact ⟨(true), (wrap64 (x7_3 + 1)), eq_, eq_, H', ⟨by have := HK1.out; have := HJ5.out; have := HK3.out; omega⟩, ⟨by (with_reducible repeat (first | apply Kd.R_alloc | apply Kd.R_drewN | apply Kd.R_drew)); exact HO_3.out⟩, ⟨bk_ BK299⟩, ⟨bs_⟩⟩
           ·rw [if_neg c14] at H
            have c14b0 : ((sel4I a0_1 a0_2 a0_3 a0_4 x7_3) == 0) = false := beq_eq_false_iff_ne.mpr c14
            have c14b1 : ((sel4I a0_1 a0_2 a0_3 a0_4 x7_3) != 0) = true := bne_iff_ne.mpr c14
            by_cases c17 : 0 ≤ x5_1
            ·rw [if_pos c17] at H
             have c17b0 : decide (0 ≤ x5_1) = true := decide_eq_true c17
             clear c17
             by_cases c18 : x5_1 < (l0_5.length : Int)
             ·rw [if_pos c18] at H
              have c18b0 : decide (x5_1 < (l0_5.length : Int)) = true := decide_eq_true c18
              clear c18
              have H' := Aside0.mk H
              clear H
              obtain ⟨hcz19_0, hcz19_1, hcz19_2, hcz19_3, hcz19_4, hcz19_5, hfz19_0, hfz19_1, hfz19_2, hfz19_3, hfz19_4, hfz19_5⟩ := blk6 BK299
              have pz20 : (0 ≤ (x7_3 : Int)) = True := eq_true (of_decide_eq_true (by first | (with_reducible assumption) | assumption))
              have qz20 : ((x7_3 : Int) < 4) = True := eq_true (of_decide_eq_true (by first | (with_reducible assumption) | assumption))
              have hcz20_v : wr.cell? ⟨gb299, 1 + (x7_3).toNat, none⟩ = some (.int .i64 (sel4I a0_1 a0_2 a0_3 a0_4 x7_3)) := (blk_sel4I BK299.out rfl rfl rfl rfl (of_eq_true pz20) (of_eq_true qz20))
              have p301 : 0 ≤ (x5_1 : Int) := of_decide_eq_true (by first | (with_reducible assumption) | assumption)
              have q301 : x5_1 < (l0_5.length : Int) := of_decide_eq_true (by first | (with_reducible assumption) | assumption)
              obtain ⟨ad301, e301, hx301_0, hx301_1⟩ := at_T43 HR0_5.out x5_1 p301 q301
              cases e301
              replace hx301_0 := (HB.out.cell (World.block_lt_of_cell? w _ hx301_0)).trans hx301_0
              replace hx301_1 := (HB.out.cell (World.block_lt_of_cell? w _ hx301_1)).trans hx301_1
              replace p301 := eq_true p301
              replace q301 := eq_true q301
              have pz21 : (0 ≤ (x7_3 : Int)) = True := eq_true (of_decide_eq_true (by first | (with_reducible assumption) | assumption))
              have qz21 : ((x7_3 : Int) < 4) = True := eq_true (of_decide_eq_true (by first | (with_reducible assumption) | assumption))
              have hcz21_v : wr.cell? ⟨gb299, 1 + (x7_3).toNat, none⟩ = some (.int .i64 (sel4I a0_1 a0_2 a0_3 a0_4 x7_3)) := (blk_sel4I BK299.out rfl rfl rfl rfl (of_eq_true pz21) (of_eq_true qz21))
              go_wp2
              repeat (go_quiet (fail); try go_wp2)
              go_roundg k3
              case measure => have := HK1.out; have := HJ5.out; have := HK3.out; omega
              case rel => exact ⟨(decide (((rd_T43 l0_5 x5_1).f1) < (sel4I a0_1 a0_2 a0_3 a0_4 x7_3))), (wrap64 (x7_3 + 1)), eq_, eq_, H', ⟨by have := HK1.out; have := HJ5.out; have := HK3.out; omega⟩, ⟨by (with_reducible repeat (first | apply Kd.R_alloc | apply Kd.R_drewN | apply Kd.R_drew)); exact HO_3.out⟩, ⟨bk_ BK299⟩, ⟨bs_⟩⟩
             ·rw [if_neg c18] at H
              exact absurd H (by simp)
            ·rw [if_neg c17] at H
             exact absurd H (by simp)
          ·rw [if_neg c13] at H
           exact absurd H (by simp)
         ·replace c12 := Bool.eq_false_iff.mpr c12
          subst c12
          have H1 : (drydockref17_Ready.l1 k3 x3_1 t300 x5_1 false (wrap64 (x7_3 + 1)) a0_0 a0_1 a0_2 a0_3 a0_4 l0_5) = some r := by rw [if_neg (show ¬ (false = true) by decide)] at H; exact H
          clear H
          have H := H1
          clear H1
          have H' := Aside0.mk H
          clear H
          go_wp2
          repeat (go_quiet (fail); try go_wp2)
          go_roundg k3
          case measure => have := HK1.out; have := HJ5.out; have := HK3.out; omega
          case rel => exact ⟨(false), (wrap64 (x7_3 + 1)), eq_, eq_, H', ⟨by have := HK1.out; have := HJ5.out; have := HK3.out; omega⟩, ⟨by (with_reducible repeat (first | apply Kd.R_alloc | apply Kd.R_drewN | apply Kd.R_drew)); exact HO_3.out⟩, ⟨bk_ BK299⟩, ⟨bs_⟩⟩
        ·rw [if_neg c11] at H
         have c11b0 : decide (x7_3 < 4) = false := decide_eq_false c11
         clear c11
         by_cases c22 : x6_3 = true
         ·subst c22
          have H1 : (if 0 ≤ x5_1 then (if x5_1 < (l0_5.length : Int) then (if x3_1.length < 17592186044416 then (drydockref17_Ready.l0 k3 (x3_1 ++ [(rd_T43 l0_5 x5_1).f0]) t300 (wrap64 (x5_1 + 1)) a0_0 a0_1 a0_2 a0_3 a0_4 l0_5) else (none)) else (none)) else (none)) = some r := by rw [if_pos rfl] at H; exact H
          clear H
          have H := H1
          clear H1
          by_cases c23 : 0 ≤ x5_1
          ·rw [if_pos c23] at H
           have c23b0 : decide (0 ≤ x5_1) = true := decide_eq_true c23
           clear c23
           by_cases c24 : x5_1 < (l0_5.length : Int)
           ·rw [if_pos c24] at H
            have c24b0 : decide (x5_1 < (l0_5.length : Int)) = true := decide_eq_true c24
            clear c24
            by_cases c25 : x3_1.length < 17592186044416
            ·rw [if_pos c25] at H
             have LMc25 := Aside0.mk c25
             clear c25
             obtain ⟨y303, hy303⟩ : ∃ y_ : List Int, y_ = (x3_1 ++ [(rd_T43 l0_5 x5_1).f0]) := ⟨_, rfl⟩
             replace H : (drydockref17_Ready.l0 k3 y303 t300 (wrap64 (x5_1 + 1)) a0_0 a0_1 a0_2 a0_3 a0_4 l0_5) = some r := by first | (rw [hy303]; with_reducible exact H) | (have H2_ := (Option.bind_some _ _).symm.trans H; rw [hy303]; with_reducible exact H2_) | (have H2_ := (Option.bind_some _ _).symm.trans H; with_reducible exact H2_) | with_reducible exact H | (rw [hy303]; exact H) | exact H
             have Ny303 := Aside0.mk hy303
             clear hy303
             have H' := Aside0.mk H
             clear H
             obtain ⟨hcz26_0, hcz26_1, hcz26_2, hcz26_3, hcz26_4, hcz26_5, hfz26_0, hfz26_1, hfz26_2, hfz26_3, hfz26_4, hfz26_5⟩ := blk6 BK299
             have p302 : 0 ≤ (x5_1 : Int) := of_decide_eq_true (by first | (with_reducible assumption) | assumption)
             have q302 : x5_1 < (l0_5.length : Int) := of_decide_eq_true (by first | (with_reducible assumption) | assumption)
             obtain ⟨ad302, e302, hx302_0, hx302_1⟩ := at_T43 HR0_5.out x5_1 p302 q302
             cases e302
             replace hx302_0 := (HB.out.cell (World.block_lt_of_cell? w _ hx302_0)).trans hx302_0
             replace hx302_1 := (HB.out.cell (World.block_lt_of_cell? w _ hx302_1)).trans hx302_1
             replace p302 := eq_true p302
             replace q302 := eq_true q302
             go_wp2_with (first | ((with_reducible refine gate_builtin (b := .append) (xs := #[.tmp 46, .tmp 53]) rfl ?_); at_builtin; refine Kd.R_append (Kd.int .i64) (w0 := w) w.heap.size rfl (.tmp 46) (.tmp 53) 32 3 (.int .i64 0) 8 rfl Try.underlying32 info3 rfl (by decide) (by omega) u3 x3_1 ((rd_T43 l0_5 x5_1).f0) [.int .i64 ((rd_T43 l0_5 x5_1).f0)] (fun _ => True) (fun _ => False) rfl rfl ?aP (fun _ hk => hk.elim) ?aF ?aO ?aB ?aS ?aL ?_; (case aP => exact rfl); (case aB => exact bs_); (case aF => exact (fun _ _ => trivial)); (case aO => exact (rk_ HO_3)); (case aS => exact (below_size bs_)); (case aL => have := LMc25.out; omega); intro v304 w27 ho hb hg hat; rw [← Ny303.out] at ho; have n0_ := Aside0.mk (blk_grown (g := gb299) (o := .cells #[.int .i64 a0_0, .int .i64 a0_1, .int .i64 a0_2, .int .i64 a0_3, .int .i64 a0_4, .slice (some ad302) l0_5.length c0_5] 25 (0, 0)) (by (with_reducible repeat (first | refine blk_drewN ?_ _ | refine blk_drew ?_ | refine blk_alloc ?_ _)); exact BK299.out) hg (Kd.R_ne HO_3.out BK299.out (by decide))); have n1_ := Aside0.mk (hb); have n2_ := Aside0.mk (ho); clear BK299 HB HO_3; have BK299 := n0_; have HB := n1_; have HO305 := n2_; clear n0_ n1_ n2_; clear ho hb hg hat))
             repeat (go_quiet (first | ((with_reducible refine gate_builtin (b := .append) (xs := #[.tmp 46, .tmp 53]) rfl ?_); at_builtin; refine Kd.R_append (Kd.int .i64) (w0 := w) w.heap.size rfl (.tmp 46) (.tmp 53) 32 3 (.int .i64 0) 8 rfl Try.underlying32 info3 rfl (by decide) (by omega) u3 x3_1 ((rd_T43 l0_5 x5_1).f0) [.int .i64 ((rd_T43 l0_5 x5_1).f0)] (fun _ => True) (fun _ => False) rfl rfl ?aP (fun _ hk => hk.elim) ?aF ?aO ?aB ?aS ?aL ?_; (case aP => exact rfl); (case aB => exact bs_); (case aF => exact (fun _ _ => trivial)); (case aO => exact (rk_ HO_3)); (case aS => exact (below_size bs_)); (case aL => have := LMc25.out; omega); intro v304 w27 ho hb hg hat; rw [← Ny303.out] at ho; have n0_ := Aside0.mk (blk_grown (g := gb299) (o := .cells #[.int .i64 a0_0, .int .i64 a0_1, .int .i64 a0_2, .int .i64 a0_3, .int .i64 a0_4, .slice (some ad302) l0_5.length c0_5] 25 (0, 0)) (by (with_reducible repeat (first | refine blk_drewN ?_ _ | refine blk_drew ?_ | refine blk_alloc ?_ _)); exact BK299.out) hg (Kd.R_ne HO_3.out BK299.out (by decide))); have n1_ := Aside0.mk (hb); have n2_ := Aside0.mk (ho); clear BK299 HB HO_3; have BK299 := n0_; have HB := n1_; have HO305 := n2_; clear n0_ n1_ n2_; clear ho hb hg hat)); try go_wp2_with (first | ((with_reducible refine gate_builtin (b := .append) (xs := #[.tmp 46, .tmp 53]) rfl ?_); at_builtin; refine Kd.R_append (Kd.int .i64) (w0 := w) w.heap.size rfl (.tmp 46) (.tmp 53) 32 3 (.int .i64 0) 8 rfl Try.underlying32 info3 rfl (by decide) (by omega) u3 x3_1 ((rd_T43 l0_5 x5_1).f0) [.int .i64 ((rd_T43 l0_5 x5_1).f0)] (fun _ => True) (fun _ => False) rfl rfl ?aP (fun _ hk => hk.elim) ?aF ?aO ?aB ?aS ?aL ?_; (case aP => exact rfl); (case aB => exact bs_); (case aF => exact (fun _ _ => trivial)); (case aO => exact (rk_ HO_3)); (case aS => exact (below_size bs_)); (case aL => have := LMc25.out; omega); intro v304 w27 ho hb hg hat; rw [← Ny303.out] at ho; have n0_ := Aside0.mk (blk_grown (g := gb299) (o := .cells #[.int .i64 a0_0, .int .i64 a0_1, .int .i64 a0_2, .int .i64 a0_3, .int .i64 a0_4, .slice (some ad302) l0_5.length c0_5] 25 (0, 0)) (by (with_reducible repeat (first | refine blk_drewN ?_ _ | refine blk_drew ?_ | refine blk_alloc ?_ _)); exact BK299.out) hg (Kd.R_ne HO_3.out BK299.out (by decide))); have n1_ := Aside0.mk (hb); have n2_ := Aside0.mk (ho); clear BK299 HB HO_3; have BK299 := n0_; have HB := n1_; have HO305 := n2_; clear n0_ n1_ n2_; clear ho hb hg hat)))
             go_roundg k3
             case measure => have := HK1.out; have := HJ5.out; have := HK3.out; omega
             case rel => exact ⟨(y303), (wrap64 (x5_1 + 1)), eq_, H', ⟨by have := HK1.out; have := HJ5.out; have := HK3.out; omega⟩, ⟨by (with_reducible repeat (first | apply Kd.R_alloc | apply Kd.R_drewN | apply Kd.R_drew)); exact HO305.out⟩, ⟨bk_ BK299⟩, ⟨bs_⟩⟩
            ·rw [if_neg c25] at H
             exact absurd H (by simp)
           ·rw [if_neg c24] at H
            exact absurd H (by simp)
          ·rw [if_neg c23] at H
           exact absurd H (by simp)
         ·replace c22 := Bool.eq_false_iff.mpr c22
          subst c22
          have H1 : (drydockref17_Ready.l0 k3 x3_1 t300 (wrap64 (x5_1 + 1)) a0_0 a0_1 a0_2 a0_3 a0_4 l0_5) = some r := by rw [if_neg (show ¬ (false = true) by decide)] at H; exact H
          clear H
          have H := H1
          clear H1
          have H' := Aside0.mk H
          clear H
          go_wp2
          repeat (go_quiet (fail); try go_wp2)
          go_roundg k3
          case measure => have := HK1.out; have := HJ5.out; have := HK3.out; omega
          case rel => exact ⟨(x3_1), (wrap64 (x5_1 + 1)), eq_, H', ⟨by have := HK1.out; have := HJ5.out; have := HK3.out; omega⟩, ⟨by (with_reducible repeat (first | apply Kd.R_alloc | apply Kd.R_drewN | apply Kd.R_drew)); exact HO_3.out⟩, ⟨bk_ BK299⟩, ⟨bs_⟩⟩
     ·replace c10 := Bool.eq_false_iff.mpr c10
      subst c10
      have H1 : (some x3_1) = some r := by rw [if_neg (show ¬ (false = true) by decide)] at H; exact H
      clear H
      have H := H1
      clear H1
      obtain rfl := Option.some.inj H
      go_wp2
      repeat (go_quiet (fail); try go_wp2)
      go_ret
      exact ⟨_, by first | rfl | (simp [errW_none, errW_some] <;> rfl) | (simp [*, errW_none, errW_some] <;> rfl), by (with_reducible repeat (first | apply Kd.R_alloc | apply Kd.R_drewN | apply Kd.R_drew)); exact HO_3.out, by repeat (first | (with_reducible first | exact HB.out | apply below_alloc | apply pw_below_drewN | apply below_drew1 | refine below_set ?_ GE299.out) | exact HB.out)⟩

end Go.Proofs.Ytipnfcicpnmggaa.P
