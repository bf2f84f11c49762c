/- What delta.Put answers (for lists of at most 100000). -/
import Derived.Test.YtlboachgeepadaaFarN
import Derived.Test.YtlboachgeepadaaHDel
import Derived.Test.YtlboachgeepadaaHClones
import Derived.Test.YtlboachgeepadaaHClone
import Derived.Test.YtlboachgeepadaaSpec
import Derived.Test.YtlboachgeepadaaHMix
namespace Go.Proofs.Ytlboachgeepadaa.P
open Go.RowKit Go.Proofs.YtlboachgeepadaaW.PrintWords Go.Proofs.YtlboachgeepadaaW.PrintLast Go.Proofs.YtlboachgeepadaaW.PrintMore
set_option linter.unusedVariables false
set_option linter.unusedSimpArgs false
/-- Lists that the walk takes. -/
def fewPut (l0 : List Int) (l4 : List S61) (l5 : List Int) (l10 : List S63) : Bool := decide (l0.length ≤ 100000) && (decide (l4.length ≤ 100000) && (decide (l5.length ≤ 100000) && (decide (l10.length ≤ 100000) && (l4.all (fun x => decide (x.f1.length ≤ 100000)) && l10.all (fun x => decide (x.f1.length ≤ 100000))))))
def delta_Put.f (l0_0 : List Int) (a0_1 : Bool) (a1_0 : Int) (a1_1 : Int) (a1_2 : Int) (a1_3 : Int) (l1_4 : List (S61)) (l1_5 : List Int) (a1_6 : Int) (a1_7 : Int) (a1_8 : Int) (a1_9 : Int) (l1_10 : List (S63)) (a1_11 : Int) : Option (List Int × Bool × Int × Int × Int × Int × (List (S61)) × List Int × Int × Int × Int × Int × (List (S63)) × Int × Int) :=
  if fewPut l0_0 l1_4 l1_5 l1_10 = true then (if Spec.mayD l0_0 a0_1 = true then (if a0_1 = true then some ([], false, 0, 0, 0, 0, [], [], 0, 0, 0, 0, [], 0, 4) else some ([], false, a1_0, a1_1, a1_2, a1_3, l1_4, keepL l0_0 l1_5, a1_6, a1_7, a1_8, a1_9, l1_10, a1_11, 0)) else some ([], false, 0, 0, 0, 0, [], [], 0, 0, 0, 0, [], 0, 1)) else none
def put_T10 : Bool × List (List Nat × List Nat) := (true, [([], []), ([0], [0]), ([1], [1]), ([], []), ([], []), ([4], [4]), ([5], [5]), ([2, 3, 0, 1, 2, 3, 4, 5, 6], [2, 3]), ([7, 0, 1, 2, 3, 4, 5, 6], [7]), ([8, 6, 6, 0, 1, 2, 3, 4, 5, 6], [6, 8])])
def put_B10 : List Nat := [0, 1, 3, 0, 0, 16, 48, 127, 255, 511]
theorem put_tab10 : rtab .any (opsOf Try.f18 10) = put_T10 := by kernel_rfl
theorem put_bits10 : waitsOk put_T10.2 put_B10 = true := by kernel_rfl
theorem put_tab16 : rtab .any (opsOf Try.f18 16) = put_T10 := by kernel_rfl
section
variable {α : Type} {d : Kd α} {e : Nat} {w : World} {base : Nat} {ok : Nat → Prop} {v : Value} {xs : List α}
theorem put_far2S (g : Nat) {u0 u1 : Value} (h : Kd.S d e w base ok v xs) (hk : ∀ k, ok k → k ≠ g) : Kd.S d e ((w.setCell ⟨g, 0, none⟩ u0).setCell ⟨g, 1, none⟩ u1) base ok v xs := (Kd.S_far (p := ⟨g, 1, none⟩) (Kd.S_far (p := ⟨g, 0, none⟩) h hk u0) hk u1)
theorem put_far12S (g : Nat) {u0 u1 u2 u3 u4 u5 u6 u7 u8 u9 u10 u11 : Value} (h : Kd.S d e w base ok v xs) (hk : ∀ k, ok k → k ≠ g) : Kd.S d e ((((((((((((w.setCell ⟨g, 0, none⟩ u0).setCell ⟨g, 1, none⟩ u1).setCell ⟨g, 2, none⟩ u2).setCell ⟨g, 3, none⟩ u3).setCell ⟨g, 4, none⟩ u4).setCell ⟨g, 5, none⟩ u5).setCell ⟨g, 6, none⟩ u6).setCell ⟨g, 7, none⟩ u7).setCell ⟨g, 8, none⟩ u8).setCell ⟨g, 9, none⟩ u9).setCell ⟨g, 10, none⟩ u10).setCell ⟨g, 11, none⟩ u11) base ok v xs := (Kd.S_far (p := ⟨g, 11, none⟩) (Kd.S_far (p := ⟨g, 10, none⟩) (Kd.S_far (p := ⟨g, 9, none⟩) (Kd.S_far (p := ⟨g, 8, none⟩) (Kd.S_far (p := ⟨g, 7, none⟩) (Kd.S_far (p := ⟨g, 6, none⟩) (Kd.S_far (p := ⟨g, 5, none⟩) (Kd.S_far (p := ⟨g, 4, none⟩) (Kd.S_far (p := ⟨g, 3, none⟩) (Kd.S_far (p := ⟨g, 2, none⟩) (Kd.S_far (p := ⟨g, 1, none⟩) (Kd.S_far (p := ⟨g, 0, none⟩) h hk u0) hk u1) hk u2) hk u3) hk u4) hk u5) hk u6) hk u7) hk u8) hk u9) hk u10) hk u11)
end
theorem put_size (w : World) (a : Addr) (v : Value) : (w.setCell a v).heap.size = w.heap.size := by simp [World.setCell]
set_option maxHeartbeats 4000000 in
set_option maxRecDepth 100000 in
theorem delta_Put.calls (A0_0 : Option Addr) (c0_0 : Nat) (l0_0 : List Int) (a0_1 : Bool) (a1_0 : Int) (a1_1 : Int) (a1_2 : Int) (a1_3 : Int) (A1_4 : Option Addr) (c1_4 : Nat) (l1_4 : List (S61)) (A1_5 : Option Addr) (c1_5 : Nat) (l1_5 : List Int) (a1_6 : Int) (a1_7 : Int) (a1_8 : Int) (a1_9 : Int) (A1_10 : Option Addr) (c1_10 : Nat) (l1_10 : List (S63)) (a1_11 : Int) (r1 : List Int) (r2 : Bool) (r3 : Int) (r4 : Int) (r5 : Int) (r6 : Int) (r7 : List (S61)) (r8 : List Int) (r9 : Int) (r10 : Int) (r11 : Int) (r12 : Int) (r13 : List (S63)) (r14 : Int) (r15 : Int) (w : World) (hr0_0 : Kd.C (Kd.int .u32) w A0_0 l0_0.length l0_0) (hc0_0 : l0_0.length ≤ c0_0) (hr1_4 : Kd.C k61 w A1_4 l1_4.length l1_4) (hc1_4 : l1_4.length ≤ c1_4) (hr1_5 : Kd.C (Kd.int .u32) w A1_5 l1_5.length l1_5) (hc1_5 : l1_5.length ≤ c1_5) (hr1_10 : Kd.C k63 w A1_10 l1_10.length l1_10) (hc1_10 : l1_10.length ≤ c1_10) (h : delta_Put.f l0_0 a0_1 a1_0 a1_1 a1_2 a1_3 l1_4 l1_5 a1_6 a1_7 a1_8 a1_9 l1_10 a1_11 = some (r1, r2, r3, r4, r5, r6, r7, r8, r9, r10, r11, r12, r13, r14, r15)) :
    Calls Try.prog 18 #[.agg #[.slice A0_0 l0_0.length c0_0, .bool a0_1], .agg #[.int .i64 a1_0, .int .i64 a1_1, .int .i64 a1_2, .int .i64 a1_3, .slice A1_4 l1_4.length c1_4, .slice A1_5 l1_5.length c1_5, .int .i64 a1_6, .int .i64 a1_7, .int .i64 a1_8, .int .i64 a1_9, .slice A1_10 l1_10.length c1_10, .int .u32 a1_11]] w fun e w' => ∃ v0_ v6_ v7_ v12_ : Value, e = .returned (.tuple #[.agg #[v0_, .bool r2], .agg #[.int .i64 r3, .int .i64 r4, .int .i64 r5, .int .i64 r6, v6_, v7_, .int .i64 r9, .int .i64 r10, .int .i64 r11, .int .i64 r12, v12_, .int .u32 r14], .int .i64 r15]) ∧ Kd.R (Kd.int .u32) 27 w' w.heap.size (fun k_ => some k_ ≠ (v7_ : Value).ownBlock) v0_ r1 ∧ Kd.S k61 61 w' w.heap.size (fun _ => True) v6_ r7 ∧ Kd.R (Kd.int .u32) 27 w' w.heap.size (fun k_ => some k_ ≠ (v0_ : Value).ownBlock) v7_ r8 ∧ Kd.S k63 63 w' w.heap.size (fun k_ => some k_ ≠ (v0_ : Value).ownBlock ∧ some k_ ≠ (v7_ : Value).ownBlock) v12_ r13 ∧ Below w.heap.size w w' := by
  unfold delta_Put.f at h
  by_cases hf : fewPut l0_0 l1_4 l1_5 l1_10 = true
  · rw [if_pos hf] at h
    obtain ⟨kM, hM⟩ := (Spec.may_ev a0_1 (l := l0_0) (by simp [fewPut] at hf; omega)).rounds
    have HM := Aside0.mk hM
    have HR0 := Aside0.mk hr0_0
    have HC0 := Aside0.mk hc0_0
    have HR4 := Aside0.mk hr1_4
    have HC4 := Aside0.mk hc1_4
    have HR5 := Aside0.mk hr1_5
    have HC5 := Aside0.mk hc1_5
    have HR10 := Aside0.mk hr1_10
    have HC10 := Aside0.mk hc1_10
    have HF := Aside0.mk hf
    clear hM hr0_0 hc0_0 hr1_4 hc1_4 hr1_5 hc1_5 hr1_10 hc1_10 hf
    have HR0_0 := HR0
    have HC0_0 := HC0
    have hu25 := Try.underlying25
    have hu42 := Try.underlying42
    have HB := Aside0.mk (Below.refl w.heap.size w)
    by_cases hm : Spec.mayD l0_0 a0_1 = true
    · rw [if_pos hm] at h
      rw [hm] at HM
      by_cases ho : a0_1 = true
      · subst ho
        rw [if_pos rfl] at h
        simp only [Option.some.injEq, Prod.mk.injEq] at h
        obtain ⟨rfl, rfl, rfl, rfl, rfl, rfl, rfl, rfl, rfl, rfl, rfl, rfl, rfl, rfl, rfl⟩ := h
        go_enter Try.func18, Try.ntmps18
        go_wp2_with (first | ((with_reducible refine gate_dst (N := 2) rfl ?_); refine box_event ?hg (N := 2) ?hd (cs := #[.slice A0_0 l0_0.length c0_0, .bool true]) (t := 25) ?hr ?_; (case hd => rfl); (case hg => rfl); (case hr => first | (go_simp; done) | (go_simp; rfl)); intro gb266 hg w87 hbox hb; have n0_ := Aside0.mk (below_step bs_ hb); have n1_ := Aside0.mk (hbox); have n2_ := Aside0.mk ((by rw [hg]; exact (below_size bs_) : w.heap.size ≤ gb266)); have n3_ := Aside0.mk ((by rw [hg]; exact (below_size bs_) : w.heap.size ≤ gb266)); clear HB; have HB := n0_; have BK266 := n1_; have GW266 := n2_; have GE266 := n3_; clear n0_ n1_ n2_ n3_; clear hb hbox hg) | ((with_reducible refine gate_dst (N := 3) rfl ?_); refine box_event ?hg (N := 3) ?hd (cs := #[.int .i64 a1_0, .int .i64 a1_1, .int .i64 a1_2, .int .i64 a1_3, .slice A1_4 l1_4.length c1_4, .slice A1_5 l1_5.length c1_5, .int .i64 a1_6, .int .i64 a1_7, .int .i64 a1_8, .int .i64 a1_9, .slice A1_10 l1_10.length c1_10, .int .u32 a1_11]) (t := 42) ?hr ?_; (case hd => rfl); (case hg => rfl); (case hr => first | (go_simp; done) | (go_simp; rfl)); intro gb267 hg w88 hbox hb; have n0_ := Aside0.mk (blk_below (bk_ BK266) hb); have n1_ := Aside0.mk (below_step bs_ hb); have n2_ := Aside0.mk (hbox); have n3_ := Aside0.mk ((by rw [hg]; exact (below_size bs_) : w.heap.size ≤ gb267)); have n4_ := Aside0.mk ((by rw [hg]; exact (below_size bs_) : w.heap.size ≤ gb267)); have n5_ := Aside0.mk ((by rw [hg]; exact Nat.ne_of_lt (blk_lt (bk_ BK266)) : gb266 ≠ gb267)); have n6_ := Aside0.mk ((by rw [hg]; exact Nat.ne_of_gt (blk_lt (bk_ BK266)) : gb267 ≠ gb266)); clear BK266 HB; have BK266 := n0_; have HB := n1_; have BK267 := n2_; have GW267 := n3_; have GE267 := n4_; have NB266_267 := n5_; have NB267_266 := n6_; clear n0_ n1_ n2_ n3_ n4_ n5_ n6_; clear hb hbox hg) | ((with_reducible refine gate_dst (N := 4) rfl ?_); refine box_event ?hg (N := 4) ?hd (cs := #[.slice none 0 0, .bool false]) (t := 25) ?hr ?_; (case hd => rfl); (case hg => rfl); (case hr => first | (go_simp; done) | (go_simp; rfl)); intro gb268 hg w89 hbox hb; have n0_ := Aside0.mk (blk_below (bk_ BK266) hb); have n1_ := Aside0.mk (blk_below (bk_ BK267) hb); have n2_ := Aside0.mk (below_step bs_ hb); have n3_ := Aside0.mk (hbox); have n4_ := Aside0.mk ((by rw [hg]; exact (below_size bs_) : w.heap.size ≤ gb268)); have n5_ := Aside0.mk ((by rw [hg]; exact (below_size bs_) : w.heap.size ≤ gb268)); have n6_ := Aside0.mk ((by rw [hg]; exact Nat.ne_of_lt (blk_lt (bk_ BK266)) : gb266 ≠ gb268)); have n7_ := Aside0.mk ((by rw [hg]; exact Nat.ne_of_gt (blk_lt (bk_ BK266)) : gb268 ≠ gb266)); have n8_ := Aside0.mk ((by rw [hg]; exact Nat.ne_of_lt (blk_lt (bk_ BK267)) : gb267 ≠ gb268)); have n9_ := Aside0.mk ((by rw [hg]; exact Nat.ne_of_gt (blk_lt (bk_ BK267)) : gb268 ≠ gb267)); clear BK266 BK267 HB; have BK266 := n0_; have BK267 := n1_; have HB := n2_; have BK268 := n3_; have GW268 := n4_; have GE268 := n5_; have NB266_268 := n6_; have NB268_266 := n7_; have NB267_268 := n8_; have NB268_267 := n9_; clear n0_ n1_ n2_ n3_ n4_ n5_ n6_ n7_ n8_ n9_; clear hb hbox hg) | ((with_reducible refine gate_dst (N := 5) rfl ?_); refine box_event ?hg (N := 5) ?hd (cs := #[.int .i64 0, .int .i64 0, .int .i64 0, .int .i64 0, .slice none 0 0, .slice none 0 0, .int .i64 0, .int .i64 0, .int .i64 0, .int .i64 0, .slice none 0 0, .int .u32 0]) (t := 42) ?hr ?_; (case hd => rfl); (case hg => rfl); (case hr => first | (go_simp; done) | (go_simp; rfl)); intro gb269 hg w90 hbox hb; have n0_ := Aside0.mk (blk_below (bk_ BK266) hb); have n1_ := Aside0.mk (blk_below (bk_ BK267) hb); have n2_ := Aside0.mk (blk_below (bk_ BK268) hb); have n3_ := Aside0.mk (below_step bs_ hb); have n4_ := Aside0.mk (hbox); have n5_ := Aside0.mk ((by rw [hg]; exact (below_size bs_) : w.heap.size ≤ gb269)); have n6_ := Aside0.mk ((by rw [hg]; exact (below_size bs_) : w.heap.size ≤ gb269)); have n7_ := Aside0.mk ((by rw [hg]; exact Nat.ne_of_lt (blk_lt (bk_ BK266)) : gb266 ≠ gb269)); have n8_ := Aside0.mk ((by rw [hg]; exact Nat.ne_of_gt (blk_lt (bk_ BK266)) : gb269 ≠ gb266)); have n9_ := Aside0.mk ((by rw [hg]; exact Nat.ne_of_lt (blk_lt (bk_ BK267)) : gb267 ≠ gb269)); have n10_ := Aside0.mk ((by rw [hg]; exact Nat.ne_of_gt (blk_lt (bk_ BK267)) : gb269 ≠ gb267)); have n11_ := Aside0.mk ((by rw [hg]; exact Nat.ne_of_lt (blk_lt (bk_ BK268)) : gb268 ≠ gb269)); have n12_ := Aside0.mk ((by rw [hg]; exact Nat.ne_of_gt (blk_lt (bk_ BK268)) : gb269 ≠ gb268)); clear BK266 BK267 BK268 HB; have BK266 := n0_; have BK267 := n1_; have BK268 := n2_; have HB := n3_; have BK269 := n4_; have GW269 := n5_; have GE269 := n6_; have NB266_269 := n7_; have NB269_266 := n8_; have NB267_269 := n9_; have NB269_267 := n10_; have NB268_269 := n11_; have NB269_268 := n12_; clear n0_ n1_ n2_ n3_ n4_ n5_ n6_ n7_ n8_ n9_ n10_ n11_ n12_; clear hb hbox hg; have hnb91 := NB266_267.out; have hnc91 := NB267_266.out; have hnb92 := NB266_268.out; have hnc92 := NB268_266.out; have hnb93 := NB266_269.out; have hnc93 := NB269_266.out; obtain ⟨hcz94_0, hcz94_1, hfz94_0, hfz94_1⟩ := blk2 BK266) | ((with_reducible refine gate_callee (f := 10) rfl ?_); refine goesL_ (some 13) rfl rfl Try.func10 (by kernel_rfl) rfl #[.agg #[.slice A0_0 l0_0.length c0_0, .bool true]] rfl (by (try simp only [List.map_toArray, List.map_cons, List.map_nil]); first | done | rfl | (simp only [List.length_drop, List.length_take]; rfl)) ?_; (with_reducible refine (delta_May.calls kM _ _ l0_0 true true _ ?side1 ?side2 HM.out).mono ?_); (case side1 => repeat (first | exact (Kd.C_below HR0_0.out HB.out) | (with_reducible refine Kd.C_alloc ?_ _) | (with_reducible refine Kd.C_drewN ?_ _) | (with_reducible refine Kd.C_drew ?_))); (case side2 => exact HC0_0.out); rintro e w95 ⟨rfl, hb⟩; refine ⟨_, rfl, ?_⟩; have n0_ := Aside0.mk (blk_below (bk_ BK266) hb); have n1_ := Aside0.mk (blk_below (bk_ BK267) hb); have n2_ := Aside0.mk (blk_below (bk_ BK268) hb); have n3_ := Aside0.mk (blk_below (bk_ BK269) hb); have n4_ := Aside0.mk (below_step bs_ hb); clear BK266 BK267 BK268 BK269 HB; have BK266 := n0_; have BK267 := n1_; have BK268 := n2_; have BK269 := n3_; have HB := n4_; clear n0_ n1_ n2_ n3_ n4_; (try clear hb); (try clear hb2); (try clear hk); (try clear hi); obtain ⟨hcw_0, hcw_1, hfw_0, hfw_1⟩ := blk2 BK266; have hnb96 := NB268_267.out; have hnc96 := NB267_268.out; have hnb97 := NB268_269.out; have hnc97 := NB269_268.out; obtain ⟨hcz98_0, hcz98_1, hfz98_0, hfz98_1⟩ := blk2 BK268; have hnb99 := NB269_267.out; have hnc99 := NB267_269.out; obtain ⟨hcz100_0, hcz100_1, hcz100_2, hcz100_3, hcz100_4, hcz100_5, hcz100_6, hcz100_7, hcz100_8, hcz100_9, hcz100_10, hcz100_11, hfz100_0, hfz100_1, hfz100_2, hfz100_3, hfz100_4, hfz100_5, hfz100_6, hfz100_7, hfz100_8, hfz100_9, hfz100_10, hfz100_11⟩ := blk12 BK269))
        refine bodyPost_ret (results_list (rs := [.cell 4 25, .cell 5 42, .tmp 6]) rfl (by simp) (.cell gb268 25 #[.slice none 0 0, .bool false] (0, 0) _ rfl (bp_ BK268) Try.underlying25 rfl (by kernel_rfl) (.cell gb269 42 #[.int .i64 0, .int .i64 0, .int .i64 0, .int .i64 0, .slice none 0 0, .slice none 0 0, .int .i64 0, .int .i64 0, .int .i64 0, .int .i64 0, .slice none 0 0, .int .u32 0] (0, 0) _ rfl (bp_ BK269) Try.underlying42 rfl (by kernel_rfl) (.tmp .nil)))) rfl ?_
        exact ⟨_, _, _, _, by first | rfl | (simp [errW_none, errW_some] <;> rfl) | (simp [*, errW_none, errW_some] <;> rfl), by first | exact Kd.R_nil _ _ _ _ _ | exact Kd.N_nil _ _ _ _ _ | exact Kd.V_nil _ _ _ _ _ | exact Kd.Q_nil _ _ _ _ _ | exact Kd.S_nil _ _ _ _ _, by first | exact Kd.S_nil _ _ _ _ _ | exact Kd.N_nil _ _ _ _ _ | exact Kd.V_nil _ _ _ _ _ | exact Kd.Q_nil _ _ _ _ _ | exact Kd.R_nil _ _ _ _ _, by first | exact Kd.R_nil _ _ _ _ _ | exact Kd.N_nil _ _ _ _ _ | exact Kd.V_nil _ _ _ _ _ | exact Kd.Q_nil _ _ _ _ _ | exact Kd.S_nil _ _ _ _ _, by first | exact Kd.S_nil _ _ _ _ _ | exact Kd.N_nil _ _ _ _ _ | exact Kd.V_nil _ _ _ _ _ | exact Kd.Q_nil _ _ _ _ _ | exact Kd.R_nil _ _ _ _ _, by repeat (first | (with_reducible first | exact HB.out | apply below_alloc | apply pw_below_drewN | apply below_drew1 | refine below_set ?_ GE266.out | refine below_set ?_ GE267.out | refine below_set ?_ GE268.out | refine below_set ?_ GE269.out) | exact HB.out)⟩
      · rw [if_neg ho] at h
        have ho2 : a0_1 = false := by simpa using ho
        subst ho2
        have H23 := Aside0.mk (show slices_Clone_uint32_uint32.f l1_5 = some l1_5 from by unfold slices_Clone_uint32_uint32.f; rw [if_pos (by have := HF.out; simp [fewPut] at this; omega)])
        have HL0 := Aside0.mk (show l0_0.length ≤ 100000 from by have := HF.out; simp [fewPut] at this; omega)
        have HL5 := Aside0.mk (show l1_5.length ≤ 100000 from by have := HF.out; simp [fewPut] at this; omega)
        simp only [Option.some.injEq, Prod.mk.injEq] at h
        obtain ⟨rfl, rfl, rfl, rfl, rfl, rfl, rfl, rfl, rfl, rfl, rfl, rfl, rfl, rfl, rfl⟩ := h
        clear ho
        obtain ⟨ws63, hws63, hwc63, hmx63⟩ := mix_start (hd := fun x : S63 => .int .u32 x.f0) (tl := fun x : S63 => x.f1) (d := Kd.int .u32) (e := 27) (d2 := k63) rfl (fun w x cs h => k63_open h) HR10.out
        obtain ⟨ws61, hws61, hwc61, hmx61⟩ := mix_start (hd := fun x : S61 => .int .i64 x.f0) (tl := fun x : S61 => x.f1) (d := k72) (e := 72) (d2 := k61) rfl (fun w x cs h => k61_open h) HR4.out
        have HWL63 := Aside0.mk hws63
        have HWC63 := Aside0.mk hwc63
        have HWM63 := Aside0.mk hmx63
        have HWL61 := Aside0.mk hws61
        have HWC61 := Aside0.mk hwc61
        have HWM61 := Aside0.mk hmx61
        have HL10 := Aside0.mk (show l1_10.length ≤ 100000 from by have := HF.out; simp [fewPut] at this; omega)
        have HL4 := Aside0.mk (show l1_4.length ≤ 100000 from by have := HF.out; simp [fewPut] at this; omega)
        clear hws63 hwc63 hmx63 hws61 hwc61 hmx61
        go_enter Try.func18, Try.ntmps18
        go_wp2_with (first | ((with_reducible refine gate_dst (N := 2) rfl ?_); refine box_event ?hg (N := 2) ?hd (cs := #[.slice A0_0 l0_0.length c0_0, .bool false]) (t := 25) ?hr ?_; (case hd => rfl); (case hg => rfl); (case hr => first | (go_simp; done) | (go_simp; rfl)); intro gb266 hg w87 hbox hb; have n0_ := Aside0.mk (below_step bs_ hb); have n1_ := Aside0.mk (hbox); have n2_ := Aside0.mk ((by rw [hg]; exact (below_size bs_) : w.heap.size ≤ gb266)); have n3_ := Aside0.mk ((by rw [hg]; exact (below_size bs_) : w.heap.size ≤ gb266)); clear HB; have HB := n0_; have BK266 := n1_; have GW266 := n2_; have GE266 := n3_; clear n0_ n1_ n2_ n3_; clear hb hbox hg) | ((with_reducible refine gate_dst (N := 3) rfl ?_); refine box_event ?hg (N := 3) ?hd (cs := #[.int .i64 a1_0, .int .i64 a1_1, .int .i64 a1_2, .int .i64 a1_3, .slice A1_4 l1_4.length c1_4, .slice A1_5 l1_5.length c1_5, .int .i64 a1_6, .int .i64 a1_7, .int .i64 a1_8, .int .i64 a1_9, .slice A1_10 l1_10.length c1_10, .int .u32 a1_11]) (t := 42) ?hr ?_; (case hd => rfl); (case hg => rfl); (case hr => first | (go_simp; done) | (go_simp; rfl)); intro gb267 hg w88 hbox hb; have n0_ := Aside0.mk (blk_below (bk_ BK266) hb); have n1_ := Aside0.mk (below_step bs_ hb); have n2_ := Aside0.mk (hbox); have n3_ := Aside0.mk ((by rw [hg]; exact (below_size bs_) : w.heap.size ≤ gb267)); have n4_ := Aside0.mk ((by rw [hg]; exact (below_size bs_) : w.heap.size ≤ gb267)); have n5_ := Aside0.mk ((by rw [hg]; exact Nat.ne_of_lt (blk_lt (bk_ BK266)) : gb266 ≠ gb267)); have n6_ := Aside0.mk ((by rw [hg]; exact Nat.ne_of_gt (blk_lt (bk_ BK266)) : gb267 ≠ gb266)); clear BK266 HB; have BK266 := n0_; have HB := n1_; have BK267 := n2_; have GW267 := n3_; have GE267 := n4_; have NB266_267 := n5_; have NB267_266 := n6_; clear n0_ n1_ n2_ n3_ n4_ n5_ n6_; clear hb hbox hg) | ((with_reducible refine gate_dst (N := 4) rfl ?_); refine box_event ?hg (N := 4) ?hd (cs := #[.slice none 0 0, .bool false]) (t := 25) ?hr ?_; (case hd => rfl); (case hg => rfl); (case hr => first | (go_simp; done) | (go_simp; rfl)); intro gb268 hg w89 hbox hb; have n0_ := Aside0.mk (blk_below (bk_ BK266) hb); have n1_ := Aside0.mk (blk_below (bk_ BK267) hb); have n2_ := Aside0.mk (below_step bs_ hb); have n3_ := Aside0.mk (hbox); have n4_ := Aside0.mk ((by rw [hg]; exact (below_size bs_) : w.heap.size ≤ gb268)); have n5_ := Aside0.mk ((by rw [hg]; exact (below_size bs_) : w.heap.size ≤ gb268)); have n6_ := Aside0.mk ((by rw [hg]; exact Nat.ne_of_lt (blk_lt (bk_ BK266)) : gb266 ≠ gb268)); have n7_ := Aside0.mk ((by rw [hg]; exact Nat.ne_of_gt (blk_lt (bk_ BK266)) : gb268 ≠ gb266)); have n8_ := Aside0.mk ((by rw [hg]; exact Nat.ne_of_lt (blk_lt (bk_ BK267)) : gb267 ≠ gb268)); have n9_ := Aside0.mk ((by rw [hg]; exact Nat.ne_of_gt (blk_lt (bk_ BK267)) : gb268 ≠ gb267)); clear BK266 BK267 HB; have BK266 := n0_; have BK267 := n1_; have HB := n2_; have BK268 := n3_; have GW268 := n4_; have GE268 := n5_; have NB266_268 := n6_; have NB268_266 := n7_; have NB267_268 := n8_; have NB268_267 := n9_; clear n0_ n1_ n2_ n3_ n4_ n5_ n6_ n7_ n8_ n9_; clear hb hbox hg) | ((with_reducible refine gate_dst (N := 5) rfl ?_); refine box_event ?hg (N := 5) ?hd (cs := #[.int .i64 0, .int .i64 0, .int .i64 0, .int .i64 0, .slice none 0 0, .slice none 0 0, .int .i64 0, .int .i64 0, .int .i64 0, .int .i64 0, .slice none 0 0, .int .u32 0]) (t := 42) ?hr ?_; (case hd => rfl); (case hg => rfl); (case hr => first | (go_simp; done) | (go_simp; rfl)); intro gb269 hg w90 hbox hb; have n0_ := Aside0.mk (blk_below (bk_ BK266) hb); have n1_ := Aside0.mk (blk_below (bk_ BK267) hb); have n2_ := Aside0.mk (blk_below (bk_ BK268) hb); have n3_ := Aside0.mk (below_step bs_ hb); have n4_ := Aside0.mk (hbox); have n5_ := Aside0.mk ((by rw [hg]; exact (below_size bs_) : w.heap.size ≤ gb269)); have n6_ := Aside0.mk ((by rw [hg]; exact (below_size bs_) : w.heap.size ≤ gb269)); have n7_ := Aside0.mk ((by rw [hg]; exact Nat.ne_of_lt (blk_lt (bk_ BK266)) : gb266 ≠ gb269)); have n8_ := Aside0.mk ((by rw [hg]; exact Nat.ne_of_gt (blk_lt (bk_ BK266)) : gb269 ≠ gb266)); have n9_ := Aside0.mk ((by rw [hg]; exact Nat.ne_of_lt (blk_lt (bk_ BK267)) : gb267 ≠ gb269)); have n10_ := Aside0.mk ((by rw [hg]; exact Nat.ne_of_gt (blk_lt (bk_ BK267)) : gb269 ≠ gb267)); have n11_ := Aside0.mk ((by rw [hg]; exact Nat.ne_of_lt (blk_lt (bk_ BK268)) : gb268 ≠ gb269)); have n12_ := Aside0.mk ((by rw [hg]; exact Nat.ne_of_gt (blk_lt (bk_ BK268)) : gb269 ≠ gb268)); clear BK266 BK267 BK268 HB; have BK266 := n0_; have BK267 := n1_; have BK268 := n2_; have HB := n3_; have BK269 := n4_; have GW269 := n5_; have GE269 := n6_; have NB266_269 := n7_; have NB269_266 := n8_; have NB267_269 := n9_; have NB269_267 := n10_; have NB268_269 := n11_; have NB269_268 := n12_; clear n0_ n1_ n2_ n3_ n4_ n5_ n6_ n7_ n8_ n9_ n10_ n11_ n12_; clear hb hbox hg; have hnb91 := NB266_267.out; have hnc91 := NB267_266.out; have hnb92 := NB266_268.out; have hnc92 := NB268_266.out; have hnb93 := NB266_269.out; have hnc93 := NB269_266.out; obtain ⟨hcz94_0, hcz94_1, hfz94_0, hfz94_1⟩ := blk2 BK266) | ((with_reducible refine gate_callee (f := 10) rfl ?_); refine goesL_ (some 13) rfl rfl Try.func10 (by kernel_rfl) rfl #[.agg #[.slice A0_0 l0_0.length c0_0, .bool false]] rfl (by (try simp only [List.map_toArray, List.map_cons, List.map_nil]); first | done | rfl | (simp only [List.length_drop, List.length_take]; rfl)) ?_; (with_reducible refine (delta_May.calls kM _ _ l0_0 false true _ ?side1 ?side2 HM.out).mono ?_); (case side1 => repeat (first | exact (Kd.C_below HR0_0.out HB.out) | (with_reducible refine Kd.C_alloc ?_ _) | (with_reducible refine Kd.C_drewN ?_ _) | (with_reducible refine Kd.C_drew ?_))); (case side2 => exact HC0_0.out); rintro e w95 ⟨rfl, hb⟩; refine ⟨_, rfl, ?_⟩; have n0_ := Aside0.mk (blk_below (bk_ BK266) hb); have n1_ := Aside0.mk (blk_below (bk_ BK267) hb); have n2_ := Aside0.mk (blk_below (bk_ BK268) hb); have n3_ := Aside0.mk (blk_below (bk_ BK269) hb); have n4_ := Aside0.mk (below_step bs_ hb); clear BK266 BK267 BK268 BK269 HB; have BK266 := n0_; have BK267 := n1_; have BK268 := n2_; have BK269 := n3_; have HB := n4_; clear n0_ n1_ n2_ n3_ n4_; (try clear hb); (try clear hb2); (try clear hk); (try clear hi); obtain ⟨hcw_0, hcw_1, hfw_0, hfw_1⟩ := blk2 BK266; obtain ⟨hcs_0, hcs_1, hcs_2, hcs_3, hcs_4, hcs_5, hcs_6, hcs_7, hcs_8, hcs_9, hcs_10, hcs_11, hfs_0, hfs_1, hfs_2, hfs_3, hfs_4, hfs_5, hfs_6, hfs_7, hfs_8, hfs_9, hfs_10, hfs_11⟩ := blk12 BK267; have hnbA := NB266_267.out; have hnbB := NB267_266.out) | (go_at_call 23; (with_reducible refine (slices_Clone_uint32_uint32.calls _ _ l1_5 l1_5 _ (Kd.C_below HR5.out HB.out) HC5.out H23.out).mono ?_); rintro e wC ⟨vC, rfl, hoC, hbC⟩; have hne : ∀ g o, w95.heap[g]? = some o → some g ≠ vC.ownBlock := (fun g o h e_ => by have := Kd.R_base hoC g e_.symm; have := blk_lt h; omega); have m1 := Aside0.mk (blk_below BK266.out hbC); have m2 := Aside0.mk (blk_below BK267.out hbC); have m3 := Aside0.mk (blk_below BK268.out hbC); have m4 := Aside0.mk (blk_below BK269.out hbC); have m5 := Aside0.mk (below_step HB.out hbC); have m6 := Aside0.mk (Kd.R_lower hoC (below_size HB.out)); have m7 := Aside0.mk (hne _ _ BK266.out); have m8 := Aside0.mk (hne _ _ BK267.out); have m9 := Aside0.mk (hne _ _ BK268.out); have m10 := Aside0.mk (hne _ _ BK269.out); clear hne BK266 BK267 BK268 BK269 HB hoC hbC; have BK266 := m1; have BK267 := m2; have BK268 := m3; have BK269 := m4; have HB := m5; have HOC := m6; have HNC := m7; have HNC7 := m8; have HNC8 := m9; have HNC9 := m10; clear m1 m2 m3 m4 m5 m6 m7 m8 m9 m10) | (go_at_call 28; (with_reducible refine (del_func w _ vC l1_5 l0_0 A0_0 c0_0 gb266 (.bool false) (fun _ => True) HL0.out HL5.out HOC.out BK266.out HNC.out HR0.out HC0.out HB.out).mono ?_); rintro e wD ⟨vD, rfl, hvD, hoD, hbD, hkD⟩; obtain ⟨AD, cD, hvE, _, _⟩ := Kd.R_reads hoD; subst hvE; have m2 := Aside0.mk ((hkD gb267 (blk_lt BK267.out) HNC7.out).trans BK267.out); have m3 := Aside0.mk ((hkD gb268 (blk_lt BK268.out) HNC8.out).trans BK268.out); have m4 := Aside0.mk ((hkD gb269 (blk_lt BK269.out) HNC9.out).trans BK269.out); have m5 := Aside0.mk hbD; have HOD := Aside0.mk hoD; clear BK266 BK267 BK268 BK269 HB HOC HNC HNC7 HNC8 HNC9 hvD hoD hbD hkD; have BK267 := m2; have BK268 := m3; have BK269 := m4; have HB := m5; clear m2 m3 m4 m5; obtain ⟨hcd_0, hcd_1, hcd_2, hcd_3, hcd_4, hcd_5, hcd_6, hcd_7, hcd_8, hcd_9, hcd_10, hcd_11, hfd_0, hfd_1, hfd_2, hfd_3, hfd_4, hfd_5, hfd_6, hfd_7, hfd_8, hfd_9, hfd_10, hfd_11⟩ := blk12 BK267) | (go_at_call 30; (with_reducible refine (clone63n _ _ l1_10.length ws63 _ HWL63.out (Kd.C_below HWC63.out (below_set HB.out GW267.out)) HL10.out).mono ?_); rintro e wE ⟨AE, cE, sE, rfl, hcE, hAE, hsE, hleE, hoE, hbE⟩; obtain ⟨N, hN⟩ : ∃ N, N = (wD.setCell ⟨gb267, 5, none⟩ (.slice AD (keepL l0_0 l1_5).length cD)).heap.size := ⟨_, rfl⟩; have m1 := Aside0.mk (show wE.heap[gb267]? = some (.cells #[.int .i64 a1_0, .int .i64 a1_1, .int .i64 a1_2, .int .i64 a1_3, .slice A1_4 l1_4.length c1_4, .slice AD (keepL l0_0 l1_5).length cD, .int .i64 a1_6, .int .i64 a1_7, .int .i64 a1_8, .int .i64 a1_9, .slice A1_10 l1_10.length c1_10, .int .u32 a1_11] 42 (0, 0)) from blk_below (blk_put BK267.out 5 _ rfl) hbE); have m2 := Aside0.mk (blk_below (blk_far BK268.out NB268_267.out (.slice AD (keepL l0_0 l1_5).length cD)) hbE); have m3 := Aside0.mk (blk_below (blk_far BK269.out NB269_267.out (.slice AD (keepL l0_0 l1_5).length cD)) hbE); have m4 := Aside0.mk (below_step (below_set HB.out GW267.out) hbE); have m5 := Aside0.mk (show Kd.R (Kd.int .u32) 27 wE w.heap.size (fun k => k < N) (.slice AD (keepL l0_0 l1_5).length cD) (keepL l0_0 l1_5) from (by rw [hN]; exact Kd.R_below (Kd.R_mono (Kd.R_bound (Kd.R_set HOD.out BK267.out (by decide) 5 _)) (fun k hk => hk.2.2.1)) hbE)); have m6 := Aside0.mk (show gb267 < N ∧ gb268 < N ∧ gb269 < N ∧ w.heap.size ≤ N ∧ N ≤ wE.heap.size from (by rw [hN]; exact ⟨blk_lt (blk_put BK267.out 5 _ rfl), blk_lt (blk_far BK268.out NB268_267.out _), blk_lt (blk_far BK269.out NB269_267.out _), below_size (below_set HB.out GW267.out), hbE.size⟩)); rw [← hN] at hleE hoE; have HOE := Aside0.mk hoE; have HSE := Aside0.mk (And.intro hAE (And.intro hsE hleE)); have HCE := Aside0.mk hcE; clear BK267 BK268 BK269 HB HOD hN hAE hsE hleE hoE hbE hcE; have BK267 := m1; have BK268 := m2; have BK269 := m3; have HB := m4; have HOD := m5; have HNN := m6; clear m1 m2 m3 m4 m5 m6; obtain ⟨hcd_0, hcd_1, hcd_2, hcd_3, hcd_4, hcd_5, hcd_6, hcd_7, hcd_8, hcd_9, hcd_10, hcd_11, hfd_0, hfd_1, hfd_2, hfd_3, hfd_4, hfd_5, hfd_6, hfd_7, hfd_8, hfd_9, hfd_10, hfd_11⟩ := blk12 BK267))
        clear hnb91 hnc91 hnb92 hnc92 hnb93 hnc93 hcz94_0 hcz94_1 hfz94_0 hfz94_1 hcw_0 hcw_1 hfw_0 hfw_1 hcs_0 hcs_1 hcs_2 hcs_3 hcs_4 hcs_5 hcs_6 hcs_7 hcs_8 hcs_9 hcs_10 hcs_11 hfs_0 hfs_1 hfs_2 hfs_3 hfs_4 hfs_5 hfs_6 hfs_7 hfs_8 hfs_9 hfs_10 hfs_11 hnbA hnbB hcd_0 hcd_1 hcd_2 hcd_3 hcd_4 hcd_5 hcd_6 hcd_7 hcd_8 hcd_9 hcd_10 hcd_11 hfd_0 hfd_1 hfd_2 hfd_3 hfd_4 hfd_5 hfd_6 hfd_7 hfd_8 hfd_9 hfd_10 hfd_11
        go_loopg [38] l1_10.length (fun kq v_ w' => ∃ (i : Nat) (ws : List (List Value)) (f : Nat → Nat), v_ = .int .i64 (i : Int) ∧ i ≤ l1_10.length ∧ Aside0 (kq + i = l1_10.length) ∧ Aside0 ((Kd.raw 2).R 63 w' N (fun _ => True) (.slice AE l1_10.length cE) ws) ∧ Aside0 (Mix (fun x : S63 => .int .u32 x.f0) (fun x : S63 => x.f1) (Kd.int .u32) 27 l1_10 w w' N sE i f ws) ∧ Aside0 (w'.heap[gb267]? = some (.cells #[.int .i64 a1_0, .int .i64 a1_1, .int .i64 a1_2, .int .i64 a1_3, .slice A1_4 l1_4.length c1_4, .slice AD (keepL l0_0 l1_5).length cD, .int .i64 a1_6, .int .i64 a1_7, .int .i64 a1_8, .int .i64 a1_9, .slice AE l1_10.length cE, .int .u32 a1_11] 42 (0, 0))) ∧ Aside0 (w'.heap[gb268]? = some (.cells #[.slice none 0 0, .bool false] 25 (0, 0))) ∧ Aside0 (w'.heap[gb269]? = some (.cells #[.int .i64 0, .int .i64 0, .int .i64 0, .int .i64 0, .slice none 0 0, .slice none 0 0, .int .i64 0, .int .i64 0, .int .i64 0, .int .i64 0, .slice none 0 0, .int .u32 0] 42 (0, 0))) ∧ Aside0 (Below w.heap.size w w') ∧ Aside0 (Kd.R (Kd.int .u32) 27 w' w.heap.size (fun k => k < N) (.slice AD (keepL l0_0 l1_5).length cD) (keepL l0_0 l1_5)) ∧ Aside0 (0 < l1_10.length → sE < w'.heap.size) ∧ Aside0 (N ≤ w'.heap.size))
        case atStart => exact ⟨0, ws63, fun _ => 0, rfl, Nat.zero_le _, ⟨by omega⟩, ⟨Kd.R_set HOE.out BK267.out (by decide) 10 _⟩, ⟨HWM63.out _ _ _ _⟩, ⟨blk_put BK267.out 10 _ rfl⟩, ⟨blk_far BK268.out NB268_267.out _⟩, ⟨blk_far BK269.out NB269_267.out _⟩, ⟨below_set HB.out GW267.out⟩, ⟨Kd.R_set HOD.out BK267.out (by decide) 10 _⟩, ⟨fun h => by rw [put_size]; exact (HSE.out.1 h).2⟩, ⟨by rw [put_size]; exact HNN.out.2.2.2.2⟩⟩
        case round =>
          clear HOE BK267 BK268 BK269 HB HOD
          obtain ⟨i, ws, f, rfl, hi, HKQ, HOE, HMX, BK267, BK268, BK269, HB, HOD, HSW, HNW⟩ := hrel
          by_cases hlt : i < l1_10.length
          · obtain ⟨x, hx⟩ : ∃ x, l1_10[i]? = some x := ⟨_, List.getElem?_eq_getElem hlt⟩
            obtain ⟨A1, c1, hwi, hc1, hC1⟩ := HMX.out.2.2 i x hx (Nat.le_refl _)
            have hAE := (HSE.out.1 (by omega)).1
            subst hAE
            obtain ⟨hce_0, hce_1, hfe_0, hfe_1, _, _⟩ := raw_cells HOE.out hlt hwi
            have HWI := Aside0.mk hwi
            have HC1 := Aside0.mk hc1
            have HR1 := Aside0.mk hC1
            have HX := Aside0.mk hx
            have HL1 := Aside0.mk (show x.f1.length ≤ 100000 from by have h1 := HF.out; simp only [fewPut, Bool.and_eq_true, List.all_eq_true, decide_eq_true_eq] at h1; exact h1.2.2.2.2.2 x (List.mem_of_getElem? hx))
            have H23x := Aside0.mk (show slices_Clone_uint32_uint32.f x.f1 = some x.f1 from by unfold slices_Clone_uint32_uint32.f; rw [if_pos HL1.out])
            have HSL := Aside0.mk (HSW.out (by omega))
            have HWS := Aside0.mk (show ws.length = l1_10.length from HMX.out.1)
            clear hwi hc1 hC1 hx
            cases gk with
            | zero => exact absurd HKQ.out (by omega)
            | succ k1 =>
              have hh_0 : (0 : Int) ≤ (i : Int) := by omega
              have hh_1 : (i : Int) < (l1_10.length : Int) := by omega
              go_wp2_with (first | ((with_reducible refine gate_dst (N := 8) rfl ?_); refine box_event ?hg (N := 8) ?hd (cs := #[.int .u32 0, .slice none 0 0]) (t := 63) ?hr ?_; (case hd => rfl); (case hg => rfl); (case hr => first | (go_simp; done) | (go_simp; rfl)); intro g8 hg w8 hbox hb; have HB8 := Aside0.mk hb; have BK8 := Aside0.mk hbox; have HG8 := Aside0.mk (Nat.le_of_eq hg.symm); clear hb hbox hg; obtain ⟨hc8_0, hc8_1, hf8_0, hf8_1⟩ := blk2 BK8))
              have HBW := Aside0.mk (below_drew1 (below_set (below_set HB8.out HG8.out (j := 0) (v := .int .u32 x.f0)) HG8.out (j := 1) (v := .slice A1 x.f1.length c1)))
              have n1_ := Aside0.mk (Kd.R_below HOE.out HBW.out)
              have n2_ := Aside0.mk (mix_below HMX.out HBW.out)
              have n3_ := Aside0.mk (blk_below BK267.out HBW.out)
              have n4_ := Aside0.mk (blk_below BK268.out HBW.out)
              have n5_ := Aside0.mk (blk_below BK269.out HBW.out)
              have n6_ := Aside0.mk (below_step HB.out HBW.out)
              have n7_ := Aside0.mk (Kd.R_below HOD.out HBW.out)
              have n8_ := Aside0.mk (Nat.lt_of_lt_of_le HSL.out HBW.out.size)
              have n9_ := Aside0.mk (Nat.le_trans HNW.out HBW.out.size)
              have n10_ := Aside0.mk (blk_drew (blk_put (blk_put BK8.out 0 (.int .u32 x.f0) rfl) 1 (.slice A1 x.f1.length c1) rfl))
              have n11_ := Aside0.mk (Nat.ne_of_lt (Nat.lt_of_lt_of_le HSL.out HG8.out))
              clear HOE HMX BK267 BK268 BK269 HB HOD HSL HNW HSW BK8 HG8 HB8 HBW hc8_0 hc8_1 hf8_0 hf8_1 hce_0 hce_1 hfe_0 hfe_1
              have HOE := n1_
              have HMX := n2_
              have BK267 := n3_
              have BK268 := n4_
              have BK269 := n5_
              have HB := n6_
              have HOD := n7_
              have HSL := n8_
              have HNW := n9_
              have BK8 := n10_
              have NS8 := n11_
              clear n1_ n2_ n3_ n4_ n5_ n6_ n7_ n8_ n9_ n10_ n11_
              refine start_ (n := 10) (S := fun w' => w'.cell? ⟨gb267, 10, none⟩ = some (.slice (some ⟨sE, 0, none⟩) l1_10.length cE) ∧ w'.cell? ⟨g8, 1, none⟩ = some (.slice A1 x.f1.length c1)) (ds := [9]) #[false, false, false, false, false, false, false, false, false, false] (by kernel_rfl) rfl rfl ⟨(blk_cell BK267.out 10).trans rfl, (blk_cell BK8.out 1).trans rfl⟩ (fun hHeld => ?_); refine with_tabW put_tab10 put_bits10 (fun HT_ HW_ => ?_)
              generalize World.drew _ = W9 at HOE HMX BK267 BK268 BK269 HB HOD HSL HNW BK8 hHeld ⊢
              refine pv_ 0 (some 43) HT_ (h := ?_)
              refine pv_ 1 (some 44) HT_ (h := ?_)
              refine pv_ 3 (some 46) HT_ (h := ?_)
              refine pv_ 4 (some 47) HT_ (h := ?_)
              refine tk_ 2 (some 45) HT_ HW_ hHeld (h := ?_)
              refine tk_ 5 (some 48) HT_ HW_ hHeld (h := ?_)
              refine one_ (i := 6) (N := some 49) #[true, true, true, true, true, true, true, false, false, false] rfl rfl (one_of HT_.out (by kernel_rfl)) (by decide) (fun K hK => ?_)
              refine goes_ Try.func23 (by kernel_rfl) rfl #[.slice A1 x.f1.length c1] (by rfl) rfl rfl (by (try simp only [List.map_toArray, List.map_cons, List.map_nil]); first | done | rfl) ?_
              (with_reducible refine (slices_Clone_uint32_uint32.calls A1 c1 x.f1 x.f1 _ (Kd.C_below HR1.out HB.out) HC1.out H23x.out).mono ?_)
              rintro e wC2 ⟨vC2, rfl, hoC, hbC⟩
              refine ⟨_, rfl, ?_⟩
              obtain ⟨AV, cV, eV⟩ := Kd.R_slice hoC
              subst eV
              obtain ⟨f', hmx⟩ := mix_step HMX.out HNW.out HSL.out HX.out hoC hbC
              have n1_ := Aside0.mk (Kd.R_below HOE.out hbC)
              have n2_ := Aside0.mk hmx
              have n3_ := Aside0.mk (blk_below BK267.out hbC)
              have n4_ := Aside0.mk (blk_below BK268.out hbC)
              have n5_ := Aside0.mk (blk_below BK269.out hbC)
              have n6_ := Aside0.mk (below_step HB.out hbC)
              have n7_ := Aside0.mk (Kd.R_below HOD.out hbC)
              have n8_ := Aside0.mk (Nat.lt_of_lt_of_le HSL.out hbC.size)
              have n9_ := Aside0.mk (Nat.le_trans HNW.out hbC.size)
              have n10_ := Aside0.mk (blk_below BK8.out hbC)
              clear HOE HMX BK267 BK268 BK269 HB HOD HSL HNW BK8 hmx hoC hbC
              have HOE := n1_
              have HMX := n2_
              have BK267 := n3_
              have BK268 := n4_
              have BK269 := n5_
              have HB := n6_
              have HOD := n7_
              have HSL := n8_
              have HNW := n9_
              have BK8 := n10_
              clear n1_ n2_ n3_ n4_ n5_ n6_ n7_ n8_ n9_ n10_
              refine hK.out _ _ ⟨(blk_cell BK267.out 10).trans rfl, (blk_cell BK8.out 1).trans rfl⟩ (fun hHeld => ?_)
              clear hK K
              refine norm_ (a' := ?_) ?_ ?_
              rotate_left
              · show Act.put _ (some 49) _ = _
                simp only [Act.put, List.setIfInBounds_toArray, List.set_cons_zero, List.set_cons_succ, i64_w, i32_w]
                rfl
              refine pv_ 7 (some 50) HT_ (h := ?_)
              refine pv_ 8 (some 51) HT_ (h := ?_)
              refine last_ (i := 9) (N := none) #[true, true, true, true, true, true, true, true, true, true] rfl rfl (one_of HT_.out (by kernel_rfl)) (by decide) (fun K hK => ?_)
              obtain ⟨_, hcv_1, _, hfv_1, _, _⟩ := raw_cells HOE.out hlt HWI.out
              refine skip_ (w1 := ?_) (by rfl) rfl ?_ ?_
              rotate_left
              · go_simp
                rfl
              refine hK.out _ _ ?_
              clear hK K
              refine done_ (done_of HT_.out (by kernel_rfl)) ?_
              clear hcv_1 hfv_1
              try go_wp2
              go_roundg k1
              case measure => omega
              case rel => exact ⟨i + 1, ws.set i [.int .u32 x.f0, .slice AV x.f1.length cV], f', by rw [wrap_up_ (by have := HL10.out; omega)], by omega, ⟨by have := HKQ.out; omega⟩, ⟨raw_put HOE.out hlt HWI.out rfl⟩, ⟨mix_world HMX.out (fun k hk hks => Below.heap_setCell _ _ _ k hks)⟩, ⟨blk_far BK267.out (by show gb267 ≠ sE; have := HNN.out; have := HSE.out.2.2; omega) _⟩, ⟨blk_far BK268.out (by show gb268 ≠ sE; have := HNN.out; have := HSE.out.2.2; omega) _⟩, ⟨blk_far BK269.out (by show gb269 ≠ sE; have := HNN.out; have := HSE.out.2.2; omega) _⟩, ⟨below_set HB.out (by have := HNN.out; have := HNN.out; have := HSE.out.2.2; omega)⟩, ⟨Kd.R_far HOD.out (fun k hk => by show k ≠ sE; have := HNN.out; have := HSE.out.2.2; have := HNN.out; omega) _⟩, ⟨fun _ => by rw [put_size]; exact HSL.out⟩, ⟨by rw [put_size]; exact HNW.out⟩⟩
          · have he : i = l1_10.length := by omega
            have n1_ := Aside0.mk (mix_S rfl (fun W b ok x u h => k63_mkM W b ok x h) HOE.out (he ▸ HMX.out) HSE.out.2.1)
            obtain ⟨M, hM⟩ : ∃ M, M = wr.heap.size := ⟨_, rfl⟩
            have HS63 := Aside0.mk (show Kd.S k63 63 wr N (fun k => k < M) (.slice AE l1_10.length cE) l1_10 from by rw [hM]; exact Kd.S_mono (Kd.S_bound n1_.out) (fun k hk => hk.2.2.1))
            have HMM := Aside0.mk (show gb267 < M ∧ gb268 < M ∧ gb269 < M ∧ w.heap.size ≤ M ∧ N ≤ M from by have := HNN.out; have := HNW.out; omega)
            clear n1_ HMX HOE HSW HKQ hi
            have hdf : decide ((i : Int) < (l1_10.length : Int)) = false := decide_eq_false (by omega)
            obtain ⟨hcd_0, hcd_1, hcd_2, hcd_3, hcd_4, hcd_5, hcd_6, hcd_7, hcd_8, hcd_9, hcd_10, hcd_11, fhcd_0, fhcd_1, fhcd_2, fhcd_3, fhcd_4, fhcd_5, fhcd_6, fhcd_7, fhcd_8, fhcd_9, fhcd_10, fhcd_11⟩ := blk12 BK267
            go_wp2_with (first | (go_at_call 31; (with_reducible refine (clone61n _ _ l1_4.length ws61 _ HWL61.out (Kd.C_below HWC61.out HB.out) HL4.out).mono ?_); rintro e wF ⟨AF, cF, sF, rfl, hcF, hAF, hsF, hleF, hoF, hbF⟩; have m1 := Aside0.mk (blk_below BK267.out hbF); have m2 := Aside0.mk (blk_below BK268.out hbF); have m3 := Aside0.mk (blk_below BK269.out hbF); have m4 := Aside0.mk (below_step HB.out hbF); have m5 := Aside0.mk (Kd.R_below HOD.out hbF); have m6 := Aside0.mk (Kd.S_below HS63.out hbF); rw [← hM] at hleF hoF; have HMZ := Aside0.mk (show M ≤ wF.heap.size from by rw [hM]; exact hbF.size); have HOE := Aside0.mk hoF; have HSF := Aside0.mk (And.intro hAF (And.intro hsF hleF)); clear BK267 BK268 BK269 HB HOD HS63 hM hAF hsF hleF hoF hbF; have BK267 := m1; have BK268 := m2; have BK269 := m3; have HB := m4; have HOD := m5; have HS63 := m6; clear m1 m2 m3 m4 m5 m6; obtain ⟨_, _, _, _, hcg_4, _, _, _, _, _, _, _, _, _, _, _, hfg_4, _, _, _, _, _, _, _⟩ := blk12 BK267))
            go_loopg [63] l1_4.length (fun kq v_ w' => ∃ (i : Nat) (ws : List (List Value)) (f : Nat → Nat), v_ = .int .i64 (i : Int) ∧ i ≤ l1_4.length ∧ Aside0 (kq + i = l1_4.length) ∧ Aside0 ((Kd.raw 2).R 61 w' M (fun _ => True) (.slice AF l1_4.length cF) ws) ∧ Aside0 (Mix (fun x : S61 => .int .i64 x.f0) (fun x : S61 => x.f1) k72 72 l1_4 w w' M sF i f ws) ∧ Aside0 (w'.heap[gb267]? = some (.cells #[.int .i64 a1_0, .int .i64 a1_1, .int .i64 a1_2, .int .i64 a1_3, .slice AF l1_4.length cF, .slice AD (keepL l0_0 l1_5).length cD, .int .i64 a1_6, .int .i64 a1_7, .int .i64 a1_8, .int .i64 a1_9, .slice AE l1_10.length cE, .int .u32 a1_11] 42 (0, 0))) ∧ Aside0 (w'.heap[gb268]? = some (.cells #[.slice none 0 0, .bool false] 25 (0, 0))) ∧ Aside0 (w'.heap[gb269]? = some (.cells #[.int .i64 0, .int .i64 0, .int .i64 0, .int .i64 0, .slice none 0 0, .slice none 0 0, .int .i64 0, .int .i64 0, .int .i64 0, .int .i64 0, .slice none 0 0, .int .u32 0] 42 (0, 0))) ∧ Aside0 (Below w.heap.size w w') ∧ Aside0 (Kd.R (Kd.int .u32) 27 w' w.heap.size (fun k => k < N) (.slice AD (keepL l0_0 l1_5).length cD) (keepL l0_0 l1_5)) ∧ Aside0 (Kd.S k63 63 w' N (fun k => k < M) (.slice AE l1_10.length cE) l1_10) ∧ Aside0 (0 < l1_4.length → sF < w'.heap.size) ∧ Aside0 (M ≤ w'.heap.size))
            case atStart => exact ⟨0, ws61, fun _ => 0, rfl, Nat.zero_le _, ⟨by omega⟩, ⟨Kd.R_set HOE.out BK267.out (by decide) 4 _⟩, ⟨HWM61.out _ _ _ _⟩, ⟨blk_put BK267.out 4 _ rfl⟩, ⟨blk_far BK268.out NB268_267.out _⟩, ⟨blk_far BK269.out NB269_267.out _⟩, ⟨below_set HB.out GW267.out⟩, ⟨Kd.R_set HOD.out BK267.out (by decide) 4 _⟩, ⟨Kd.S_set HS63.out BK267.out (by decide) 4 _⟩, ⟨fun h => by rw [put_size]; exact (HSF.out.1 h).2⟩, ⟨by rw [put_size]; exact HMZ.out⟩⟩
            case round =>
              clear HOE BK267 BK268 BK269 HB HOD HS63
              obtain ⟨i, ws, f, rfl, hi, HKQ, HOE, HMX, BK267, BK268, BK269, HB, HOD, HS63, HSW, HNW⟩ := hrel
              by_cases hlt : i < l1_4.length
              · obtain ⟨x, hx⟩ : ∃ x, l1_4[i]? = some x := ⟨_, List.getElem?_eq_getElem hlt⟩
                obtain ⟨A1, c1, hwi, hc1, hC1⟩ := HMX.out.2.2 i x hx (Nat.le_refl _)
                have hAF := (HSF.out.1 (by omega)).1
                subst hAF
                obtain ⟨hce_0, hce_1, hfe_0, hfe_1, _, _⟩ := raw_cells HOE.out hlt hwi
                have HWI := Aside0.mk hwi
                have HC1 := Aside0.mk hc1
                have HR1 := Aside0.mk hC1
                have HX := Aside0.mk hx
                have HL1 := Aside0.mk (show x.f1.length ≤ 100000 from by have h1 := HF.out; simp only [fewPut, Bool.and_eq_true, List.all_eq_true, decide_eq_true_eq] at h1; exact h1.2.2.2.2.1 x (List.mem_of_getElem? hx))
                have HSL := Aside0.mk (HSW.out (by omega))
                have HWS := Aside0.mk (show ws.length = l1_4.length from HMX.out.1)
                clear hwi hc1 hC1 hx
                cases gk with
                | zero => exact absurd HKQ.out (by omega)
                | succ k1 =>
                  have hh_0 : (0 : Int) ≤ (i : Int) := by omega
                  have hh_1 : (i : Int) < (l1_4.length : Int) := by omega
                  go_wp2_with (first | ((with_reducible refine gate_dst (N := 10) rfl ?_); refine box_event ?hg (N := 10) ?hd (cs := #[.int .i64 0, .slice none 0 0]) (t := 61) ?hr ?_; (case hd => rfl); (case hg => rfl); (case hr => first | (go_simp; done) | (go_simp; rfl)); intro g8 hg w8 hbox hb; have HB8 := Aside0.mk hb; have BK8 := Aside0.mk hbox; have HG8 := Aside0.mk (Nat.le_of_eq hg.symm); clear hb hbox hg; obtain ⟨hc8_0, hc8_1, hf8_0, hf8_1⟩ := blk2 BK8))
                  have HBW := Aside0.mk (below_drew1 (below_set (below_set HB8.out HG8.out (j := 0) (v := .int .i64 x.f0)) HG8.out (j := 1) (v := .slice A1 x.f1.length c1)))
                  have n1_ := Aside0.mk (Kd.R_below HOE.out HBW.out)
                  have n2_ := Aside0.mk (mix_below HMX.out HBW.out)
                  have n3_ := Aside0.mk (blk_below BK267.out HBW.out)
                  have n4_ := Aside0.mk (blk_below BK268.out HBW.out)
                  have n5_ := Aside0.mk (blk_below BK269.out HBW.out)
                  have n6_ := Aside0.mk (below_step HB.out HBW.out)
                  have n7_ := Aside0.mk (Kd.R_below HOD.out HBW.out)
                  have n12_ := Aside0.mk (Kd.S_below HS63.out HBW.out)
                  have n8_ := Aside0.mk (Nat.lt_of_lt_of_le HSL.out HBW.out.size)
                  have n9_ := Aside0.mk (Nat.le_trans HNW.out HBW.out.size)
                  have n10_ := Aside0.mk (blk_drew (blk_put (blk_put BK8.out 0 (.int .i64 x.f0) rfl) 1 (.slice A1 x.f1.length c1) rfl))
                  have n11_ := Aside0.mk (Nat.ne_of_lt (Nat.lt_of_lt_of_le HSL.out HG8.out))
                  clear HOE HMX BK267 BK268 BK269 HB HOD HS63 HSL HNW HSW BK8 HG8 HB8 HBW hc8_0 hc8_1 hf8_0 hf8_1 hce_0 hce_1 hfe_0 hfe_1
                  have HOE := n1_
                  have HMX := n2_
                  have BK267 := n3_
                  have BK268 := n4_
                  have BK269 := n5_
                  have HB := n6_
                  have HOD := n7_
                  have HS63 := n12_
                  clear n12_
                  have HSL := n8_
                  have HNW := n9_
                  have BK8 := n10_
                  have NS8 := n11_
                  clear n1_ n2_ n3_ n4_ n5_ n6_ n7_ n8_ n9_ n10_ n11_
                  refine start_ (n := 10) (S := fun w' => w'.cell? ⟨gb267, 4, none⟩ = some (.slice (some ⟨sF, 0, none⟩) l1_4.length cF) ∧ w'.cell? ⟨g8, 1, none⟩ = some (.slice A1 x.f1.length c1)) (ds := [9]) #[false, false, false, false, false, false, false, false, false, false] (by kernel_rfl) rfl rfl ⟨(blk_cell BK267.out 4).trans rfl, (blk_cell BK8.out 1).trans rfl⟩ (fun hHeld => ?_); refine with_tabW put_tab16 put_bits10 (fun HT_ HW_ => ?_)
                  generalize World.drew _ = W9 at HOE HMX BK267 BK268 BK269 HB HOD HS63 HSL HNW BK8 hHeld ⊢
                  refine pv_ 0 (some 68) HT_ (h := ?_)
                  refine pv_ 1 (some 69) HT_ (h := ?_)
                  refine pv_ 3 (some 71) HT_ (h := ?_)
                  refine pv_ 4 (some 72) HT_ (h := ?_)
                  refine tk_ 2 (some 70) HT_ HW_ hHeld (h := ?_)
                  refine tk_ 5 (some 73) HT_ HW_ hHeld (h := ?_)
                  refine one_ (i := 6) (N := some 74) #[true, true, true, true, true, true, true, false, false, false] rfl rfl (one_of HT_.out (by kernel_rfl)) (by decide) (fun K hK => ?_)
                  refine goes_ Try.func32 (by kernel_rfl) rfl #[.slice A1 x.f1.length c1] (by rfl) rfl rfl (by (try simp only [List.map_toArray, List.map_cons, List.map_nil]); first | done | rfl) ?_
                  (with_reducible refine (clone72k A1 c1 x.f1 _ (Kd.C_below HR1.out HB.out) HL1.out).mono ?_)
                  rintro e wC2 ⟨vC2, rfl, hoC, hbC⟩
                  refine ⟨_, rfl, ?_⟩
                  obtain ⟨AV, cV, eV⟩ := Kd.R_slice hoC
                  subst eV
                  obtain ⟨f', hmx⟩ := mix_step HMX.out HNW.out HSL.out HX.out hoC hbC
                  have n1_ := Aside0.mk (Kd.R_below HOE.out hbC)
                  have n2_ := Aside0.mk hmx
                  have n3_ := Aside0.mk (blk_below BK267.out hbC)
                  have n4_ := Aside0.mk (blk_below BK268.out hbC)
                  have n5_ := Aside0.mk (blk_below BK269.out hbC)
                  have n6_ := Aside0.mk (below_step HB.out hbC)
                  have n7_ := Aside0.mk (Kd.R_below HOD.out hbC)
                  have n12_ := Aside0.mk (Kd.S_below HS63.out hbC)
                  have n8_ := Aside0.mk (Nat.lt_of_lt_of_le HSL.out hbC.size)
                  have n9_ := Aside0.mk (Nat.le_trans HNW.out hbC.size)
                  have n10_ := Aside0.mk (blk_below BK8.out hbC)
                  clear HOE HMX BK267 BK268 BK269 HB HOD HS63 HSL HNW BK8 hmx hoC hbC
                  have HOE := n1_
                  have HMX := n2_
                  have BK267 := n3_
                  have BK268 := n4_
                  have BK269 := n5_
                  have HB := n6_
                  have HOD := n7_
                  have HS63 := n12_
                  clear n12_
                  have HSL := n8_
                  have HNW := n9_
                  have BK8 := n10_
                  clear n1_ n2_ n3_ n4_ n5_ n6_ n7_ n8_ n9_ n10_
                  refine hK.out _ _ ⟨(blk_cell BK267.out 4).trans rfl, (blk_cell BK8.out 1).trans rfl⟩ (fun hHeld => ?_)
                  clear hK K
                  refine norm_ (a' := ?_) ?_ ?_
                  rotate_left
                  · show Act.put _ (some 74) _ = _
                    simp only [Act.put, List.setIfInBounds_toArray, List.set_cons_zero, List.set_cons_succ, i64_w, i32_w]
                    rfl
                  refine pv_ 7 (some 75) HT_ (h := ?_)
                  refine pv_ 8 (some 76) HT_ (h := ?_)
                  refine last_ (i := 9) (N := none) #[true, true, true, true, true, true, true, true, true, true] rfl rfl (one_of HT_.out (by kernel_rfl)) (by decide) (fun K hK => ?_)
                  obtain ⟨_, hcv_1, _, hfv_1, _, _⟩ := raw_cells HOE.out hlt HWI.out
                  refine skip_ (w1 := ?_) (by rfl) rfl ?_ ?_
                  rotate_left
                  · go_simp
                    rfl
                  refine hK.out _ _ ?_
                  clear hK K
                  refine done_ (done_of HT_.out (by kernel_rfl)) ?_
                  clear hcv_1 hfv_1
                  try go_wp2
                  go_roundg k1
                  case measure => omega
                  case rel => exact ⟨i + 1, ws.set i [.int .i64 x.f0, .slice AV x.f1.length cV], f', by rw [wrap_up_ (by have := HL4.out; omega)], by omega, ⟨by have := HKQ.out; omega⟩, ⟨raw_put HOE.out hlt HWI.out rfl⟩, ⟨mix_world HMX.out (fun k hk hks => Below.heap_setCell _ _ _ k hks)⟩, ⟨blk_far BK267.out (by show gb267 ≠ sF; have := HMM.out; have := HSF.out.2.2; omega) _⟩, ⟨blk_far BK268.out (by show gb268 ≠ sF; have := HMM.out; have := HSF.out.2.2; omega) _⟩, ⟨blk_far BK269.out (by show gb269 ≠ sF; have := HMM.out; have := HSF.out.2.2; omega) _⟩, ⟨below_set HB.out (by have := HNN.out; have := HMM.out; have := HSF.out.2.2; omega)⟩, ⟨Kd.R_far HOD.out (fun k hk => by show k ≠ sF; have := HMM.out; have := HSF.out.2.2; have := HNN.out; omega) _⟩, ⟨Kd.S_far HS63.out (fun k hk => by show k ≠ sF; have := HSF.out.2.2; omega) _⟩, ⟨fun _ => by rw [put_size]; exact HSL.out⟩, ⟨by rw [put_size]; exact HNW.out⟩⟩
              · have he : i = l1_4.length := by omega
                have n1_ := Aside0.mk (mix_S rfl (fun W b ok x u h => k61_mkM W b ok x h) HOE.out (he ▸ HMX.out) HSF.out.2.1)
                have n2_ := Aside0.mk (show Kd.S k63 63 wr N (fun k => N ≤ k) (.slice AE l1_10.length cE) l1_10 from Kd.S_mono (Kd.S_bound HS63.out) (fun k hk => hk.2.1))
                clear HOE HMX HS63 HSW HKQ hi
                have HS61 := n1_
                have HS63 := n2_
                clear n1_ n2_
                have hdf2 : decide ((i : Int) < (l1_4.length : Int)) = false := decide_eq_false (by omega)
                clear hcg_4 hfg_4
                try go_wp2
                have n1_ := Aside0.mk (Kd.S_drew HS61.out)
                have n2_ := Aside0.mk (Kd.S_drew HS63.out)
                have n3_ := Aside0.mk (blk_drew BK267.out)
                have n4_ := Aside0.mk (blk_drew BK268.out)
                have n5_ := Aside0.mk (blk_drew BK269.out)
                have n6_ := Aside0.mk (below_drew1 HB.out)
                have n7_ := Aside0.mk (Kd.R_drew HOD.out)
                clear HS61 HS63 BK267 BK268 BK269 HB HOD
                have HS61 := n1_
                have HS63 := n2_
                have BK267 := n3_
                have BK268 := n4_
                have BK269 := n5_
                have HB := n6_
                have HOD := n7_
                clear n1_ n2_ n3_ n4_ n5_ n6_ n7_
                refine start_ (n := 5) (S := fun w' => w'.cell? ⟨gb267, 0, none⟩ = some (.int .i64 a1_0) ∧ w'.cell? ⟨gb267, 1, none⟩ = some (.int .i64 a1_1) ∧ w'.cell? ⟨gb267, 2, none⟩ = some (.int .i64 a1_2) ∧ w'.cell? ⟨gb267, 3, none⟩ = some (.int .i64 a1_3) ∧ w'.cell? ⟨gb267, 4, none⟩ = some (.slice AF l1_4.length cF) ∧ w'.cell? ⟨gb267, 5, none⟩ = some (.slice AD (keepL l0_0 l1_5).length cD) ∧ w'.cell? ⟨gb267, 6, none⟩ = some (.int .i64 a1_6) ∧ w'.cell? ⟨gb267, 7, none⟩ = some (.int .i64 a1_7) ∧ w'.cell? ⟨gb267, 8, none⟩ = some (.int .i64 a1_8) ∧ w'.cell? ⟨gb267, 9, none⟩ = some (.int .i64 a1_9) ∧ w'.cell? ⟨gb267, 10, none⟩ = some (.slice AE l1_10.length cE) ∧ w'.cell? ⟨gb267, 11, none⟩ = some (.int .u32 a1_11)) (ds := []) #[false, false, false, false, false] (by kernel_rfl) rfl rfl ⟨(blk_cell BK267.out 0).trans rfl, (blk_cell BK267.out 1).trans rfl, (blk_cell BK267.out 2).trans rfl, (blk_cell BK267.out 3).trans rfl, (blk_cell BK267.out 4).trans rfl, (blk_cell BK267.out 5).trans rfl, (blk_cell BK267.out 6).trans rfl, (blk_cell BK267.out 7).trans rfl, (blk_cell BK267.out 8).trans rfl, (blk_cell BK267.out 9).trans rfl, (blk_cell BK267.out 10).trans rfl, (blk_cell BK267.out 11).trans rfl⟩ (fun hHeld => ?_)
                generalize wr.drew = w71 at HS61 HS63 BK267 BK268 BK269 HB HOD hHeld ⊢
                refine pure_ (i := 0) (N := some 78) (v := ?_) (a' := ?_) #[true, false, false, false, false] rfl rfl (by kernel_rfl) (fun _ _ _ h => h) (Or.inl ⟨by rfl, ?_⟩) ?_ ?_
                rotate_left
                · intro w'
                  go_simp
                  with_reducible rfl
                rotate_left
                · simp only [Act.put, List.setIfInBounds_toArray, List.set_cons_zero, List.set_cons_succ, i64_w, i32_w]
                  rfl
                refine take_ (i := 1) (N := some 79) (v := ?_) (a' := ?_) #[true, true, false, false, false] rfl rfl (by kernel_rfl) (fun _ _ _ h => h) (Or.inl ⟨by rfl, ?_⟩) hHeld ?_ ?_
                rotate_left
                · rintro w' ⟨s0, s1, s2, s3, s4, s5, s6, s7, s8, s9, s10, s11⟩
                  go_simp
                  with_reducible rfl
                rotate_left
                · simp only [Act.put, List.setIfInBounds_toArray, List.set_cons_zero, List.set_cons_succ, i64_w, i32_w]
                  rfl
                refine one_ (i := 2) (N := none) #[true, true, true, false, false] rfl rfl (by kernel_rfl) (by decide) (fun K hK => ?_)
                obtain ⟨hu_0, hu_1, hv_0, hv_1⟩ := blk2 BK268
                refine skip_ (w1 := ?_) (by rfl) rfl ?_ ?_
                rotate_left
                · go_simp
                  rfl
                refine hK.out _ _ ⟨(cfar2 NB267_268.out hHeld.1), (cfar2 NB267_268.out hHeld.2.1), (cfar2 NB267_268.out hHeld.2.2.1), (cfar2 NB267_268.out hHeld.2.2.2.1), (cfar2 NB267_268.out hHeld.2.2.2.2.1), (cfar2 NB267_268.out hHeld.2.2.2.2.2.1), (cfar2 NB267_268.out hHeld.2.2.2.2.2.2.1), (cfar2 NB267_268.out hHeld.2.2.2.2.2.2.2.1), (cfar2 NB267_268.out hHeld.2.2.2.2.2.2.2.2.1), (cfar2 NB267_268.out hHeld.2.2.2.2.2.2.2.2.2.1), (cfar2 NB267_268.out hHeld.2.2.2.2.2.2.2.2.2.2.1), (cfar2 NB267_268.out hHeld.2.2.2.2.2.2.2.2.2.2.2)⟩ (fun hHeld => ?_)
                clear hK K hu_0 hu_1 hv_0 hv_1
                refine one_ (i := 3) (N := none) #[true, true, true, true, false] rfl rfl (by kernel_rfl) (by decide) (fun K hK => ?_)
                have hn1_ := NB268_269.out
                have hn2_ := NB269_268.out
                obtain ⟨hu_0, hu_1, hu_2, hu_3, hu_4, hu_5, hu_6, hu_7, hu_8, hu_9, hu_10, hu_11, fhu_0, fhu_1, fhu_2, fhu_3, fhu_4, fhu_5, fhu_6, fhu_7, fhu_8, fhu_9, fhu_10, fhu_11⟩ := blk12 BK269
                refine skip_ (w1 := ?_) (by rfl) rfl ?_ ?_
                rotate_left
                · go_simp
                  rfl
                refine hK.out _ _ ⟨(cfar12 NB267_269.out hHeld.1), (cfar12 NB267_269.out hHeld.2.1), (cfar12 NB267_269.out hHeld.2.2.1), (cfar12 NB267_269.out hHeld.2.2.2.1), (cfar12 NB267_269.out hHeld.2.2.2.2.1), (cfar12 NB267_269.out hHeld.2.2.2.2.2.1), (cfar12 NB267_269.out hHeld.2.2.2.2.2.2.1), (cfar12 NB267_269.out hHeld.2.2.2.2.2.2.2.1), (cfar12 NB267_269.out hHeld.2.2.2.2.2.2.2.2.1), (cfar12 NB267_269.out hHeld.2.2.2.2.2.2.2.2.2.1), (cfar12 NB267_269.out hHeld.2.2.2.2.2.2.2.2.2.2.1), (cfar12 NB267_269.out hHeld.2.2.2.2.2.2.2.2.2.2.2)⟩ (fun hHeld => ?_)
                clear hK K hn1_ hn2_
                clear hu_0 hu_1 hu_2 hu_3 hu_4 hu_5 hu_6 hu_7 hu_8 hu_9 hu_10 hu_11 fhu_0 fhu_1 fhu_2 fhu_3 fhu_4 fhu_5 fhu_6 fhu_7 fhu_8 fhu_9 fhu_10 fhu_11
                refine pure_ (i := 4) (N := some 6) (v := ?_) (a' := ?_) #[true, true, true, true, true] rfl rfl (by kernel_rfl) (fun _ _ _ h => h) (Or.inl ⟨by rfl, ?_⟩) ?_ ?_
                rotate_left
                · intro w'
                  go_simp
                  with_reducible rfl
                rotate_left
                · simp only [Act.put, List.setIfInBounds_toArray, List.set_cons_zero, List.set_cons_succ, i64_w, i32_w]
                  rfl
                refine done_ (by kernel_rfl) ?_
                clear hHeld
                try go_wp2
                refine bodyPost_ret (results_list (rs := [.cell 4 25, .cell 5 42, .tmp 6]) rfl (by simp) (.cell gb268 25 #[.slice none 0 0, .bool false] (0, 0) _ rfl (bp_ BK268) Try.underlying25 rfl (by kernel_rfl) (.cell gb269 42 #[.int .i64 a1_0, .int .i64 a1_1, .int .i64 a1_2, .int .i64 a1_3, .slice AF l1_4.length cF, .slice AD (keepL l0_0 l1_5).length cD, .int .i64 a1_6, .int .i64 a1_7, .int .i64 a1_8, .int .i64 a1_9, .slice AE l1_10.length cE, .int .u32 a1_11] (0, 0) _ rfl (bp_ BK269) Try.underlying42 rfl (by kernel_rfl) (.tmp .nil)))) rfl ?_
                have hN1 := HOD.out.1
                have q61 := Kd.S_types (Kd.S_types HS61.out BK268.out (by decide)) BK269.out (by decide)
                have q63 := Kd.S_types (Kd.S_types HS63.out BK268.out (by decide)) BK269.out (by decide)
                have qD := Kd.R_types (Kd.R_types HOD.out BK268.out (by decide)) BK269.out (by decide)
                refine ⟨_, _, _, _, rfl, Kd.R_nil _ _ _ _ _, ?_, ?_, ?_, ?_⟩
                · exact Kd.S_lower (Kd.S_mono (put_far12S gb269 (put_far2S gb268 q61 (fun _ hk => hk.1.2)) (fun _ hk => hk.2)) (fun _ _ => trivial)) HMM.out.2.2.2.1
                · exact Kd.R_mono (far12 gb269 (far2 gb268 qD (fun _ hk => hk.1.2)) (fun _ hk => hk.2)) (fun _ hk => by simp [Value.ownBlock])
                · exact Kd.S_lower (Kd.S_mono (put_far12S gb269 (put_far2S gb268 q63 (fun _ hk => hk.1.2)) (fun _ hk => hk.2)) (fun k hk => ⟨by simp [Value.ownBlock], fun e => absurd (hN1 k e.symm) (Nat.not_lt.2 hk.1.1)⟩)) HNN.out.2.2.2.1
                · repeat (first | (with_reducible first | exact HB.out | apply below_alloc | apply pw_below_drewN | apply below_drew1 | refine below_set ?_ GE266.out | refine below_set ?_ GE267.out | refine below_set ?_ GE268.out | refine below_set ?_ GE269.out) | exact HB.out)
    · rw [if_neg hm] at h
      simp only [Bool.not_eq_true] at hm
      rw [hm] at HM
      simp only [Option.some.injEq, Prod.mk.injEq] at h
      obtain ⟨rfl, rfl, rfl, rfl, rfl, rfl, rfl, rfl, rfl, rfl, rfl, rfl, rfl, rfl, rfl⟩ := h
      go_enter Try.func18, Try.ntmps18
      go_wp2_with (first | ((with_reducible refine gate_dst (N := 2) rfl ?_); refine box_event ?hg (N := 2) ?hd (cs := #[.slice A0_0 l0_0.length c0_0, .bool a0_1]) (t := 25) ?hr ?_; (case hd => rfl); (case hg => rfl); (case hr => first | (go_simp; done) | (go_simp; rfl)); intro gb266 hg w87 hbox hb; have n0_ := Aside0.mk (below_step bs_ hb); have n1_ := Aside0.mk (hbox); have n2_ := Aside0.mk ((by rw [hg]; exact (below_size bs_) : w.heap.size ≤ gb266)); have n3_ := Aside0.mk ((by rw [hg]; exact (below_size bs_) : w.heap.size ≤ gb266)); clear HB; have HB := n0_; have BK266 := n1_; have GW266 := n2_; have GE266 := n3_; clear n0_ n1_ n2_ n3_; clear hb hbox hg) | ((with_reducible refine gate_dst (N := 3) rfl ?_); refine box_event ?hg (N := 3) ?hd (cs := #[.int .i64 a1_0, .int .i64 a1_1, .int .i64 a1_2, .int .i64 a1_3, .slice A1_4 l1_4.length c1_4, .slice A1_5 l1_5.length c1_5, .int .i64 a1_6, .int .i64 a1_7, .int .i64 a1_8, .int .i64 a1_9, .slice A1_10 l1_10.length c1_10, .int .u32 a1_11]) (t := 42) ?hr ?_; (case hd => rfl); (case hg => rfl); (case hr => first | (go_simp; done) | (go_simp; rfl)); intro gb267 hg w88 hbox hb; have n0_ := Aside0.mk (blk_below (bk_ BK266) hb); have n1_ := Aside0.mk (below_step bs_ hb); have n2_ := Aside0.mk (hbox); have n3_ := Aside0.mk ((by rw [hg]; exact (below_size bs_) : w.heap.size ≤ gb267)); have n4_ := Aside0.mk ((by rw [hg]; exact (below_size bs_) : w.heap.size ≤ gb267)); have n5_ := Aside0.mk ((by rw [hg]; exact Nat.ne_of_lt (blk_lt (bk_ BK266)) : gb266 ≠ gb267)); have n6_ := Aside0.mk ((by rw [hg]; exact Nat.ne_of_gt (blk_lt (bk_ BK266)) : gb267 ≠ gb266)); clear BK266 HB; have BK266 := n0_; have HB := n1_; have BK267 := n2_; have GW267 := n3_; have GE267 := n4_; have NB266_267 := n5_; have NB267_266 := n6_; clear n0_ n1_ n2_ n3_ n4_ n5_ n6_; clear hb hbox hg) | ((with_reducible refine gate_dst (N := 4) rfl ?_); refine box_event ?hg (N := 4) ?hd (cs := #[.slice none 0 0, .bool false]) (t := 25) ?hr ?_; (case hd => rfl); (case hg => rfl); (case hr => first | (go_simp; done) | (go_simp; rfl)); intro gb268 hg w89 hbox hb; have n0_ := Aside0.mk (blk_below (bk_ BK266) hb); have n1_ := Aside0.mk (blk_below (bk_ BK267) hb); have n2_ := Aside0.mk (below_step bs_ hb); have n3_ := Aside0.mk (hbox); have n4_ := Aside0.mk ((by rw [hg]; exact (below_size bs_) : w.heap.size ≤ gb268)); have n5_ := Aside0.mk ((by rw [hg]; exact (below_size bs_) : w.heap.size ≤ gb268)); have n6_ := Aside0.mk ((by rw [hg]; exact Nat.ne_of_lt (blk_lt (bk_ BK266)) : gb266 ≠ gb268)); have n7_ := Aside0.mk ((by rw [hg]; exact Nat.ne_of_gt (blk_lt (bk_ BK266)) : gb268 ≠ gb266)); have n8_ := Aside0.mk ((by rw [hg]; exact Nat.ne_of_lt (blk_lt (bk_ BK267)) : gb267 ≠ gb268)); have n9_ := Aside0.mk ((by rw [hg]; exact Nat.ne_of_gt (blk_lt (bk_ BK267)) : gb268 ≠ gb267)); clear BK266 BK267 HB; have BK266 := n0_; have BK267 := n1_; have HB := n2_; have BK268 := n3_; have GW268 := n4_; have GE268 := n5_; have NB266_268 := n6_; have NB268_266 := n7_; have NB267_268 := n8_; have NB268_267 := n9_; clear n0_ n1_ n2_ n3_ n4_ n5_ n6_ n7_ n8_ n9_; clear hb hbox hg) | ((with_reducible refine gate_dst (N := 5) rfl ?_); refine box_event ?hg (N := 5) ?hd (cs := #[.int .i64 0, .int .i64 0, .int .i64 0, .int .i64 0, .slice none 0 0, .slice none 0 0, .int .i64 0, .int .i64 0, .int .i64 0, .int .i64 0, .slice none 0 0, .int .u32 0]) (t := 42) ?hr ?_; (case hd => rfl); (case hg => rfl); (case hr => first | (go_simp; done) | (go_simp; rfl)); intro gb269 hg w90 hbox hb; have n0_ := Aside0.mk (blk_below (bk_ BK266) hb); have n1_ := Aside0.mk (blk_below (bk_ BK267) hb); have n2_ := Aside0.mk (blk_below (bk_ BK268) hb); have n3_ := Aside0.mk (below_step bs_ hb); have n4_ := Aside0.mk (hbox); have n5_ := Aside0.mk ((by rw [hg]; exact (below_size bs_) : w.heap.size ≤ gb269)); have n6_ := Aside0.mk ((by rw [hg]; exact (below_size bs_) : w.heap.size ≤ gb269)); have n7_ := Aside0.mk ((by rw [hg]; exact Nat.ne_of_lt (blk_lt (bk_ BK266)) : gb266 ≠ gb269)); have n8_ := Aside0.mk ((by rw [hg]; exact Nat.ne_of_gt (blk_lt (bk_ BK266)) : gb269 ≠ gb266)); have n9_ := Aside0.mk ((by rw [hg]; exact Nat.ne_of_lt (blk_lt (bk_ BK267)) : gb267 ≠ gb269)); have n10_ := Aside0.mk ((by rw [hg]; exact Nat.ne_of_gt (blk_lt (bk_ BK267)) : gb269 ≠ gb267)); have n11_ := Aside0.mk ((by rw [hg]; exact Nat.ne_of_lt (blk_lt (bk_ BK268)) : gb268 ≠ gb269)); have n12_ := Aside0.mk ((by rw [hg]; exact Nat.ne_of_gt (blk_lt (bk_ BK268)) : gb269 ≠ gb268)); clear BK266 BK267 BK268 HB; have BK266 := n0_; have BK267 := n1_; have BK268 := n2_; have HB := n3_; have BK269 := n4_; have GW269 := n5_; have GE269 := n6_; have NB266_269 := n7_; have NB269_266 := n8_; have NB267_269 := n9_; have NB269_267 := n10_; have NB268_269 := n11_; have NB269_268 := n12_; clear n0_ n1_ n2_ n3_ n4_ n5_ n6_ n7_ n8_ n9_ n10_ n11_ n12_; clear hb hbox hg; have hnb91 := NB266_267.out; have hnc91 := NB267_266.out; have hnb92 := NB266_268.out; have hnc92 := NB268_266.out; have hnb93 := NB266_269.out; have hnc93 := NB269_266.out; obtain ⟨hcz94_0, hcz94_1, hfz94_0, hfz94_1⟩ := blk2 BK266) | ((with_reducible refine gate_callee (f := 10) rfl ?_); refine goesL_ (some 13) rfl rfl Try.func10 (by kernel_rfl) rfl #[.agg #[.slice A0_0 l0_0.length c0_0, .bool a0_1]] rfl (by (try simp only [List.map_toArray, List.map_cons, List.map_nil]); first | done | rfl | (simp only [List.length_drop, List.length_take]; rfl)) ?_; (with_reducible refine (delta_May.calls kM _ _ l0_0 a0_1 false _ ?side1 ?side2 HM.out).mono ?_); (case side1 => repeat (first | exact (Kd.C_below HR0_0.out HB.out) | (with_reducible refine Kd.C_alloc ?_ _) | (with_reducible refine Kd.C_drewN ?_ _) | (with_reducible refine Kd.C_drew ?_))); (case side2 => exact HC0_0.out); rintro e w95 ⟨rfl, hb⟩; refine ⟨_, rfl, ?_⟩; have n0_ := Aside0.mk (blk_below (bk_ BK266) hb); have n1_ := Aside0.mk (blk_below (bk_ BK267) hb); have n2_ := Aside0.mk (blk_below (bk_ BK268) hb); have n3_ := Aside0.mk (blk_below (bk_ BK269) hb); have n4_ := Aside0.mk (below_step bs_ hb); clear BK266 BK267 BK268 BK269 HB; have BK266 := n0_; have BK267 := n1_; have BK268 := n2_; have BK269 := n3_; have HB := n4_; clear n0_ n1_ n2_ n3_ n4_; (try clear hb); (try clear hb2); (try clear hk); (try clear hi); have hnb96 := NB268_267.out; have hnc96 := NB267_268.out; have hnb97 := NB268_269.out; have hnc97 := NB269_268.out; obtain ⟨hcz98_0, hcz98_1, hfz98_0, hfz98_1⟩ := blk2 BK268; have hnb99 := NB269_267.out; have hnc99 := NB267_269.out; obtain ⟨hcz100_0, hcz100_1, hcz100_2, hcz100_3, hcz100_4, hcz100_5, hcz100_6, hcz100_7, hcz100_8, hcz100_9, hcz100_10, hcz100_11, hfz100_0, hfz100_1, hfz100_2, hfz100_3, hfz100_4, hfz100_5, hfz100_6, hfz100_7, hfz100_8, hfz100_9, hfz100_10, hfz100_11⟩ := blk12 BK269))
      refine bodyPost_ret (results_list (rs := [.cell 4 25, .cell 5 42, .tmp 6]) rfl (by simp) (.cell gb268 25 #[.slice none 0 0, .bool false] (0, 0) _ rfl (bp_ BK268) Try.underlying25 rfl (by kernel_rfl) (.cell gb269 42 #[.int .i64 0, .int .i64 0, .int .i64 0, .int .i64 0, .slice none 0 0, .slice none 0 0, .int .i64 0, .int .i64 0, .int .i64 0, .int .i64 0, .slice none 0 0, .int .u32 0] (0, 0) _ rfl (bp_ BK269) Try.underlying42 rfl (by kernel_rfl) (.tmp .nil)))) rfl ?_
      exact ⟨_, _, _, _, by first | rfl | (simp [errW_none, errW_some] <;> rfl) | (simp [*, errW_none, errW_some] <;> rfl), by first | exact Kd.R_nil _ _ _ _ _ | exact Kd.N_nil _ _ _ _ _ | exact Kd.V_nil _ _ _ _ _ | exact Kd.Q_nil _ _ _ _ _ | exact Kd.S_nil _ _ _ _ _, by first | exact Kd.S_nil _ _ _ _ _ | exact Kd.N_nil _ _ _ _ _ | exact Kd.V_nil _ _ _ _ _ | exact Kd.Q_nil _ _ _ _ _ | exact Kd.R_nil _ _ _ _ _, by first | exact Kd.R_nil _ _ _ _ _ | exact Kd.N_nil _ _ _ _ _ | exact Kd.V_nil _ _ _ _ _ | exact Kd.Q_nil _ _ _ _ _ | exact Kd.S_nil _ _ _ _ _, by first | exact Kd.S_nil _ _ _ _ _ | exact Kd.N_nil _ _ _ _ _ | exact Kd.V_nil _ _ _ _ _ | exact Kd.Q_nil _ _ _ _ _ | exact Kd.R_nil _ _ _ _ _, by repeat (first | (with_reducible first | exact HB.out | apply below_alloc | apply pw_below_drewN | apply below_drew1 | refine below_set ?_ GE266.out | refine below_set ?_ GE267.out | refine below_set ?_ GE268.out | refine below_set ?_ GE269.out) | exact HB.out)⟩
  · rw [if_neg hf] at h; cases h
end Go.Proofs.Ytlboachgeepadaa.P
