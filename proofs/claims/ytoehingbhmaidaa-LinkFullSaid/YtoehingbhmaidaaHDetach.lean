/- link.Detach answers the hook without one link, or why it may not be taken out. -/
import Derived.Test.YtoehingbhmaidaaSpec
import Derived.Test.YtoehingbhmaidaaHDelete
namespace Go.Proofs.Ytoehingbhmaidaa.P
open Go.RowKit Go.Proofs.Ytoehingbhmaidaa.Spec Go.Proofs.YtoehingbhmaidaaW.PrintWords Go.Proofs.YtoehingbhmaidaaW.PrintLast Go.Proofs.YtoehingbhmaidaaW.PrintMore
set_option linter.unusedVariables false
set_option linter.unusedSimpArgs false

def link_Detach.f (a0_0 : Int) (l0_1 : List S26) (a1 : Int) (a2 : Int) : Option (Int × List S26 × Int) :=
  if l0_1.length ≤ 100000 then
    (if mayE a0_0 l0_1 ⟨1, 0⟩ a2 = 0 then (if fx l0_1 a1 0 < 0 then some (0, [], 3) else some (wrap64 (a2 + 1), l0_1.eraseIdx (fx l0_1 a1 0).toNat, 0)) else some (0, [], mayE a0_0 l0_1 ⟨1, 0⟩ a2))
  else none
set_option maxHeartbeats 4000000 in
set_option maxRecDepth 100000 in
theorem link_Detach.calls (a0_0 : Int) (A0_1 : Option Addr) (c0_1 : Nat) (l0_1 : List S26) (a1 : Int) (a2 : Int) (r1 : Int) (r2 : List S26) (r3 : Int) (w : World) (hr0_1 : Kd.C k26 w A0_1 l0_1.length l0_1) (hc0_1 : l0_1.length ≤ c0_1) (h : link_Detach.f a0_0 l0_1 a1 a2 = some (r1, r2, r3)) :
    Calls Try.prog 15 #[.agg #[.int .i64 a0_0, .slice A0_1 l0_1.length c0_1], .int .i64 a1, .int .i64 a2] w fun e w' => ∃ v1_ : Value, e = .returned (.tuple #[.agg #[.int .i64 r1, v1_], .int .i64 r3]) ∧ Kd.R k26 26 w' w.heap.size (fun _ => True) v1_ r2 ∧ Below w.heap.size w w' := by
  unfold link_Detach.f at h
  by_cases hl : l0_1.length ≤ 100000
  · rw [if_pos hl] at h
    have hu24 := Try.underlying24
    have hu26 := Try.underlying26
    obtain ⟨k, hk⟩ := (maye_ev a0_0 ⟨1, 0⟩ a2 (by omega : l0_1.length ≤ 9223372036854775807)).rounds
    have hk' : link_may.f k a0_0 l0_1 1 0 a2 = some (mayE a0_0 l0_1 ⟨1, 0⟩ a2) := hk
    clear hk
    generalize mayE a0_0 l0_1 ⟨1, 0⟩ a2 = e0 at h hk'
    have HK := Aside0.mk hk'
    have HR0_1 := Aside0.mk hr0_1
    have HC0_1 := Aside0.mk hc0_1
    have HL := Aside0.mk hl
    clear hr0_1 hc0_1 hk' hl
    have HB := Aside0.mk (Below.refl w.heap.size w)
    go_enter Try.func15, Try.ntmps15
    go_wp2_with (first | ((with_reducible refine gate_dst (N := 3) rfl ?_); refine box_event ?hg (N := 3) ?hd (cs := #[.int .i64 a0_0, .slice A0_1 l0_1.length c0_1]) (t := 24) ?hr ?_; (case hd => rfl); (case hg => rfl); (case hr => first | (go_simp; done) | (go_simp; rfl)); intro g3 hg w3 hbox hb; have n0_ := Aside0.mk (below_step HB.out hb); have BK3 := Aside0.mk hbox; have GE3 := Aside0.mk (show w.heap.size ≤ g3 by rw [hg]; exact Nat.le_refl _); clear HB; have HB := n0_; clear n0_ hb hbox hg; have hc0 : w3.cell? ⟨g3, 0, none⟩ = some (.int .i64 a0_0) := (blk_cell BK3.out 0).trans rfl; have hc1 : w3.cell? ⟨g3, 1, none⟩ = some (.slice A0_1 l0_1.length c0_1) := (blk_cell BK3.out 1).trans rfl) | ((with_reducible refine gate_dst (N := 6) rfl ?_); refine box_event ?hg (N := 6) ?hd (cs := #[.int .i64 0, .slice none 0 0]) (t := 24) ?hr ?_; (case hd => rfl); (case hg => rfl); (case hr => first | (go_simp; done) | (go_simp; rfl)); intro g6 hg w6 hbox hb; have n0_ := Aside0.mk (below_step HB.out hb); have BK6 := Aside0.mk hbox; have n1_ := Aside0.mk (blk_below BK3.out hb); have GE6 := Aside0.mk (show w.heap.size ≤ g6 by rw [hg]; exact below_size HB.out); have NE := Aside0.mk (show g3 ≠ g6 by rw [hg]; exact fun e => Nat.lt_irrefl _ (e ▸ blk_lt BK3.out)); clear HB BK3 hc0 hc1; have HB := n0_; have BK3 := n1_; clear n0_ n1_ hb hbox hg; have hc0 : w6.cell? ⟨g3, 0, none⟩ = some (.int .i64 a0_0) := (blk_cell BK3.out 0).trans rfl; have hc1 : w6.cell? ⟨g3, 1, none⟩ = some (.slice A0_1 l0_1.length c0_1) := (blk_cell BK3.out 1).trans rfl))
    refine (link_may.calls k a0_0 _ _ l0_1 1 0 a2 e0 _ (Kd.C_below HR0_1.out HB.out) HC0_1.out HK.out).mono ?_
    rintro e w7 ⟨rfl, hb⟩
    have n0_ := Aside0.mk (below_step HB.out hb)
    have n1_ := Aside0.mk (blk_below BK3.out hb)
    have n2_ := Aside0.mk (blk_below BK6.out hb)
    clear HB BK3 BK6 hc0 hc1 hb
    have HB := n0_
    have BK3 := n1_
    have BK6 := n2_
    clear n0_ n1_ n2_
    have hc0 : w7.cell? ⟨g3, 0, none⟩ = some (.int .i64 a0_0) := (blk_cell BK3.out 0).trans rfl
    have hc1 : w7.cell? ⟨g3, 1, none⟩ = some (.slice A0_1 l0_1.length c0_1) := (blk_cell BK3.out 1).trans rfl
    have hd0 : w7.cell? ⟨g6, 0, none⟩ = some (.int .i64 0) := (blk_cell BK6.out 0).trans rfl
    have hd1 : w7.cell? ⟨g6, 1, none⟩ = some (.slice none 0 0) := (blk_cell BK6.out 1).trans rfl
    have hf0 := blk_frozen BK6.out 0
    have hf1 := blk_frozen BK6.out 1
    by_cases he : e0 = 0
    · rw [if_pos he] at h
      subst he
      go_wp2_with fail
      refine (link_find.calls a0_0 _ _ l0_1 a1 (fx l0_1 a1 0) _ (Kd.C_below HR0_1.out HB.out) HC0_1.out rfl).mono ?_
      rintro e w8 ⟨rfl, hb⟩
      have n0_ := Aside0.mk (below_step HB.out hb)
      have n1_ := Aside0.mk (blk_below BK3.out hb)
      have n2_ := Aside0.mk (blk_below BK6.out hb)
      clear HB BK3 BK6 hc0 hc1 hd0 hd1 hf0 hf1 hb
      have HB := n0_
      have BK3 := n1_
      have BK6 := n2_
      clear n0_ n1_ n2_
      have hc0 : w8.cell? ⟨g3, 0, none⟩ = some (.int .i64 a0_0) := (blk_cell BK3.out 0).trans rfl
      have hc1 : w8.cell? ⟨g3, 1, none⟩ = some (.slice A0_1 l0_1.length c0_1) := (blk_cell BK3.out 1).trans rfl
      have hd0 : w8.cell? ⟨g6, 0, none⟩ = some (.int .i64 0) := (blk_cell BK6.out 0).trans rfl
      have hd1 : w8.cell? ⟨g6, 1, none⟩ = some (.slice none 0 0) := (blk_cell BK6.out 1).trans rfl
      have hf0 := blk_frozen BK6.out 0
      have hf1 := blk_frozen BK6.out 1
      have HFX := Lib.hid (show fx l0_1 a1 0 < 0 ∨ ∃ j, ∃ hj : j < l0_1.length, fx l0_1 a1 0 = (j : Int) by
        by_cases hm : a1 ∈ l0_1.map (·.f0)
        · obtain ⟨j, hj, h1, _⟩ := fx_pos (i := 0) hm
          exact .inr ⟨j, hj, by rw [h1, Nat.zero_add]⟩
        · exact .inl (by rw [fx_neg hm]; decide))
      generalize fx l0_1 a1 0 = q at h HFX
      by_cases hq : q < 0
      · rw [if_pos hq] at h
        have hq0 : decide (q < 0) = true := decide_eq_true hq
        simp only [Option.some.injEq, Prod.mk.injEq] at h
        obtain ⟨rfl, rfl, rfl⟩ := h
        clear hq HFX
        go_wp2
        refine bodyPost_ret (results_ct rfl _ _ g6 24 #[.int .i64 0, .slice none 0 0] (0, 0) _ rfl (by refine blk_put (cs := #[.int .i64 0, .slice none 0 0]) ?_ 1 _ rfl; refine blk_put (cs := #[.int .i64 0, .slice none 0 0]) ?_ 0 _ rfl; exact BK6.out) Try.underlying24 rfl (by kernel_rfl)) rfl ?_
        exact ⟨_, rfl, Kd.R_nil _ _ _ _ _, by repeat (first | exact HB.out | refine below_set ?_ GE6.out)⟩
      · rw [if_neg hq] at h
        have hq0 : decide (q < 0) = false := decide_eq_false hq
        simp only [Option.some.injEq, Prod.mk.injEq] at h
        obtain ⟨rfl, rfl, rfl⟩ := h
        obtain ⟨j, hj, rfl⟩ := HFX.out.resolve_left hq
        clear hq HFX
        have hj1 : (j : Int) ≤ 100000 := by have := HL.out; omega
        go_wp2_with fail
        refine (api_Link_29.calls A0_1 _ l0_1 l0_1 _ (Kd.C_below HR0_1.out HB.out) HC0_1.out (if_pos HL.out)).mono ?_
        rintro e w9 ⟨v9, rfl, ho9, hb⟩
        have GE9 := Aside0.mk (below_size HB.out)
        have LT3 := Aside0.mk BK3.out
        have LT6 := Aside0.mk BK6.out
        have n0_ := Aside0.mk (below_step HB.out hb)
        have n1_ := Aside0.mk (blk_below BK3.out hb)
        have n2_ := Aside0.mk (blk_below BK6.out hb)
        clear HB BK3 BK6 hc0 hc1 hd0 hd1 hf0 hf1 hb
        have HB := n0_
        have BK3 := n1_
        have BK6 := n2_
        clear n0_ n1_ n2_
        have hc0 : w9.cell? ⟨g3, 0, none⟩ = some (.int .i64 a0_0) := (blk_cell BK3.out 0).trans rfl
        have hc1 : w9.cell? ⟨g3, 1, none⟩ = some (.slice A0_1 l0_1.length c0_1) := (blk_cell BK3.out 1).trans rfl
        have hd0 : w9.cell? ⟨g6, 0, none⟩ = some (.int .i64 0) := (blk_cell BK6.out 0).trans rfl
        have hd1 : w9.cell? ⟨g6, 1, none⟩ = some (.slice none 0 0) := (blk_cell BK6.out 1).trans rfl
        have hf0 := blk_frozen BK6.out 0
        have hf1 := blk_frozen BK6.out 1
        obtain ⟨g9, c9, rfl, hg9, _⟩ := Kd.R_form ho9 (by omega)
        have H9 := Aside0.mk ho9
        have HG9 := Aside0.mk hg9
        have HL9 := Aside0.mk (Kd.R_lt ho9 g9 (by simp [Value.ownBlock]))
        clear ho9 hg9
        go_wp2_with fail
        refine (delete_calls _ j H9.out hj HL.out (Nat.le_of_lt (Nat.lt_of_le_of_lt HG9.out HL9.out))).mono ?_
        rintro e w10 ⟨rfl, ho10, hg10⟩
        have n0_ := Aside0.mk (pw_below_grown HB.out (some g9) (below_size HB.out) hg10 (fun k hk => by injection hk with hk; subst hk; exact Nat.le_trans GE9.out HG9.out))
        have n1_ := Aside0.mk (blk_grown BK3.out hg10 (fun e_ => by injection e_ with e_; exact absurd (blk_lt LT3.out) (by rw [e_]; exact Nat.not_lt.2 HG9.out)))
        have n2_ := Aside0.mk (blk_grown BK6.out hg10 (fun e_ => by injection e_ with e_; exact absurd (blk_lt LT6.out) (by rw [e_]; exact Nat.not_lt.2 HG9.out)))
        have H10 := Aside0.mk (Kd.R_lower ho10 GE9.out)
        clear HB BK3 BK6 hc0 hc1 hd0 hd1 hf0 hf1 H9 ho10 hg10
        have HB := n0_
        have BK3 := n1_
        have BK6 := n2_
        clear n0_ n1_ n2_
        have hc0 : w10.cell? ⟨g3, 0, none⟩ = some (.int .i64 a0_0) := (blk_cell BK3.out 0).trans rfl
        have hc1 : w10.cell? ⟨g3, 1, none⟩ = some (.slice A0_1 l0_1.length c0_1) := (blk_cell BK3.out 1).trans rfl
        have hd0 : w10.cell? ⟨g6, 0, none⟩ = some (.int .i64 0) := (blk_cell BK6.out 0).trans rfl
        have hd1 : w10.cell? ⟨g6, 1, none⟩ = some (.slice none 0 0) := (blk_cell BK6.out 1).trans rfl
        have hf0 := blk_frozen BK6.out 0
        have hf1 := blk_frozen BK6.out 1
        go_wp2
        refine bodyPost_ret (results_ct rfl _ _ g6 24 #[.int .i64 (wrap64 (a2 + 1)), .slice (some ⟨g9, 0, none⟩) (l0_1.length - 1) c9] (0, 0) _ rfl (by refine blk_put (cs := #[.int .i64 (wrap64 (a2 + 1)), .slice none 0 0]) ?_ 1 _ rfl; refine blk_put (cs := #[.int .i64 0, .slice none 0 0]) ?_ 0 _ rfl; exact BK6.out) Try.underlying24 rfl (by kernel_rfl)) rfl ?_
        refine ⟨_, rfl, ?_, by repeat (first | exact HB.out | refine below_set ?_ GE6.out)⟩
        rw [Int.toNat_natCast]
        exact Kd.R_mono (Kd.R_far (p := ⟨g6, 1, none⟩) (Kd.R_far (p := ⟨g6, 0, none⟩) (Kd.R_types H10.out BK6.out (by decide)) (fun _ hk => hk.2) _) (fun _ hk => hk.2) _) (fun _ _ => trivial)
    · rw [if_neg he] at h
      have he0 : (e0 == 0) = false := beq_eq_false_iff_ne.2 he
      have he1 : (e0 != 0) = true := bne_iff_ne.2 he
      simp only [Option.some.injEq, Prod.mk.injEq] at h
      obtain ⟨rfl, rfl, rfl⟩ := h
      clear he
      go_wp2
      refine bodyPost_ret (results_ct rfl _ _ g6 24 #[.int .i64 0, .slice none 0 0] (0, 0) _ rfl (by refine blk_put (cs := #[.int .i64 0, .slice none 0 0]) ?_ 1 _ rfl; refine blk_put (cs := #[.int .i64 0, .slice none 0 0]) ?_ 0 _ rfl; exact BK6.out) Try.underlying24 rfl (by kernel_rfl)) rfl ?_
      exact ⟨_, rfl, Kd.R_nil _ _ _ _ _, by repeat (first | exact HB.out | refine below_set ?_ GE6.out)⟩
  · rw [if_neg hl] at h
    cases h
end Go.Proofs.Ytoehingbhmaidaa.P
