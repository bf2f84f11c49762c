/- slices.Grow of the nil slice answers an empty row of the call's own. -/
import Derived.Test.YtoehingbhmaidaaPx0
import Derived.Lib.Hide
namespace Go.Proofs.Ytoehingbhmaidaa.P
open Go.RowKit Go.Proofs.YtoehingbhmaidaaW.PrintWords Go.Proofs.YtoehingbhmaidaaW.PrintLast Go.Proofs.YtoehingbhmaidaaW.PrintMore
set_option linter.unusedVariables false
set_option linter.unusedSimpArgs false

def api_Link_35.f (a1 : Int) : Option (List S26) := if 0 ≤ a1 ∧ a1 ≤ 1000000 then some [] else none
theorem growInfo26 : (Try.prog.info? 26).map (fun i => (i.zero, i.size, i.bytes)) = some (some (.agg #[.int .i64 0, .int .i64 0]), 2, 16) := by kernel_rfl
set_option maxHeartbeats 1000000 in
set_option maxRecDepth 100000 in
theorem api_Link_35.calls (a1 : Int) (r : List S26) (w : World) (h : api_Link_35.f a1 = some r) :
    Calls Try.prog 35 #[.slice none 0 0, .int .i64 a1] w fun e w' => ∃ v0_ : Value, e = .returned v0_ ∧ Kd.R k26 26 w' w.heap.size (fun _ => True) v0_ r ∧ Below w.heap.size w w' := by
  unfold api_Link_35.f at h
  by_cases hl : 0 ≤ a1 ∧ a1 ≤ 1000000
  · rw [if_pos hl] at h
    obtain rfl := Option.some.inj h
    clear h
    obtain ⟨h0, h1⟩ := hl
    have HB := Aside0.mk (Below.refl w.heap.size w)
    by_cases hz : 0 < a1
    · go_enter Try.func35, Try.ntmps35
      obtain ⟨i0, hi0, _⟩ := Option.map_eq_some_iff.1 growInfo26
      have hcut := cut_to (P := Try.prog) 22 26 .i64 Try.underlying22 hi0 none 0 0 0 (by omega) (by omega) (by omega)
      go_wp2_with (first | ((with_reducible refine gate_builtin (b := .append) (xs := #[.tmp 20, .tmp 21]) rfl ?_); at_builtin; refine Kd.R_append_zeros k26 (w0 := w) w.heap.size rfl (.tmp 20) (.tmp 21) 22 3 26 (.agg #[.int .i64 0, .int .i64 0]) 16 rfl Try.underlying22 Try.underlying3 growInfo26 rfl (by decide) (by omega) (.slice none 0 0) ([] : List S26) z26 a1 (fun _ => True) rfl rfl (k26_mkM _ _ _ z26) (fun _ _ => trivial) (Kd.R_nil _ _ _ _ _) h0 (Below.refl _ _) (Nat.le_refl _) ?aL ?_; (case aL => simp only [List.length_nil]; omega); intro v1 w1 ho hb hg hat; obtain ⟨A1, c1, rfl⟩ := Kd.R_slice ho; have HO1 := Aside0.mk ho; have HB1 := Aside0.mk hb; have hcut1 := cut_to (P := Try.prog) 22 26 .i64 Try.underlying22 hi0 A1 _ c1 0 (by omega) (Int.natCast_nonneg _) (Kd.R_reads' ho).2.1; clear ho hb hg hat))
      go_ret
      exact ⟨_, rfl, by simpa using Kd.R_take (m := 0) HO1.out (Nat.zero_le _), HB1.out⟩
    · have e0 : a1 = 0 := by omega
      subst e0
      go_enter Try.func35, Try.ntmps35
      go_wp2
      go_ret
      exact ⟨_, rfl, Kd.R_nil _ _ _ _ _, HB.out⟩
  · rw [if_neg hl] at h
    cases h
end Go.Proofs.Ytoehingbhmaidaa.P
