/- What epoch.own answers: the same, with a row of its own; copy, of elements of more than one cell. -/
import Derived.Test.YtipnfcicpnmggaaPx0
import Derived.Laws.IdiomCopy
namespace Go.Proofs.Ytipnfcicpnmggaa.P
open Go.RowKit Go.Proofs.YtipnfcicpnmggaaW.PrintWords Go.Proofs.YtipnfcicpnmggaaW.PrintLast Go.Proofs.YtipnfcicpnmggaaW.PrintMore
set_option linter.unusedVariables false
theorem run_copy_sized {P : Program} (w : World) (dT sT ty elem : TypeId) (b o dLen dCap : Nat) (a : Addr) (sLen sCap n size : Nat) (cs : List Value)
    (hu : P.underlying dT = some (.slice elem)) (hs : (P.info? elem).map (·.size) = some size) (hn : n = Nat.min sLen dLen) (hcs : cs.length = n * size)
    (hsrc : ∀ j v, cs[j]? = some v → w.cell? (a.add j) = some v) (hc : ∀ j, j < cs.length → (w.cell? ⟨b, o + j, none⟩).isSome = true) (hf : ∀ j, j < cs.length → w.frozen? ⟨b, o + j, none⟩ = false) (h1 : ∀ v ∈ cs, v.oneCell' = true) :
    (Builtin.copy_ #[dT, sT] ty #[.slice (some ⟨b, o, none⟩) dLen dCap, .slice (some a) sLen sCap]).run P w = .ok (goInt n) (w.setCells b o cs) := by
  have hl := run_loadCells_list (P := P) w a cs hsrc
  have hst := run_storeCells_cells (P := P) b o cs 0 w (by simpa using hc) (by simpa using hf) h1
  cases hq : P.info? elem with
  | none => simp [hq] at hs
  | some i =>
    have hi : i.size = size := by simpa [hq] using hs
    simp [Builtin.copy_, run_underlying hu, Builtin.lenOf, Builtin.firstCells, sizeOf, typeInfo, hq, hi, ← hn, ← hcs, hl, hst]
/-- A block's cells, all written anew. -/
theorem setCells_block {w : World} {b : Nat} {t : TypeId} : ∀ (vs pre post : List Value), post.length = vs.length → w.heap[b]? = some (.cells (pre ++ post).toArray t (0, 0)) → (w.setCells b pre.length vs).heap[b]? = some (.cells (pre ++ vs).toArray t (0, 0)) := by
  intro vs
  induction vs generalizing w with
  | nil =>
    intro pre post hl h
    have : post = [] := List.length_eq_zero_iff.1 hl
    subst this
    exact h
  | cons v r ih =>
    intro pre post hl h
    cases post with
    | nil => simp at hl
    | cons p q =>
      have hb : (w.setCell ⟨b, pre.length, none⟩ v).heap[b]? = some (.cells ((pre ++ [v]) ++ q).toArray t (0, 0)) := by
        simp [World.setCell, Array.getElem?_modify, h]
      have := ih (w := w.setCell ⟨b, pre.length, none⟩ v) (pre ++ [v]) q (by simpa using hl) hb
      simpa [World.setCells] using this
def epoch_own.f (a0_0 : Int) (a0_1 : Int) (a0_2 : Int) (a0_3 : Int) (a0_4 : Int) (l0_5 : List S43) : Option (Int × Int × Int × Int × Int × List S43) := if l0_5.length ≤ 100000 then some (a0_0, a0_1, a0_2, a0_3, a0_4, l0_5) else none
theorem run_copy_none2 {P : Program} (w : World) (dT sT ty elem : TypeId) (d a : Option Addr) (dLen dCap sLen sCap size : Nat) (hu : P.underlying dT = some (.slice elem)) (hs : (P.info? elem).map (·.size) = some size) (hn : Nat.min sLen dLen = 0) :
    (Builtin.copy_ #[dT, sT] ty #[.slice d dLen dCap, .slice a sLen sCap]).run P w = .ok (goInt 0) w := by
  cases hq : P.info? elem with
  | none => simp [hq] at hs
  | some i =>
    have hl : ∀ (x : Addr), (loadCells x 0).run P w = .ok #[] w := fun x => by simpa using run_loadCells_list (P := P) w x [] (by simp)
    cases d <;> cases a <;> simp [Builtin.copy_, run_underlying hu, Builtin.lenOf, Builtin.firstCells, sizeOf, typeInfo, hq, hn, storeCells, hl]
theorem setCells_other (b g : Nat) (h : g ≠ b) : ∀ (vs : List Value) (o : Nat) (w : World), (w.setCells b o vs).heap[g]? = w.heap[g]? := by
  intro vs
  induction vs with
  | nil => intro o w; rfl
  | cons v r ih =>
    intro o w
    exact (ih (o + 1) _).trans (Below.heap_setCell w ⟨b, o, none⟩ v g h)
theorem setCells_below (b base : Nat) (w0 : World) (h : base ≤ b) : ∀ (vs : List Value) (o : Nat) (w : World), Below base w0 w → Below base w0 (w.setCells b o vs) := by
  intro vs
  induction vs with
  | nil => intro o w hb; exact hb
  | cons v r ih =>
    intro o w hb
    exact ih (o + 1) _ (hb.setCell h _)
theorem size43 : (Try.prog.info? 43).map (·.size) = some 2 := by kernel_rfl
/-- The cells of a row of the kind, all written anew: a row of one's own. -/
theorem row_own (W : World) (b base : Nat) (l : List S43) (inner : List Value) (hb : base ≤ b) (hl : l.length ≤ 100000) (hr : Reps (k43.K W) 2 l inner) (hh : W.heap[b]? = some (.cells inner.toArray 43 (0, 0))) :
    Kd.R k43 43 W base (fun k => k = b) (.slice (some ⟨b, 0, none⟩) l.length l.length) l := by
  refine ⟨fun k hk => ?_, inner, ⟨?_, .inr ⟨b, l.length, inner.toArray, rfl, hb, hh, Nat.le_refl _, ?_, ?_, ?_⟩⟩, ?_⟩
  · simp [Value.ownBlock] at hk; exact hk.symm
  · exact hr.1
  · simp [maxLen]; omega
  · exact List.size_toArray.trans hr.1
  · rw [show l.length * k43.sz = inner.length from hr.1.symm]; simp
  · refine hr.imp_ (fun p c hp => ?_)
    obtain rfl := k43_open hp
    exact k43_mkM _ _ _ _
/-- What a copy of a row does, in a world whose last block is a new one. -/
theorem copy_row (W : World) (base : Nat) (A : Option Addr) (c : Nat) (l : List S43) (cs : Array Value) (b : Nat) (hlt : base ≤ b) (hl : l.length ≤ 100000) (hC : Kd.C k43 W A l.length l) (hb : W.heap[b]? = some (.cells cs 43 (0, 0))) (hcs : cs.size = l.length * 2) :
    ∃ W4 : World, (Builtin.copy_ #[23, 23] 3 #[.slice (some ⟨b, 0, none⟩) l.length l.length, .slice A l.length c]).run Try.prog W = .ok (.int .i64 (l.length : Int)) W4 ∧ (∀ g, g ≠ b → W4.heap[g]? = W.heap[g]?) ∧ Kd.R k43 43 W4 base (fun k => k = b) (.slice (some ⟨b, 0, none⟩) l.length l.length) l ∧ Below base W W4 := by
  have hmin : Nat.min l.length l.length = l.length := by simp
  rcases Nat.eq_zero_or_pos l.length with h0 | h0
  · obtain rfl : l = [] := List.eq_nil_of_length_eq_zero h0
    refine ⟨W, ?_, fun _ _ => rfl, ?_, Below.refl _ _⟩
    · rw [run_copy_none2 W 23 23 3 43 _ A _ _ _ c 2 Try.underlying23 size43 (by simp)]
      rfl
    · have he : cs = #[] := Array.eq_empty_of_size_eq_zero (by simpa using hcs)
      subst he
      exact row_own W b base [] [] hlt hl (Reps.none _ _) hb
  · obtain ⟨ad, rfl, _⟩ := hC.2.2 h0
    obtain ⟨inner, hr, hcell⟩ := ReadsRow.inner_ hC
    have hlen : inner.length = l.length * 2 := hr.1
    have h1 : ∀ v ∈ inner, v.oneCell' = true := by
      intro v hv
      obtain ⟨q, hq, rfl⟩ := List.getElem_of_mem hv
      have hq2 : q / 2 < l.length := by omega
      have hp := hr.2 (q / 2) _ (List.getElem?_eq_getElem hq2)
      refine k43.K_one hp _ ?_
      refine List.mem_of_getElem? (i := q % 2) ?_
      rw [List.getElem?_take, if_pos (show q % 2 < k43.sz from Nat.mod_lt _ (by decide)), List.getElem?_drop, show q / 2 * k43.sz + q % 2 = q from by show q / 2 * 2 + q % 2 = q; omega]
      exact List.getElem?_eq_getElem hq
    have hW4 : (W.setCells b 0 inner).heap[b]? = some (.cells inner.toArray 43 (0, 0)) := by
      have := setCells_block (w := W) (b := b) (t := 43) inner [] cs.toList (by simpa [hlen] using hcs) (by simpa using hb)
      simpa using this
    refine ⟨W.setCells b 0 inner, ?_, ?_, ?_, ?_⟩
    · have := run_copy_sized (P := Try.prog) W 23 23 3 43 b 0 l.length l.length ad l.length c l.length 2 inner Try.underlying23 size43 hmin.symm hlen hcell (fun j hj => ?_) (fun j hj => ?_) h1
      · rw [this]; rfl
      · rw [blk_cell hb, Nat.zero_add, Array.getElem?_eq_getElem (by omega)]; rfl
      · exact blk_frozen hb _
    · exact fun g hg => setCells_other b g hg inner 0 W
    · exact row_own _ b base l inner hlt hl (hr.imp_ (fun p c hp => by obtain rfl := k43_open hp; exact k43_mk _ _)) hW4
    · exact setCells_below b base W hlt inner 0 W (Below.refl _ _)
set_option maxHeartbeats 1000000 in
set_option maxRecDepth 100000 in
theorem epoch_own.calls (a0_0 : Int) (a0_1 : Int) (a0_2 : Int) (a0_3 : Int) (a0_4 : Int) (A0_5 : Option Addr) (c0_5 : Nat) (l0_5 : List S43) (r1 : Int) (r2 : Int) (r3 : Int) (r4 : Int) (r5 : Int) (r6 : List S43) (w : World) (hr0_5 : Kd.C k43 w A0_5 l0_5.length l0_5) (hc0_5 : l0_5.length ≤ c0_5) (h : epoch_own.f a0_0 a0_1 a0_2 a0_3 a0_4 l0_5 = some (r1, r2, r3, r4, r5, r6)) :
    Calls Try.prog 27 #[.agg #[.int .i64 a0_0, .int .i64 a0_1, .int .i64 a0_2, .int .i64 a0_3, .int .i64 a0_4, .slice A0_5 l0_5.length c0_5]] w fun e w' => ∃ v5_ : Value, e = .returned (.agg #[.int .i64 r1, .int .i64 r2, .int .i64 r3, .int .i64 r4, .int .i64 r5, v5_]) ∧ Kd.R k43 43 w' w.heap.size (fun _ => True) v5_ r6 ∧ Below w.heap.size w w' := by
  have hu25 := Try.underlying25
  have HR0 := Aside0.mk hr0_5
  unfold epoch_own.f at h
  by_cases hl : l0_5.length ≤ 100000
  · rw [if_pos hl] at h
    simp only [Option.some.injEq, Prod.mk.injEq] at h
    obtain ⟨rfl, rfl, rfl, rfl, rfl, rfl⟩ := h
    obtain ⟨i0, hi0, hz0, hz1, hz2⟩ := info_parts info43
    have hmk : ∀ W : World, (Instr.makeSlice 23 (.int .i64 (l0_5.length : Int)) (.int .i64 (l0_5.length : Int))).run Try.prog W = .ok (.slice (some ⟨W.heap.size, 0, none⟩) l0_5.length l0_5.length) (W.alloc (.cells (madeCells #[.int .i64 0, .int .i64 0] (l0_5.length * 2)) 43)) := fun W => by
      have := run_makeSlice (P := Try.prog) W 23 43 i0 _ Try.underlying23 hi0 hz0 .i64 .i64 (l0_5.length : Int) (l0_5.length : Int) (by omega) (by omega) (by rw [hz1]; simp; omega) (by rw [hz2]; omega) (by omega)
      rw [hz1] at this
      simpa [Value.cells] using this
    obtain ⟨W4, hcp, hW, hR, hBW⟩ : ∃ W4 : World, (Builtin.copy_ #[23, 23] 3 #[.slice (some ⟨w.heap.size + 1 + 1, 0, none⟩) l0_5.length l0_5.length, .slice A0_5 l0_5.length c0_5]).run Try.prog (((w.alloc (.cells #[.int .i64 a0_0, .int .i64 a0_1, .int .i64 a0_2, .int .i64 a0_3, .int .i64 a0_4, .slice A0_5 l0_5.length c0_5] 25)).alloc (.cells #[.int .i64 0, .int .i64 0, .int .i64 0, .int .i64 0, .int .i64 0, .slice none 0 0] 25)).alloc (.cells (madeCells #[.int .i64 0, .int .i64 0] (l0_5.length * 2)) 43)) = .ok (.int .i64 (l0_5.length : Int)) W4 ∧ (W4.heap[w.heap.size]? = some (.cells #[.int .i64 a0_0, .int .i64 a0_1, .int .i64 a0_2, .int .i64 a0_3, .int .i64 a0_4, .slice A0_5 l0_5.length c0_5] 25 (0, 0)) ∧ W4.heap[w.heap.size + 1]? = some (.cells #[.int .i64 0, .int .i64 0, .int .i64 0, .int .i64 0, .int .i64 0, .slice none 0 0] 25 (0, 0))) ∧ Kd.R k43 43 W4 w.heap.size (fun k => k = w.heap.size + 1 + 1) (.slice (some ⟨w.heap.size + 1 + 1, 0, none⟩) l0_5.length l0_5.length) l0_5 ∧ Below w.heap.size w W4 := by
      have hb1 := below_alloc (Below.refl w.heap.size w) (.cells #[.int .i64 a0_0, .int .i64 a0_1, .int .i64 a0_2, .int .i64 a0_3, .int .i64 a0_4, .slice A0_5 l0_5.length c0_5] 25 (0, 0))
      have hb2 := below_alloc hb1 (.cells #[.int .i64 0, .int .i64 0, .int .i64 0, .int .i64 0, .int .i64 0, .slice none 0 0] 25 (0, 0))
      have hb3 := below_alloc hb2 (.cells (madeCells #[.int .i64 0, .int .i64 0] (l0_5.length * 2)) 43 (0, 0))
      have hnew := blk_new ((w.alloc (.cells #[.int .i64 a0_0, .int .i64 a0_1, .int .i64 a0_2, .int .i64 a0_3, .int .i64 a0_4, .slice A0_5 l0_5.length c0_5] 25 (0, 0))).alloc (.cells #[.int .i64 0, .int .i64 0, .int .i64 0, .int .i64 0, .int .i64 0, .slice none 0 0] 25 (0, 0))) (.cells (madeCells #[.int .i64 0, .int .i64 0] (l0_5.length * 2)) 43 (0, 0))
      rw [World.size_alloc, World.size_alloc] at hnew
      obtain ⟨W4, h1, h2, h3, h4⟩ := copy_row _ w.heap.size A0_5 c0_5 l0_5 _ (w.heap.size + 1 + 1) (by omega) hl (Kd.C_below HR0.out hb3) hnew (size_madeCells _ _)
      refine ⟨W4, h1, ⟨?_, ?_⟩, h3, hb3.trans h4⟩
      · exact (h2 _ (by omega)).trans (blk_alloc (blk_alloc (blk_new _ _) _) _)
      · refine (h2 _ (by omega)).trans (blk_alloc ?_ _)
        have := blk_new (w.alloc (.cells #[.int .i64 a0_0, .int .i64 a0_1, .int .i64 a0_2, .int .i64 a0_3, .int .i64 a0_4, .slice A0_5 l0_5.length c0_5] 25 (0, 0))) (.cells #[.int .i64 0, .int .i64 0, .int .i64 0, .int .i64 0, .int .i64 0, .slice none 0 0] 25 (0, 0))
        rwa [World.size_alloc] at this
    have hc0 := fun i => blk_cell hW.1 i
    have hc1 := fun i => blk_cell hW.2 i
    have hcz0_0 : W4.cell? ⟨w.heap.size, 0, none⟩ = some (.int .i64 a0_0) := (blk_cell hW.1 0).trans rfl
    have hcz0_1 : W4.cell? ⟨w.heap.size, 1, none⟩ = some (.int .i64 a0_1) := (blk_cell hW.1 1).trans rfl
    have hcz0_2 : W4.cell? ⟨w.heap.size, 2, none⟩ = some (.int .i64 a0_2) := (blk_cell hW.1 2).trans rfl
    have hcz0_3 : W4.cell? ⟨w.heap.size, 3, none⟩ = some (.int .i64 a0_3) := (blk_cell hW.1 3).trans rfl
    have hcz0_4 : W4.cell? ⟨w.heap.size, 4, none⟩ = some (.int .i64 a0_4) := (blk_cell hW.1 4).trans rfl
    have hcz0_5 : W4.cell? ⟨w.heap.size, 5, none⟩ = some (.slice A0_5 l0_5.length c0_5) := (blk_cell hW.1 5).trans rfl
    have hf0 : ∀ i, W4.frozen? ⟨w.heap.size, i, none⟩ = false := blk_frozen hW.1
    have hf1 : ∀ i, W4.frozen? ⟨w.heap.size + 1, i, none⟩ = false := blk_frozen hW.2
    have hcz1_0 : W4.cell? ⟨w.heap.size + 1, 0, none⟩ = some (.int .i64 0) := (blk_cell hW.2 0).trans rfl
    have hcz1_1 : W4.cell? ⟨w.heap.size + 1, 1, none⟩ = some (.int .i64 0) := (blk_cell hW.2 1).trans rfl
    have hcz1_2 : W4.cell? ⟨w.heap.size + 1, 2, none⟩ = some (.int .i64 0) := (blk_cell hW.2 2).trans rfl
    have hcz1_3 : W4.cell? ⟨w.heap.size + 1, 3, none⟩ = some (.int .i64 0) := (blk_cell hW.2 3).trans rfl
    have hcz1_4 : W4.cell? ⟨w.heap.size + 1, 4, none⟩ = some (.int .i64 0) := (blk_cell hW.2 4).trans rfl
    have hcz1_5 : W4.cell? ⟨w.heap.size + 1, 5, none⟩ = some (.slice none 0 0) := (blk_cell hW.2 5).trans rfl
    clear hc0 hc1
    have HW := Aside0.mk hW
    have HRR := Aside0.mk hR
    have HBB := Aside0.mk hBW
    clear hW hR hBW hi0 hz0 hz1 hz2 hr0_5 hc0_5
    go_enter Try.func27, Try.ntmps27
    go_wp2
    refine bodyPost_ret (results_cell_row rfl _ _ (w.heap.size + 1) 25 #[.int .i64 a0_0, .int .i64 a0_1, .int .i64 a0_2, .int .i64 a0_3, .int .i64 a0_4, .slice (some ⟨w.heap.size + 1 + 1, 0, none⟩) l0_5.length l0_5.length] (0, 0) _ rfl (by
      refine blk_put (cs := #[.int .i64 a0_0, .int .i64 a0_1, .int .i64 a0_2, .int .i64 a0_3, .int .i64 a0_4, .slice none 0 0]) ?_ 5 _ rfl
      refine blk_put (cs := #[.int .i64 a0_0, .int .i64 a0_1, .int .i64 a0_2, .int .i64 a0_3, .int .i64 0, .slice none 0 0]) ?_ 4 _ rfl
      refine blk_put (cs := #[.int .i64 a0_0, .int .i64 a0_1, .int .i64 a0_2, .int .i64 0, .int .i64 0, .slice none 0 0]) ?_ 3 _ rfl
      refine blk_put (cs := #[.int .i64 a0_0, .int .i64 a0_1, .int .i64 0, .int .i64 0, .int .i64 0, .slice none 0 0]) ?_ 2 _ rfl
      refine blk_put (cs := #[.int .i64 a0_0, .int .i64 0, .int .i64 0, .int .i64 0, .int .i64 0, .slice none 0 0]) ?_ 1 _ rfl
      refine blk_put (cs := #[.int .i64 0, .int .i64 0, .int .i64 0, .int .i64 0, .int .i64 0, .slice none 0 0]) ?_ 0 _ rfl
      exact blk_far HW.out.2 (p := ⟨w.heap.size, 5, none⟩) (show w.heap.size + 1 ≠ w.heap.size by omega) _) Try.underlying25 rfl (by kernel_rfl)) rfl ?_
    have h1 : w.heap.size ≤ w.heap.size + 1 := by omega
    refine ⟨_, rfl, ?_, below_set (below_set (below_set (below_set (below_set (below_set (below_set HBB.out (Nat.le_refl _)) h1) h1) h1) h1) h1) h1⟩
    have hk1 : ∀ k, k = w.heap.size + 1 + 1 → k ≠ w.heap.size + 1 := fun k hk => by omega
    exact Kd.R_mono (Kd.R_far (p := ⟨w.heap.size + 1, 5, none⟩) (Kd.R_far (p := ⟨w.heap.size + 1, 4, none⟩) (Kd.R_far (p := ⟨w.heap.size + 1, 3, none⟩) (Kd.R_far (p := ⟨w.heap.size + 1, 2, none⟩) (Kd.R_far (p := ⟨w.heap.size + 1, 1, none⟩) (Kd.R_far (p := ⟨w.heap.size + 1, 0, none⟩) (Kd.R_far (p := ⟨w.heap.size, 5, none⟩) HRR.out (fun k hk => by show k ≠ w.heap.size; omega) _) hk1 _) hk1 _) hk1 _) hk1 _) hk1 _) hk1 _) (fun _ _ => trivial)
  · rw [if_neg hl] at h; cases h
end Go.Proofs.Ytipnfcicpnmggaa.P
