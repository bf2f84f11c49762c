/- slices.Delete of one element takes it out of a row of the call's own. -/
import Derived.Test.YtoehingbhmaidaaHClone
import Derived.Lib.Hide
namespace Go.Proofs.Ytoehingbhmaidaa.P
open Go.RowKit Go.Proofs.YtoehingbhmaidaaW.PrintWords Go.Proofs.YtoehingbhmaidaaW.PrintLast Go.Proofs.YtoehingbhmaidaaW.PrintMore
set_option linter.unusedVariables false
set_option linter.unusedSimpArgs false

theorem zero26 (w : World) : (zeroValue 26).run Try.prog w = .ok (.agg #[.int .i64 0, .int .i64 0]) w := by kernel_rfl
/-- The place behind a row is cleared: the row stays. -/
theorem clear_one {W : World} {base m c g : Nat} {ty : TypeId} {xs : List S26} (HO : Kd.R k26 26 W base (fun _ => True) (.slice (some ⟨g, 0, none⟩) m c) xs) (hm : m + 1 ≤ c) (cc : Nat) :
    ∃ w1, (Builtin.clear_ #[22] ty #[.slice (some ⟨g, m * 2, none⟩) 1 cc]).run Try.prog W = .ok (.tuple #[]) w1 ∧ Kd.R k26 26 w1 base (fun _ => True) (.slice (some ⟨g, 0, none⟩) m c) xs ∧ W.grownBy w1 (some g) := by
  obtain ⟨hn, hnc, _⟩ := Kd.R_reads' HO
  obtain ⟨hok, inner, hown, hr⟩ := HO
  rcases hown.2 with ⟨hv, _⟩ | ⟨g', cap', cur, hv, hb, hh, h1, hcm, hcs, htake⟩
  · cases hv
  injection hv with ha _ hc
  injection ha with ha
  injection ha with hg
  subst hg; subst hc
  have hsz : k26.sz = 2 := rfl
  rw [hsz] at hcs htake
  have hcell : ∀ j, j < 2 → (W.cell? ⟨g, m * 2 + j, none⟩).isSome = true := by
    intro j hj
    rw [cell_of_row W g _ cur 26 (0, 0) hh]
    simp
    omega
  have hst := run_storeCells_cells (P := Try.prog) g (m * 2) [.int .i64 0, .int .i64 0] 0 W (fun j hj => by rw [Nat.add_zero]; exact hcell j hj) (fun j _ => blk_frozen hh _) (fun v hv => by simp at hv; subst hv; rfl)
  have hzc : (Builtin.zeroCells (#[.int .i64 0, .int .i64 0] : Array Value) 1).toList = [.int .i64 0, .int .i64 0] := by kernel_rfl
  have hfit : m * 2 + ([.int .i64 0, .int .i64 0] : List Value).length ≤ cur.size := by simp; omega
  obtain ⟨cur', h3, h4, h5⟩ := setCells_row [.int .i64 0, .int .i64 0] (m * 2) W cur hh hfit
  obtain ⟨s1, s2, s3, s4⟩ := setCells_same g [.int .i64 0, .int .i64 0] (m * 2) W
  have hfar : ∀ k', k' ≠ g → (W.setCells g (m * 2) [.int .i64 0, .int .i64 0]).heap[k']? = W.heap[k']? := fun k' hk' => setCells_far _ _ k' hk'
  refine ⟨W.setCells g (m * 2) [.int .i64 0, .int .i64 0], ?_, ⟨hok, inner, ⟨hown.1, .inr ⟨g, c, cur', by rw [hn], hb, h3, h1, hcm, by rw [h4, hcs, hsz], ?_⟩⟩, ?_⟩, ⟨s1, s2, s3, by rw [s4]; exact Nat.le_refl _, fun k' _ hk' => hfar k' (fun he => hk' (by rw [he]))⟩⟩
  · simp only [Nat.add_zero] at hst
    simp [Builtin.clear_, run_underlying Try.underlying22, zero26, Value.cells, hzc, hst]
  · rw [h5, hsz, ← hn, ← htake, ← hn, List.append_assoc, List.take_append_of_le_length (by simp; omega), List.take_take, Nat.min_self]
  · exact hr.imp_ (fun p c hp => k26.M_move (fun k' hk' => hfar k' (fun he => hk'.2 (by rw [he]; simp [Value.ownBlock]))) hp)
def del5T : Bool × List (List Nat × List Nat) := (true, [([], []), ([], []), ([0, 1], [0, 1]), ([], []), ([], []), ([3, 4], [3, 4]), ([2, 5], [2, 5]), ([6, 6, 0, 1, 2, 3, 4, 5, 6], [0, 3, 6])])
def del5B : List Nat := [0, 0, 3, 0, 0, 24, 63, 127]
theorem del5tab : rtab .any (opsOf Try.f28 5) = del5T := by kernel_rfl
theorem del5bits : waitsOk del5T.2 del5B = true := by kernel_rfl
theorem del26 : (Try.prog.info? 26).map (·.size) = some k26.sz := by kernel_rfl
theorem cut_over {t e : TypeId} {i : TypeInfo} (ht : Try.prog.underlying t = some (.slice e)) (hi : Try.prog.info? e = some i) {size : Nat} (hsz : i.size = size) (A : Option Addr) (n c : Nat) (lo hi' : Int) (h0 : 0 ≤ lo) (h1 : lo ≤ hi') (h2 : hi' ≤ c) :
    ∀ W : World, (Instr.slice t (.slice A n c) (some (.int .i64 lo)) (some (.int .i64 hi')) none).run Try.prog W = .ok (.slice (if c = lo.toNat then A else A.map (·.add (lo.toNat * size))) (hi'.toNat - lo.toNat) (c - lo.toNat)) W := by
  intro W
  have hel : Try.prog.elem t = e := by simp [Program.elem, ht]
  have hu : Try.prog.underlying t = some (.slice (Try.prog.elem t)) := by rw [hel]; exact ht
  rw [run_slice_lh W t A n c hu .i64 .i64 lo hi' h0 h1 h2, hel]
  simp [sizeOf, typeInfo, hi, hsz, sliced, Result.andThen]
set_option maxHeartbeats 2000000 in
set_option maxRecDepth 100000 in
theorem delete_calls {base g n c : Nat} {xs : List S26} (w : World) (i : Nat) (HO : Kd.R k26 26 w base (fun _ => True) (.slice (some ⟨g, 0, none⟩) n c) xs) (hi : i < n) (hn : n ≤ 100000) (hbase : base ≤ w.heap.size) :
    Calls Try.prog 28 #[.slice (some ⟨g, 0, none⟩) n c, .int .i64 (i : Int), .int .i64 ((i : Int) + 1)] w fun e w' => e = .returned (.slice (some ⟨g, 0, none⟩) (n - 1) c) ∧ Kd.R k26 26 w' base (fun _ => True) (.slice (some ⟨g, 0, none⟩) (n - 1) c) (xs.eraseIdx i) ∧ w.grownBy w' (some g) := by
  have hnc : n ≤ c := (Kd.R_reads' HO).2.1
  have H0 := Aside0.mk HO
  have HBS := Aside0.mk (show base ≤ w.drew.heap.size from hbase)
  clear HO hbase
  have hne : ((i : Int) == (i : Int) + 1) = false := beq_eq_false_iff_ne.2 (by omega)
  obtain ⟨i0, hi0, hz0, hz1, hz2⟩ := info_parts cloneInfo26
  have hcut0 := cut_to (P := Try.prog) 22 26 .i64 Try.underlying22 hi0 (some ⟨g, 0, none⟩) n c (i : Int) (by omega) (by omega) hnc
  have hcut1 := cut_from (P := Try.prog) 22 26 .i64 Try.underlying22 hi0 2 hz1 (some ⟨g, 0, none⟩) n c ((i : Int) + 1) (by omega) (by omega)
  rw [Int.toNat_natCast] at hcut0
  rw [show ((i : Int) + 1).toNat = i + 1 from by omega] at hcut1
  have hcut2 := cut_over Try.underlying22 hi0 hz1 (some ⟨g, 0, none⟩) (n - 1) c (((n - 1 : Nat)) : Int) (n : Int) (by omega) (by omega) (by omega)
  rw [Int.toNat_natCast, Int.toNat_natCast, if_neg (by omega), Option.map_some, add_plain, show n - (n - 1) = 1 by omega] at hcut2
  obtain ⟨A1, hA1⟩ : ∃ A1 : Option Addr, A1 = (if c = i + 1 then some ⟨g, 0, none⟩ else some ⟨g, (i + 1) * 2, none⟩) := ⟨_, rfl⟩
  rw [Option.map_some, add_plain, ← hA1] at hcut1
  have HA1 := Lib.hid hA1
  clear hi0 hz0 hz1 hz2 hA1
  go_enter Try.func28, Try.ntmps28
  go_wp2
  refine start_ (n := 8) (S := fun _ => True) (ds := []) #[false, false, false, false, false, false, false, false] (by kernel_rfl) rfl rfl trivial (fun hHeld => ?_); refine with_tabW del5tab del5bits (fun HT_ HW_ => ?_)
  refine pure_ (i := 0) (N := some 20) (v := ?_) (a' := ?_) #[true, false, false, false, false, false, false, false] rfl rfl (any_of HT_.out (by kernel_rfl)) (fun _ _ _ h => h) (Or.inl ⟨by rfl, ?_⟩) ?_ ?_
  rotate_left
  · intro w'
    go_simp
    with_reducible rfl
  rotate_left
  · simp only [Act.put, List.setIfInBounds_toArray, List.set_cons_zero, List.set_cons_succ, i64_w, i32_w]
    rfl
  refine pure_ (i := 1) (N := some 21) (v := ?_) (a' := ?_) #[true, true, false, false, false, false, false, false] rfl rfl (any_of HT_.out (by kernel_rfl)) (fun _ _ _ h => h) (Or.inl ⟨by rfl, ?_⟩) ?_ ?_
  rotate_left
  · intro w'
    go_simp
    with_reducible rfl
  rotate_left
  · simp only [Act.put, List.setIfInBounds_toArray, List.set_cons_zero, List.set_cons_succ, i64_w, i32_w]
    rfl
  refine pure_ (i := 2) (N := some 22) (v := ?_) (a' := ?_) #[true, true, true, false, false, false, false, false] rfl rfl (any_of HT_.out (by kernel_rfl)) (fun _ _ _ h => h) (Or.inl ⟨by rfl, ?_⟩) ?_ ?_
  rotate_left
  · intro w'
    go_simp
    with_reducible rfl
  rotate_left
  · simp only [Act.put, List.setIfInBounds_toArray, List.set_cons_zero, List.set_cons_succ, i64_w, i32_w]
    rfl
  refine pure_ (i := 3) (N := some 23) (v := ?_) (a' := ?_) #[true, true, true, true, false, false, false, false] rfl rfl (any_of HT_.out (by kernel_rfl)) (fun _ _ _ h => h) (Or.inl ⟨by rfl, ?_⟩) ?_ ?_
  rotate_left
  · intro w'
    go_simp
    with_reducible rfl
  rotate_left
  · simp only [Act.put, List.setIfInBounds_toArray, List.set_cons_zero, List.set_cons_succ, i64_w, i32_w]
    rfl
  refine pure_ (i := 4) (N := some 24) (v := ?_) (a' := ?_) #[true, true, true, true, true, false, false, false] rfl rfl (any_of HT_.out (by kernel_rfl)) (fun _ _ _ h => h) (Or.inl ⟨by rfl, ?_⟩) ?_ ?_
  rotate_left
  · intro w'
    go_simp
    with_reducible rfl
  rotate_left
  · simp only [Act.put, List.setIfInBounds_toArray, List.set_cons_zero, List.set_cons_succ, i64_w, i32_w]
    rfl
  refine pure_ (i := 5) (N := some 25) (v := ?_) (a' := ?_) #[true, true, true, true, true, true, false, false] rfl rfl (any_of HT_.out (by kernel_rfl)) (fun _ _ _ h => h) (Or.inl ⟨by rfl, ?_⟩) ?_ ?_
  rotate_left
  · intro w'
    go_simp
    with_reducible rfl
  rotate_left
  · simp only [Act.put, List.setIfInBounds_toArray, List.set_cons_zero, List.set_cons_succ, i64_w, i32_w]
    rfl
  refine one_ (i := 6) (N := some 26) #[true, true, true, true, true, true, true, false] rfl rfl (one_of HT_.out (by kernel_rfl)) (by decide) (fun K hK => ?_)
  refine Kd.R_delete_step k26 (w0 := w.drew) base (by rfl) (.tmp 22) (.tmp 25) 22 26 rfl Try.underlying22 del26 (g := g) (n := n) (c := c) (k := i) (xs := xs) (ok := fun _ => True) (A := A1) (m := n - (i + 1)) (c2 := c - (i + 1)) rfl rfl (by rw [HA1.out, Option.map_some, add_plain]; rfl) rfl (Kd.R_drew H0.out) hi (Below.refl _ _) (HBS.out) ?_
  intro w3 ho hb hg
  have H3 := Aside0.mk ho
  have HG3 := Aside0.mk hg
  clear ho hb hg
  refine hK.out _ _ trivial (fun hHeld => ?_)
  clear hK K
  refine norm_ (a' := ?_) ?_ ?_
  rotate_left
  · show Act.put _ (some 26) _ = _
    simp only [Act.put, List.setIfInBounds_toArray, List.set_cons_zero, List.set_cons_succ, i64_w, i32_w]
    rfl
  refine pure_ (i := 7) (N := some 0) (v := ?_) (a' := ?_) #[true, true, true, true, true, true, true, true] rfl rfl (any_of HT_.out (by kernel_rfl)) (fun _ _ _ h => h) (Or.inl ⟨by rfl, ?_⟩) ?_ ?_
  rotate_left
  · intro w'
    go_simp
    with_reducible rfl
  rotate_left
  · simp only [Act.put, List.setIfInBounds_toArray, List.set_cons_zero, List.set_cons_succ, i64_w, i32_w]
    rfl
  refine done_ (done_of HT_.out (by kernel_rfl)) ?_
  obtain ⟨w4, hclr, ho4, hg4⟩ := clear_one (ty := 0) H3.out (by omega) (c - (n - 1))
  have HG4 := Aside0.mk hg4
  have H4 := Aside0.mk ho4
  clear ho4 hg4
  go_wp2
  go_ret
  refine ⟨rfl, H4.out, ?_⟩
  exact ⟨HG4.out.os.trans HG3.out.os, HG4.out.tape.trans HG3.out.tape, HG4.out.output.trans HG3.out.output, Nat.le_trans HG3.out.size HG4.out.size, fun k hk hne => (HG4.out.block k (Nat.lt_of_lt_of_le hk HG3.out.size) hne).trans (HG3.out.block k hk hne)⟩
end Go.Proofs.Ytoehingbhmaidaa.P
