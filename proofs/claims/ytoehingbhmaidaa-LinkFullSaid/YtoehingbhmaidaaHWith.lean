/- link.with answers the list with one link more, ahead of a place. -/
import Derived.Test.YtoehingbhmaidaaPx5
import Derived.Lib.Hide
import Derived.Deep.RegionWith
namespace Go.Proofs.Ytoehingbhmaidaa.P
open Go.RowKit Go.Proofs.YtoehingbhmaidaaW.PrintWords Go.Proofs.YtoehingbhmaidaaW.PrintLast Go.Proofs.YtoehingbhmaidaaW.PrintMore
set_option linter.unusedVariables false
set_option linter.unusedSimpArgs false

theorem concat3 (a b c : List S26) (ha : a.length ≤ 100000) (hb : b.length ≤ 100000) (hc : c.length ≤ 100000) : api_Link_34.f 10 [a, b, c] = some (a ++ b ++ c) := by
  have r0 : rd_L2 [a, b, c] 0 = a := rfl
  have r1 : rd_L2 [a, b, c] 1 = b := rfl
  have r2 : rd_L2 [a, b, c] 2 = c := rfl
  have w0 : wrap64 (0 + (a.length : Int)) = a.length := by unfold wrap64; omega
  have w1 : wrap64 ((a.length : Int) + b.length) = (a.length : Int) + b.length := by unfold wrap64; omega
  have w2 : wrap64 ((a.length : Int) + b.length + c.length) = (a.length : Int) + b.length + c.length := by unfold wrap64; omega
  have i1 : wrap64 (0 + 1) = 1 := by unfold wrap64; omega
  have i2 : wrap64 (1 + 1) = 2 := by unfold wrap64; omega
  have i3 : wrap64 (2 + 1) = 3 := by unfold wrap64; omega
  have hg : api_Link_35.f ((a.length : Int) + b.length + c.length) = some [] := by unfold api_Link_35.f; rw [if_pos (by omega)]
  have l3 : (([a, b, c] : List (List S26)).length : Int) = 3 := rfl
  unfold api_Link_34.f
  rw [l3]
  simp only [api_Link_34.l0, l3, r0, w0, i1]
  rw [if_pos (by omega), if_pos (by omega), if_pos (by omega), if_neg (by omega)]
  simp only [r1, w1, i2]
  rw [if_pos (by omega), if_pos (by omega), if_pos (by omega), if_neg (by omega)]
  simp only [r2, w2, i3]
  rw [if_pos (by omega), if_pos (by omega), if_pos (by omega), if_neg (by omega), if_neg (by omega), hg]
  simp only [Option.bind_some, api_Link_34.l1, l3, r0, r1, r2, i1, i2, i3]
  rw [if_pos (by omega), if_pos (by omega), if_pos (by omega), if_pos (by simp; omega), if_pos (by omega), if_pos (by omega), if_pos (by omega), if_pos (by simp; omega), if_pos (by omega), if_pos (by omega), if_pos (by omega), if_pos (by simp; omega), if_neg (by omega)]
  simp
/-- A row of three slices in a new block reads as the three lists. -/
theorem three_rows {W : World} {g : Nat} {A0 A1 A2 : Option Addr} {n0 n1 n2 c0 c1 c2 : Nat} {a b c : List S26}
    (h0 : W.cell? ⟨g, 0, none⟩ = some (.slice A0 n0 c0)) (h1 : W.cell? ⟨g, 1, none⟩ = some (.slice A1 n1 c1)) (h2 : W.cell? ⟨g, 2, none⟩ = some (.slice A2 n2 c2))
    (e0 : n0 = a.length) (e1 : n1 = b.length) (e2 : n2 = c.length) (l0 : n0 ≤ c0) (l1 : n1 ≤ c1) (l2 : n2 ≤ c2)
    (r0 : Kd.C k26 W A0 a.length a) (r1 : Kd.C k26 W A1 b.length b) (r2 : Kd.C k26 W A2 c.length c) : Kd.C (Kd.slice 26 k26) W (some ⟨g, 0, none⟩) ([a, b, c] : List (List S26)).length [a, b, c] := by
  subst e0 e1 e2
  refine ⟨rfl, by simp, fun _ => ⟨_, rfl, fun j p hj => ?_⟩⟩
  match j, hj with
  | 0, hj =>
    obtain rfl : a = p := by simpa using hj
    refine ⟨[.slice A0 a.length c0], rfl, ⟨A0, c0, rfl, l0, r0⟩, fun i u hu => ?_⟩
    match i, hu with
    | 0, hu => obtain rfl := Option.some.inj hu; rw [add_plain]; exact h0
  | 1, hj =>
    obtain rfl : b = p := by simpa using hj
    refine ⟨[.slice A1 b.length c1], rfl, ⟨A1, c1, rfl, l1, r1⟩, fun i u hu => ?_⟩
    match i, hu with
    | 0, hu => obtain rfl := Option.some.inj hu; rw [add_plain]; exact h1
  | 2, hj =>
    obtain rfl : c = p := by simpa using hj
    refine ⟨[.slice A2 c.length c2], rfl, ⟨A2, c2, rfl, l2, r2⟩, fun i u hu => ?_⟩
    match i, hu with
    | 0, hu => obtain rfl := Option.some.inj hu; rw [add_plain]; exact h2
/-- A link in a new block reads as itself. -/
theorem one_row {W : World} {g : Nat} {x : S26} (h0 : W.cell? ⟨g, 0, none⟩ = some (.int .i64 x.f0)) (h1 : W.cell? ⟨g, 1, none⟩ = some (.int .i64 x.f1)) : Kd.C k26 W (some ⟨g, 0, none⟩) ([x] : List S26).length [x] := by
  refine ⟨rfl, by simp, fun _ => ⟨_, rfl, fun j p hj => ?_⟩⟩
  match j, hj with
  | 0, hj =>
    obtain rfl : x = p := by simpa using hj
    refine ⟨[.int .i64 x.f0, .int .i64 x.f1], rfl, k26_mk W x, fun i u hu => ?_⟩
    match i, hu with
    | 0, hu => obtain rfl := Option.some.inj hu; rw [add_plain]; exact h0
    | 1, hu => obtain rfl := Option.some.inj hu; rw [add_plain]; exact h1
theorem concat_calls (A0 : Option Addr) (c0 : Nat) (a b c : List S26) (w : World) (hr0 : Kd.C (Kd.slice 26 k26) w A0 ([a, b, c] : List (List S26)).length [a, b, c]) (hc0 : 3 ≤ c0) (h : a.length ≤ 100000 ∧ b.length ≤ 100000 ∧ c.length ≤ 100000) :
    Calls Try.prog 34 #[.slice A0 3 c0] w fun e w' => ∃ v0_ : Value, e = .returned v0_ ∧ Kd.R k26 26 w' w.heap.size (fun _ => True) v0_ (a ++ b ++ c) ∧ Below w.heap.size w w' :=
  api_Link_34.calls 10 A0 c0 [a, b, c] (a ++ b ++ c) w hr0 hc0 (concat3 a b c h.1 h.2.1 h.2.2)
def api_Link_25.T1 : Bool × List (List Nat × List Nat) := (true, [([], []), ([], []), ([0, 1], [0, 1]), ([], []), ([3], [3]), ([], []), ([], []), ([5, 6], [5, 6]), ([2, 4, 7], [2, 4, 7]), ([8], [8]), ([9, 9, 0, 1, 2, 3, 4, 5, 6, 7, 8, 9], [9])])
def api_Link_25.B1 : List Nat := [0, 0, 3, 0, 8, 0, 0, 96, 255, 511, 1023]
theorem api_Link_25.tab1 : rtab .any (opsOf Try.f25 1) = api_Link_25.T1 := by kernel_rfl
theorem api_Link_25.bits1 : waitsOk api_Link_25.T1.2 api_Link_25.B1 = true := by kernel_rfl
/-- A slice's literal in a new block, in a region that draws. -/
theorem box_slice_step {P : Program} {ops : Array Oper} {o : Oper} {a : Act} {Q : Exit → Act → World → Prop} {Kc : Act → World → Prop} {W : World} (hw : Region.wanted o (yielded ops a.tmps) = true) {cs : Array Value} {t : TypeId} {n : Nat}
    (hrun : (execOp a.eval o).run P W = .ok (.value (.slice (some ⟨W.heap.size, 0, none⟩) n n)) (W.alloc (.cells cs t (0, 0))))
    (h : ∀ g w1, w1.heap[g]? = some (.cells cs t (0, 0)) → Below W.heap.size W w1 → W.heap.size ≤ g → Kc (a.put o.dst (.slice (some ⟨g, 0, none⟩) n n)) w1) : if Region.wanted o (yielded ops a.tmps) = true then Oper.wp P o a W Kc Q else Kc (a.put o.dst undef) W :=
  event_step hw hrun (h _ _ (blk_new W _) (below_alloc (Below.refl _ _) _) (Nat.le_refl _))
def api_Link_25.f (l0 : List S26) (a1 : Int) (a2_0 : Int) (a2_1 : Int) : Option (List S26) := if 0 ≤ a1 ∧ a1 ≤ l0.length ∧ l0.length ≤ 100000 then some (l0.take a1.toNat ++ (⟨a2_0, a2_1⟩ : S26) :: l0.drop a1.toNat) else none
set_option maxHeartbeats 2000000 in
set_option maxRecDepth 100000 in
theorem api_Link_25.calls (A0 : Option Addr) (c0 : Nat) (l0 : List S26) (a1 : Int) (a2_0 : Int) (a2_1 : Int) (r : List S26) (w : World) (hr0 : Kd.C k26 w A0 l0.length l0) (hc0 : l0.length ≤ c0) (h : api_Link_25.f l0 a1 a2_0 a2_1 = some r) :
    Calls Try.prog 25 #[.slice A0 l0.length c0, .int .i64 a1, .agg #[.int .i64 a2_0, .int .i64 a2_1]] w fun e w' => ∃ v0_ : Value, e = .returned v0_ ∧ Kd.R k26 26 w' w.heap.size (fun _ => True) v0_ r ∧ Below w.heap.size w w' := by
  unfold api_Link_25.f at h
  by_cases hl : 0 ≤ a1 ∧ a1 ≤ l0.length ∧ l0.length ≤ 100000
  · rw [if_pos hl] at h
    obtain rfl := Option.some.inj h
    clear h
    obtain ⟨hl0, hl1, hl2⟩ := hl
    obtain ⟨n, rfl⟩ := Int.eq_ofNat_of_zero_le hl0
    have hn : n ≤ l0.length := by omega
    obtain ⟨i0, hi0, hz0, hz1, hz2⟩ := info_parts growInfo26
    have hcut0 := cut_to (P := Try.prog) 22 26 .i64 Try.underlying22 hi0 A0 l0.length c0 (n : Int) (by omega) hl1 hc0
    have hcut1 := cut_from (P := Try.prog) 22 26 .i64 Try.underlying22 hi0 2 hz1 A0 l0.length c0 (n : Int) (by omega) hl1
    rw [Int.toNat_natCast] at hcut0 hcut1
    have hu26 := Try.underlying26
    have HR0 := Aside0.mk hr0
    have HC0 := Aside0.mk hc0
    clear hr0 hc0 hi0 hz0 hz1 hz2
    have HT := Aside0.mk (show (l0.take n).length ≤ 100000 ∧ (l0.drop n).length ≤ 100000 ∧ (l0.take n).length = n ∧ (l0.drop n).length = l0.length - n by simp; omega)
    obtain ⟨A1, hA1⟩ : ∃ A1, A1 = (if c0 = n then A0 else A0.map (·.add (n * 2))) := ⟨_, rfl⟩
    have hb1 : (if ((n : Int)) ≤ ((l0.length : Int)) then true else false) = true := if_pos hl1
    have CR0 : ∀ W, Below w.heap.size w W → Kd.C k26 W A0 (l0.take n).length (l0.take n) := fun W hb => Kd.C_take (m := n) (Kd.C_below HR0.out hb) hn
    have CR1 : ∀ W, Below w.heap.size w W → Kd.C k26 W A1 (l0.drop n).length (l0.drop n) := fun W hb => by
      rw [hA1]
      exact Kd.C_drop (m := n) (c := c0) (Kd.C_below HR0.out hb) hn HC0.out
    rw [← hA1] at hcut1
    have HCR0 := Aside0.mk CR0
    have HCR1 := Aside0.mk CR1
    have HCC := Aside0.mk (show n ≤ c0 ∧ l0.length - n ≤ c0 - n by have := HC0.out; omega)
    clear CR0 CR1 hA1 hb1
    have HB := Aside0.mk (Below.refl w.heap.size w)
    go_enter Try.func25, Try.ntmps25
    go_wp2_with ((with_reducible refine gate_dst (N := 5) rfl ?_); refine box_event ?hg (N := 5) ?hd (cs := #[.int .i64 a2_0, .int .i64 a2_1]) (t := 26) ?hr ?_; (case hd => rfl); (case hg => rfl); (case hr => first | (go_simp; done) | (go_simp; rfl)); intro gb hg w9 hbox hb; have n0_ := Aside0.mk (below_step HB.out hb); have n1_ := Aside0.mk hbox; have n2_ := Aside0.mk (show w.heap.size ≤ gb by rw [hg]; exact Nat.le_refl _); clear HB; have HB := n0_; have BK := n1_; have GE := n2_; clear n0_ n1_ n2_ hb hbox hg)
    have n0_ := Aside0.mk (blk_drew BK.out)
    have n1_ := Aside0.mk (below_drew1 HB.out)
    clear BK HB
    have BK := n0_
    have HB := n1_
    clear n0_ n1_
    refine start_ (n := 11) (S := fun w' => w'.cell? ⟨gb, 0, none⟩ = some (.int .i64 a2_0) ∧ w'.cell? ⟨gb, 1, none⟩ = some (.int .i64 a2_1)) (ds := []) #[false, false, false, false, false, false, false, false, false, false, false] (by kernel_rfl) rfl rfl ⟨(blk_cell BK.out 0).trans rfl, (blk_cell BK.out 1).trans rfl⟩ (fun hHeld => ?_); refine with_tabW api_Link_25.tab1 api_Link_25.bits1 (fun HT_ HW_ => ?_)
    generalize w9.drew = w10 at BK HB hHeld ⊢
    refine pure_ (i := 0) (N := some 7) (v := ?_) (a' := ?_) #[true, false, false, false, false, false, false, false, false, false, false] rfl rfl (any_of HT_.out (by kernel_rfl)) (fun _ _ _ h => h) (Or.inl ⟨by rfl, ?_⟩) ?_ ?_
    rotate_left
    · intro w'
      go_simp
      with_reducible rfl
    rotate_left
    · simp only [Act.put, List.setIfInBounds_toArray, List.set_cons_zero, List.set_cons_succ, i64_w, i32_w]
      rfl
    refine pure_ (i := 1) (N := some 8) (v := ?_) (a' := ?_) #[true, true, false, false, false, false, false, false, false, false, false] rfl rfl (any_of HT_.out (by kernel_rfl)) (fun _ _ _ h => h) (Or.inl ⟨by rfl, ?_⟩) ?_ ?_
    rotate_left
    · intro w'
      go_simp
      with_reducible rfl
    rotate_left
    · simp only [Act.put, List.setIfInBounds_toArray, List.set_cons_zero, List.set_cons_succ, i64_w, i32_w]
      rfl
    refine pure_ (i := 2) (N := some 9) (v := ?_) (a' := ?_) #[true, true, true, false, false, false, false, false, false, false, false] rfl rfl (any_of HT_.out (by kernel_rfl)) (fun _ _ _ h => h) (Or.inl ⟨by rfl, ?_⟩) ?_ ?_
    rotate_left
    · intro w'
      go_simp
      with_reducible rfl
    rotate_left
    · simp only [Act.put, List.setIfInBounds_toArray, List.set_cons_zero, List.set_cons_succ, i64_w, i32_w]
      rfl
    refine pure_ (i := 5) (N := some 12) (v := ?_) (a' := ?_) #[true, true, true, false, false, true, false, false, false, false, false] rfl rfl (any_of HT_.out (by kernel_rfl)) (fun _ _ _ h => h) (Or.inl ⟨by rfl, ?_⟩) ?_ ?_
    rotate_left
    · intro w'
      go_simp
      with_reducible rfl
    rotate_left
    · simp only [Act.put, List.setIfInBounds_toArray, List.set_cons_zero, List.set_cons_succ, i64_w, i32_w]
      rfl
    refine pure_ (i := 6) (N := some 13) (v := ?_) (a' := ?_) #[true, true, true, false, false, true, true, false, false, false, false] rfl rfl (any_of HT_.out (by kernel_rfl)) (fun _ _ _ h => h) (Or.inl ⟨by rfl, ?_⟩) ?_ ?_
    rotate_left
    · intro w'
      go_simp
      with_reducible rfl
    rotate_left
    · simp only [Act.put, List.setIfInBounds_toArray, List.set_cons_zero, List.set_cons_succ, i64_w, i32_w]
      rfl
    refine pure_ (i := 7) (N := some 14) (v := ?_) (a' := ?_) #[true, true, true, false, false, true, true, true, false, false, false] rfl rfl (any_of HT_.out (by kernel_rfl)) (fun _ _ _ h => h) (Or.inl ⟨by rfl, ?_⟩) ?_ ?_
    rotate_left
    · intro w'
      go_simp
      with_reducible rfl
    rotate_left
    · simp only [Act.put, List.setIfInBounds_toArray, List.set_cons_zero, List.set_cons_succ, i64_w, i32_w]
      rfl
    refine take_ (i := 3) (N := some 10) (v := ?_) (a' := ?_) #[true, true, true, true, false, true, true, true, false, false, false] rfl rfl (take_ofW HT_.out HW_.out (by kernel_rfl)) (fun _ _ _ h => h) (Or.inl ⟨by rfl, ?_⟩) hHeld ?_ ?_
    rotate_left
    · rintro w' ⟨s0, s1⟩
      go_simp
      with_reducible rfl
    rotate_left
    · simp only [Act.put, List.setIfInBounds_toArray, List.set_cons_zero, List.set_cons_succ, i64_w, i32_w]
      rfl
    refine one_ (i := 4) (N := some 11) #[true, true, true, true, true, true, true, true, false, false, false] rfl rfl (one_of HT_.out (by kernel_rfl)) (by decide) (fun K hK => ?_)
    refine box_slice_step (by rfl) (cs := #[.int .i64 a2_0, .int .i64 a2_1]) (t := 26) (n := 1) ?hr ?_; (case hr => first | (go_simp; done) | (go_simp; rfl))
    intro gx w13 hx hb hxg
    have n1_ := Aside0.mk (blk_below BK.out hb)
    have n2_ := Aside0.mk (below_step HB.out hb)
    have HX := Aside0.mk hx
    clear BK HB hb hx
    have BK := n1_
    have HB := n2_
    clear n1_ n2_
    refine hK.out _ _ ⟨(blk_cell BK.out 0).trans rfl, (blk_cell BK.out 1).trans rfl⟩ (fun hHeld => ?_)
    clear hK K
    refine norm_ (a' := ?_) ?_ ?_
    rotate_left
    · show Act.put _ (some 11) _ = _
      simp only [Act.put, List.setIfInBounds_toArray, List.set_cons_zero, List.set_cons_succ, i64_w, i32_w]
      rfl
    refine one_ (i := 8) (N := some 15) #[true, true, true, true, true, true, true, true, true, false, false] rfl rfl (one_of HT_.out (by kernel_rfl)) (by decide) (fun K hK => ?_)
    refine box_slice_step (by rfl) (cs := #[.slice A0 n c0, .slice (some ⟨gx, 0, none⟩) 1 1, .slice A1 (l0.length - n) (c0 - n)]) (t := 22) (n := 3) ?hr ?_; (case hr => first | (go_simp; done) | (go_simp; rfl))
    intro gs w16 hs hb hsg
    have n1_ := Aside0.mk (blk_below BK.out hb)
    have n2_ := Aside0.mk (below_step HB.out hb)
    have n3_ := Aside0.mk (blk_below HX.out hb)
    have HS := Aside0.mk hs
    clear BK HB HX hb hs
    have BK := n1_
    have HB := n2_
    have HX := n3_
    clear n1_ n2_ n3_
    refine hK.out _ _ ⟨(blk_cell BK.out 0).trans rfl, (blk_cell BK.out 1).trans rfl⟩ (fun hHeld => ?_)
    clear hK K
    refine norm_ (a' := ?_) ?_ ?_
    rotate_left
    · show Act.put _ (some 15) _ = _
      simp only [Act.put, List.setIfInBounds_toArray, List.set_cons_zero, List.set_cons_succ, i64_w, i32_w]
      rfl
    refine one_ (i := 9) (N := some 16) #[true, true, true, true, true, true, true, true, true, true, false] rfl rfl (one_of HT_.out (by kernel_rfl)) (by decide) (fun K hK => ?_)
    refine goes_ Try.func34 (by kernel_rfl) rfl #[.slice (some ⟨gs, 0, none⟩) 3 3] (by rfl) rfl rfl (by (try simp only [List.map_toArray, List.map_cons, List.map_nil]); first | done | rfl) ?_
    refine (concat_calls _ _ (l0.take n) [(⟨a2_0, a2_1⟩ : S26)] (l0.drop n) _ ?side1 (Nat.le_refl _) ⟨HT.out.1, by simp, HT.out.2.1⟩).mono ?_
    (case side1 => exact three_rows ((blk_cell HS.out 0).trans rfl) ((blk_cell HS.out 1).trans rfl) ((blk_cell HS.out 2).trans rfl) HT.out.2.2.1.symm rfl HT.out.2.2.2.symm HCC.out.1 (Nat.le_refl _) HCC.out.2 (HCR0.out _ HB.out) (one_row ((blk_cell HX.out 0).trans rfl) ((blk_cell HX.out 1).trans rfl)) (HCR1.out _ HB.out))
    rintro e w19 ⟨v129, rfl, ho0, hb⟩
    refine ⟨_, rfl, ?_⟩
    have n1_ := Aside0.mk (blk_below BK.out hb)
    have n2_ := Aside0.mk (below_step HB.out hb)
    have HO := Aside0.mk (Kd.R_lower ho0 (below_size HB.out))
    clear BK HB hb ho0
    have BK := n1_
    have HB := n2_
    clear n1_ n2_
    refine hK.out _ _ ⟨(blk_cell BK.out 0).trans rfl, (blk_cell BK.out 1).trans rfl⟩ (fun hHeld => ?_)
    clear hK K
    refine norm_ (a' := ?_) ?_ ?_
    rotate_left
    · show Act.put _ (some 16) _ = _
      simp only [Act.put, List.setIfInBounds_toArray, List.set_cons_zero, List.set_cons_succ, i64_w, i32_w]
      rfl
    refine pure_ (i := 10) (N := some 6) (v := ?_) (a' := ?_) #[true, true, true, true, true, true, true, true, true, true, true] rfl rfl (any_of HT_.out (by kernel_rfl)) (fun _ _ _ h => h) (Or.inl ⟨by rfl, ?_⟩) ?_ ?_
    rotate_left
    · intro w'
      go_simp
      with_reducible rfl
    rotate_left
    · simp only [Act.put, List.setIfInBounds_toArray, List.set_cons_zero, List.set_cons_succ, i64_w, i32_w]
      rfl
    refine done_ (done_of HT_.out (by kernel_rfl)) ?_
    try go_wp2
    go_ret
    exact ⟨_, rfl, by simpa using HO.out, HB.out⟩
  · rw [if_neg hl] at h
    cases h
end Go.Proofs.Ytoehingbhmaidaa.P
