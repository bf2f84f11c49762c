/- slices.Chunk over bytes, five at a time: the iterator's contract. -/
import Derived.Test.YtiafnckmlklodaaHAny
import Derived.Test.YtiafnckmlklodaaRound
import Derived.WalkKit
import Derived.OwnWalkIn
import Derived.LoopNIn
import Derived.LoopIn
import Derived.Lib.Hide
namespace Go.Proofs.Ytiafnckmlklodaa.P
open Go.RowKit Go.Proofs.YtiafnckmlklodaaW.PrintWords Go.Proofs.YtiafnckmlklodaaW.PrintLast Go.Proofs.YtiafnckmlklodaaW.PrintMore

set_option linter.unusedVariables false
set_option linter.unusedSimpArgs false
attribute [local go_sem] Oper.semAt_some

theorem cut3 {P : Program} (t e : TypeId) {i : TypeInfo} (ht : P.underlying t = some (.slice e)) (hi : P.info? e = some i) (size : Nat) (hsz : i.size = size) (A : Option Addr) (n c : Nat) (lo hi' mx : Int) (h0 : 0 ≤ lo) (h1 : lo ≤ hi') (h2 : hi' ≤ mx) (h3 : mx ≤ c) (W : World) :
    (Instr.slice t (.slice A n c) (some (.int .i64 lo)) (some (.int .i64 hi')) (some (.int .i64 mx))).run P W = .ok (.slice (if mx.toNat = lo.toNat then A else A.map (·.add (lo.toNat * size))) (hi'.toNat - lo.toNat) (mx.toNat - lo.toNat)) W := by
  have hel : P.elem t = e := by simp [Program.elem, ht]
  have hu : P.underlying t = some (.slice (P.elem t)) := by rw [hel]; exact ht
  have e1 : (hi'.toNat : Int) = hi' := Int.toNat_of_nonneg (by omega)
  have e2 : (mx.toNat : Int) = mx := Int.toNat_of_nonneg (by omega)
  rw [run_slice_any W t A n c hu, hel]
  simp [Instr.sliceBounds, run_sliceBound, sizeOf, typeInfo, hi, hsz, sliced, Result.andThen, h0, h1, h2, h3, e1, e2, (by omega : 0 ≤ hi'), (by omega : 0 ≤ mx)]

/-- A round keeps the iterator's two boxes. -/
def KpB (Bs Bn : Nat) (A B : World) : Prop := B.heap[Bs]? = A.heap[Bs]? ∧ B.heap[Bn]? = A.heap[Bn]?
theorem wrap_5 {q : Nat} (h : q ≤ 100000) : wrap64 ((q : Int) + 5) = (q : Int) + 5 := by unfold wrap64; omega
theorem wrap_5' {q : Nat} (h : q ≤ 100000) : wrap64 ((q : Int) + 5) = ((q + 5 : Nat) : Int) := by rw [wrap_5 h]; omega
theorem fin_take {m k : Nat} (h : k < m) : (List.finRange m).take (k + 1) = (List.finRange m).take k ++ [⟨k, h⟩] := by
  rw [← List.take_append_getElem (by simpa using h)]; simp
theorem cut3w {i0 : TypeInfo} (hi0 : Try.prog.info? 5 = some i0) (hz1 : i0.size = 1) (A : Option Addr) (N c q : Nat) (hq : q ≤ 100000) (h : q + 5 ≤ N) (hc : N ≤ c) (W : World) :
    (Instr.slice 23 (.slice A N c) (some (.int .i64 (q : Int))) (some (.int .i64 (wrap64 ((q : Int) + 5)))) (some (.int .i64 (wrap64 ((q : Int) + 5))))).run Try.prog W = .ok (.slice (A.map (·.add q)) 5 5) W := by
  have hc3 := cut3 (P := Try.prog) 23 5 Try.underlying23 hi0 1 hz1 A N c (q : Int) ((q : Int) + 5) ((q : Int) + 5) (by omega) (by omega) (by omega) (by omega) W
  rw [wrap_5 hq, hc3, show ((q : Int) + 5).toNat = q + 5 by omega, Int.toNat_natCast, if_neg (by omega), show q + 5 - q = 5 by omega, Nat.mul_one]
/-- The address of the k-th five bytes. -/
def chunkV (A : Option Addr) (k : Nat) : Value := .slice (A.map (·.add (5 * k))) 5 5
def ch3T : Bool × List (List Nat × List Nat) := (true, [([], []), ([], []), ([], []), ([1, 2], [1, 2]), ([3], [3]), ([0, 4], [0, 4]), ([5, 0, 1, 2, 3, 4, 5], [5])])
def ch3B : List Nat := [0, 0, 0, 6, 14, 31, 63]
theorem ch3tab : rtab .any (opsOf Try.f27 3) = ch3T := by kernel_rfl
theorem ch3bits : waitsOk ch3T.2 ch3B = true := by kernel_rfl
set_option maxRecDepth 100000 in
set_option maxHeartbeats 2000000 in
theorem chunk1_in (F : Fence) (hF : F = Fence.wide) (n : Nat) (hn : 1 ≤ n) (l Bs Bn m N c : Nat) (hm : m ≤ 1000) (hNm : N = 5 * m) (A : Option Addr) (hc : N ≤ c) (J Jx : List (Fin m) → World → Prop)
    (hY : ∀ pre (x : Fin m) W, J pre W → pre.length < m → YieldAt F (n - 1) Try.prog l #[chunkV A x.1] W fun e W' =>
      (e = .returned (.bool true) ∧ J (pre ++ [x]) W' ∧ KpB Bs Bn W W') ∨ (e = .returned (.bool false) ∧ Jx (pre ++ [x]) W'))
    (hJd : ∀ xs W, J xs W → J xs W.drew)
    (W : World) (hcs : W.cell? ⟨Bs, 0, none⟩ = some (.slice A N c)) (hcn : W.cell? ⟨Bn, 0, none⟩ = some (.int .i64 5)) (h0 : J [] W) :
    CallsIn F n Try.prog 27 #[.func (.yield l) #[] #[], .pointer (some ⟨Bs, 0, none⟩), .pointer (some ⟨Bn, 0, none⟩)] W fun e W' => (∃ v, e = .returned v) ∧
      ((∃ ys, ys = List.finRange m ∧ J ys W') ∨ (∃ pre, (∃ k, k ≤ m ∧ pre = (List.finRange m).take k) ∧ Jx pre W')) := by
  obtain ⟨i0, hi0, hz0, hz1, hz2⟩ := info_parts info5
  have HNm := Lib.hid hNm
  clear hNm
  have conv : ∀ (c : Code) Q a w, c.wp Try.prog Q a w → c.wpIn F n Try.prog Q a w := by subst hF; exact fun c Q a w h => wpIn_wide.2 h
  have hro : F.round = none := by rw [hF]; rfl
  have h27 : F.fn 27 := by rw [hF]; trivial
  clear hF
  refine callsIn_of_wp Try.func27 rfl h27 ?_ hro
  simp only [Try.ntmps27, List.size_toArray, List.length_cons, List.length_nil, Nat.reduceAdd, Nat.reduceSub, Array.replicate_succ, Array.replicate_zero, List.push_toArray, List.append_toArray, List.nil_append, List.cons_append]
  gi_wp2
  gi_loopw [4] (fun i wr => ∃ k q : Nat, k ≤ m ∧ q = 5 * k ∧ i = .int .i64 (q : Int) ∧ J ((List.finRange m).take k) wr ∧ KpB Bs Bn W wr)
    (fun i _ => N - (intOf i).toNat)
  case atStart => exact ⟨0, 0, Nat.zero_le _, rfl, rfl, by simpa using h0, rfl, rfl⟩
  case round =>
    obtain ⟨k, q, hk, hq, rfl, hJs, hnx⟩ := hrel
    have hs := (World.cell?_of_block (a := ⟨Bs, 0, none⟩) hnx.1).trans hcs
    have hN := (World.cell?_of_block (a := ⟨Bn, 0, none⟩) hnx.2).trans hcn
    have HQ := Lib.hid hq
    clear hq
    by_cases hlt : q < N
    · have hkm : k < m := by have := HQ.out; have := HNm.out; omega
      have hq5 : q + 5 ≤ N := by have := HQ.out; have := HNm.out; omega
      have hcf := cut_from (P := Try.prog) 23 5 .i64 Try.underlying23 hi0 1 hz1 A N c (q : Int) (by omega) (by omega)
      rw [Int.toNat_natCast, Nat.mul_one, if_neg (show ¬ c = q by omega)] at hcf
      have hq100 : q ≤ 100000 := by have := HNm.out; omega
      have hc3 := cut3w hi0 hz1 A N c q hq100 (by omega) hc
      have hd5 : ¬ (((N - q : Nat) : Int) < 5) := by omega
      have HW5 := Lib.hid (wrap_5' hq100)
      clear hq100
      generalize N - q = dd at hcf hd5
      clear hq5
      have hJs := hJd _ _ hJs
      obtain ⟨fn, tmps, assign, body, hy, hR⟩ := hY _ ⟨k, hkm⟩ wr.drew hJs (by simp; omega)
      dsimp only [chunkV] at hy
      rw [← HQ.out] at hy
      gi_wp2
      refine conv _ _ _ _ ?_
      refine start_ (n := 7) (S := fun w' => w'.cell? ⟨Bs, 0, none⟩ = some (.slice A N c) ∧ w'.cell? ⟨Bn, 0, none⟩ = some (.int .i64 5)) (ds := []) #[false, false, false, false, false, false, false] (by kernel_rfl) rfl rfl ⟨hs, hN⟩ (fun hHeld => ?_); refine with_tabW ch3tab ch3bits (fun HT_ HW_ => ?_)
      refine take_ (i := 0) (N := some 13) (v := ?_) (a' := ?_) #[true, false, false, false, false, false, false] rfl rfl (take_ofW HT_.out HW_.out (by kernel_rfl)) (fun _ _ _ h => h) (Or.inl ⟨by rfl, ?_⟩) hHeld ?_ ?_
      rotate_left
      · rintro w' ⟨s0, s1⟩
        go_simp
        with_reducible rfl
      rotate_left
      · simp only [Act.put, List.setIfInBounds_toArray, List.set_cons_zero, List.set_cons_succ, i64_w, i32_w]
        rfl
      refine take_ (i := 1) (N := some 14) (v := ?_) (a' := ?_) #[true, true, false, false, false, false, false] rfl rfl (take_ofW HT_.out HW_.out (by kernel_rfl)) (fun _ _ _ h => h) (Or.inl ⟨by rfl, ?_⟩) hHeld ?_ ?_
      rotate_left
      · rintro w' ⟨s0, s1⟩
        go_simp
        with_reducible rfl
      rotate_left
      · simp only [Act.put, List.setIfInBounds_toArray, List.set_cons_zero, List.set_cons_succ, i64_w, i32_w]
        rfl
      refine pure_ (i := 2) (N := some 15) (v := ?_) (a' := ?_) #[true, true, true, false, false, false, false] rfl rfl (any_of HT_.out (by kernel_rfl)) (fun _ _ _ h => h) (Or.inl ⟨by rfl, ?_⟩) ?_ ?_
      rotate_left
      · intro w'
        go_simp
        with_reducible rfl
      rotate_left
      · simp only [Act.put, List.setIfInBounds_toArray, List.set_cons_zero, List.set_cons_succ, i64_w, i32_w]
        rfl
      refine pure_ (i := 3) (N := some 16) (v := ?_) (a' := ?_) #[true, true, true, true, false, false, false] rfl rfl (any_of HT_.out (by kernel_rfl)) (fun _ _ _ h => h) (Or.inl ⟨by rfl, ?_⟩) ?_ ?_
      rotate_left
      · intro w'
        go_simp
        with_reducible rfl
      rotate_left
      · simp only [Act.put, List.setIfInBounds_toArray, List.set_cons_zero, List.set_cons_succ, i64_w, i32_w]
        rfl
      refine pure_ (i := 4) (N := some 17) (v := ?_) (a' := ?_) #[true, true, true, true, true, false, false] rfl rfl (any_of HT_.out (by kernel_rfl)) (fun _ _ _ h => h) (Or.inl ⟨by rfl, ?_⟩) ?_ ?_
      rotate_left
      · intro w'
        go_simp
        with_reducible rfl
      rotate_left
      · simp only [Act.put, List.setIfInBounds_toArray, List.set_cons_zero, List.set_cons_succ, i64_w, i32_w]
        rfl
      refine pure_ (i := 5) (N := some 18) (v := ?_) (a' := ?_) #[true, true, true, true, true, true, false] rfl rfl (any_of HT_.out (by kernel_rfl)) (fun _ _ _ h => h) (Or.inl ⟨by rfl, ?_⟩) ?_ ?_
      rotate_left
      · intro w'
        go_simp
        with_reducible rfl
      rotate_left
      · simp only [Act.put, List.setIfInBounds_toArray, List.set_cons_zero, List.set_cons_succ, i64_w, i32_w]
        rfl
      refine pure_ (i := 6) (N := some 5) (v := ?_) (a' := ?_) #[true, true, true, true, true, true, true] rfl rfl (any_of HT_.out (by kernel_rfl)) (fun _ _ _ h => h) (Or.inl ⟨by rfl, ?_⟩) ?_ ?_
      rotate_left
      · intro w'
        go_simp
        with_reducible rfl
      rotate_left
      · simp only [Act.put, List.setIfInBounds_toArray, List.set_cons_zero, List.set_cons_succ, i64_w, i32_w]
        rfl
      refine done_ (done_of HT_.out (by kernel_rfl)) ?_
      have hs := hHeld.1
      have hN := hHeld.2
      clear hHeld HT_ HW_
      gi_wp2
      refine hR.mono ?_
      rintro e W3 (⟨rfl, hJ3, hk3⟩ | ⟨rfl, hJx3⟩)
      · have hN := (World.cell?_of_block (a := ⟨Bn, 0, none⟩) hk3.2).trans hN
        gi_wp2
        go_roundw
        case rel => exact ⟨k + 1, q + 5, by omega, by have := HQ.out; omega, by rw [HW5.out], by rw [fin_take hkm]; exact hJ3, hk3.1.trans hnx.1, hk3.2.trans hnx.2⟩
        case measure =>
          show N - (intOf (.int .i64 (wrap64 ((q : Int) + 5)))).toNat < N - (intOf (.int .i64 (q : Int))).toNat
          rw [HW5.out]
          simp only [intOf, Int.toNat_natCast]
          omega
      · gi_wp2
        refine bodyPost_ret (results_none rfl _ _ _) rfl ?_
        exact ⟨⟨_, rfl⟩, .inr ⟨_, ⟨k + 1, by omega, (fin_take hkm).symm⟩, hJx3⟩⟩
    · obtain rfl : k = m := by have := HQ.out; have := HNm.out; omega
      gi_wp2
      go_end0
      exact ⟨⟨_, rfl⟩, .inl ⟨_, by rw [List.take_of_length_le (by simp)], hJs⟩⟩
end Go.Proofs.Ytiafnckmlklodaa.P
