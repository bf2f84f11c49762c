/- What the document's answers of chapter 04 come to: the same. -/
import Derived.Test.YtiafnckmlklodaaPx11
import Derived.Test.YtiafnckmlklodaaPx12
import Derived.Test.YtiafnckmlklodaaPx13
import Derived.Test.YtiafnckmlklodaaPx14
import Derived.Test.YtiafnckmlklodaaPx16
import Derived.Test.YtiafnckmlklodaaSpecC
namespace Go.Proofs.Ytiafnckmlklodaa.Spec
open Go.RowKit Go.Proofs.Ytiafnckmlklodaa.P Go.Proofs.YtiafnckmlklodaaW.PrintWords Go.Proofs.YtiafnckmlklodaaW.PrintLast

theorem refmay_f (a b c d : Int) : drydockref04_May.f a b c d = some (mayS ⟨a, b, c, d⟩) := by
  unfold drydockref04_May.f
  cases hm : mayS ⟨a, b, c, d⟩ with
  | true =>
    have h := mayS_iff.1 hm
    have hb := mayS_b hm
    simp only at h hb
    rw [if_neg (by omega), if_neg (by omega), if_neg (by omega), if_neg (by omega), if_neg (by omega), if_neg (by omega), if_neg (by omega), if_neg (by omega)]
    by_cases h3 : a = 3
    · rw [if_pos h3] at h
      rw [if_pos h3, show c = 1 by omega]; rfl
    · rw [if_neg h3]
  | false =>
    by_cases h0 : a < 0
    · rw [if_pos h0]
    · rw [if_neg h0]
      by_cases h1 : a > 3
      · rw [if_pos h1]
      · rw [if_neg h1]
        by_cases h2 : b < 1
        · rw [if_pos h2]
        · rw [if_neg h2]
          by_cases h3 : b > 16
          · rw [if_pos h3]
          · rw [if_neg h3]
            by_cases h4 : c < 1
            · rw [if_pos h4]
            · rw [if_neg h4]
              by_cases h5 : c > 4
              · rw [if_pos h5]
              · rw [if_neg h5]
                by_cases h6 : d < 0
                · rw [if_pos h6]
                · rw [if_neg h6]
                  by_cases h7 : d > 1000
                  · rw [if_pos h7]
                  · rw [if_neg h7]
                    by_cases h8 : a = 3
                    · rw [if_pos h8]
                      by_cases h9 : c = 1
                      · exfalso
                        have : mayS ⟨a, b, c, d⟩ = true := mayS_iff.2 (by simp only; rw [if_pos h8]; omega)
                        rw [hm] at this; cases this
                      · congr 1; simpa using h9
                    · exfalso
                      have : mayS ⟨a, b, c, d⟩ = true := mayS_iff.2 (by simp only; rw [if_neg h8]; omega)
                      rw [hm] at this; cases this
theorem refput_l (l : List S34) (hl : l.length ≤ 4) : ∀ (d i : Nat) (acc : List Int), l.length - i = d → i ≤ l.length → acc ++ (l.drop i).flatMap encB = bytesS l →
    Ev (fun k => drydockref04_Put.l0 k l acc (i : Int)) (if (l.drop i).all mayS = true then (bytesS l, 0) else ([], 1)) := by
  intro d
  induction d with
  | zero =>
    intro i acc hd hi ha
    rw [List.drop_eq_nil_of_le (by omega)] at ha ⊢
    refine Ev.step (f := fun _ => some (acc, 0)) (fun k => by simp only [drydockref04_Put.l0]; rw [if_neg (by omega)]) (ev_now ?_)
    rw [← ha]; simp
  | succ d ih =>
    intro i acc hd hi ha
    have hlt : i < l.length := by omega
    have hlen := congrArg List.length ha
    rw [List.length_append, encB_len, bytesS_len] at hlen
    rw [← List.getElem_cons_drop hlt, List.all_cons]
    cases hm : mayS l[i] with
    | false =>
      simp only [Bool.false_and, Bool.false_eq_true, if_false]
      refine Ev.step (f := fun _ => some (([] : List Int), 1)) (fun k => ?_) (Ev.now _)
      simp only [drydockref04_Put.l0]
      rw [if_pos (by omega), if_pos (by omega), rd_T34_nat l i hlt, refmay_f]
      show (some (mayS l[i])).bind _ = _
      rw [hm]; rfl
    | true =>
      simp only [Bool.true_and]
      have hb := mayS_b hm
      refine Ev.step (f := fun k => drydockref04_Put.l0 k l (acc ++ encB l[i]) ((i + 1 : Nat) : Int)) (fun k => ?_) (ih (i + 1) (acc ++ encB l[i]) (by omega) (by omega) ?_)
      · simp only [drydockref04_Put.l0]
        rw [if_pos (by omega), if_pos (by omega), rd_T34_nat l i hlt, refmay_f]
        show (some (mayS l[i])).bind _ = _
        rw [hm]
        simp only [Option.bind_some, if_true]
        rw [if_pos (by simp only [List.length_cons, List.length_nil]; omega), wrap_up (by omega)]
        have e1 : wrap64 (Int.tdiv l[i].f3 256) % 256 = l[i].f3 / 256 % 256 := by
          rw [Int.tdiv_eq_ediv_of_nonneg (by omega), wrap_s (by omega) (by omega)]
        have e2 : Int.tmod l[i].f3 256 % 256 = l[i].f3 % 256 := by
          rw [Int.tmod_eq_emod_of_nonneg (by omega)]; omega
        rw [e1, e2]
        rfl
      · rw [← ha, ← List.getElem_cons_drop hlt, List.flatMap_cons, List.append_assoc]
theorem refput_ev (l : List S34) : Ev (fun k => drydockref04_Put.f k l) (putS l) := by
  unfold drydockref04_Put.f
  by_cases h4 : (l.length : Int) > 4
  · simp only [if_pos h4]
    rw [putS_no (fun z => by have := z.1; omega)]
    exact Ev.now _
  · simp only [if_neg h4]
    have h := refput_l l (by omega) l.length 0 [((l.length : Int)) % 256] (by omega) (by omega) (by simp [bytesS])
    rw [List.drop_zero] at h
    have e : putS l = if l.all mayS = true then (bytesS l, 0) else ([], 1) := by
      by_cases hm : l.all mayS = true
      · rw [if_pos hm, putS_ok ⟨by omega, hm⟩]
      · rw [if_neg hm, putS_no (fun z => hm z.2)]
    rw [e]; exact h
theorem wrap_b' {y : Int} (h : 0 ≤ y ∧ y ≤ 255) : wrap64 y = y := wrap_s (by omega) (by omega)
theorem refget_l (l : List Int) (m : Nat) (hr : ∀ x ∈ l, 0 ≤ x ∧ x ≤ 255) (hl : l.length = 1 + 5 * m) (hm4 : m ≤ 4) : ∀ (d i : Nat) (acc : List S34), m - i = d → i ≤ m → acc = (decS l m).take i →
    Ev (fun k => drydockref04_Get.l0 k l acc ((1 + 5 * i : Nat) : Int)) (if ((decS l m).drop i).all mayS = true then (decS l m, 0) else ([], 7)) := by
  have hdl : (decS l m).length = m := by simp [decS]
  intro d
  induction d with
  | zero =>
    intro i acc hd hi ha
    rw [List.drop_eq_nil_of_le (by omega)]
    refine Ev.step (f := fun _ => some (acc, 0)) (fun k => by simp only [drydockref04_Get.l0]; rw [if_neg (by omega)]) (ev_now ?_)
    rw [ha, List.take_of_length_le (by omega)]; simp
  | succ d ih =>
    intro i acc hd hi ha
    have hlt : i < m := by omega
    have hlt' : i < (decS l m).length := by omega
    have hel : (decS l m)[i] = chunkS l i := decS_at hlt'
    have w1 : wrap64 (((1 + 5 * i : Nat) : Int) + 1) = ((2 + 5 * i : Nat) : Int) := by rw [wrap_s (by omega) (by omega)]; omega
    have w2 : wrap64 (((1 + 5 * i : Nat) : Int) + 2) = ((3 + 5 * i : Nat) : Int) := by rw [wrap_s (by omega) (by omega)]; omega
    have w3 : wrap64 (((1 + 5 * i : Nat) : Int) + 3) = ((4 + 5 * i : Nat) : Int) := by rw [wrap_s (by omega) (by omega)]; omega
    have w4 : wrap64 (((1 + 5 * i : Nat) : Int) + 4) = ((5 + 5 * i : Nat) : Int) := by rw [wrap_s (by omega) (by omega)]; omega
    have w5 : wrap64 (((1 + 5 * i : Nat) : Int) + 5) = ((1 + 5 * (i + 1) : Nat) : Int) := by rw [wrap_s (by omega) (by omega)]; omega
    have b1 := hr _ (rd_mem (l := l) (i := ((1 + 5 * i : Nat) : Int)) (by omega) (by omega))
    have b2 := hr _ (rd_mem (l := l) (i := ((2 + 5 * i : Nat) : Int)) (by omega) (by omega))
    have b3 := hr _ (rd_mem (l := l) (i := ((3 + 5 * i : Nat) : Int)) (by omega) (by omega))
    have b4 := hr _ (rd_mem (l := l) (i := ((4 + 5 * i : Nat) : Int)) (by omega) (by omega))
    have b5 := hr _ (rd_mem (l := l) (i := ((5 + 5 * i : Nat) : Int)) (by omega) (by omega))
    have al : acc.length ≤ 4 := by rw [ha, List.length_take]; omega
    have step : ∀ k, drydockref04_Get.l0 (k + 1) l acc ((1 + 5 * i : Nat) : Int) = (if mayS (chunkS l i) = true then (if acc.length < 4398046511104 then drydockref04_Get.l0 k l (acc ++ [chunkS l i]) ((1 + 5 * (i + 1) : Nat) : Int) else none) else some (([] : List S34), 7)) := fun k => by
      simp only [drydockref04_Get.l0]
      rw [w1, w2, w3, w4, w5]
      rw [if_pos (by omega), if_pos (by omega), if_pos (by omega), if_pos (by omega), if_pos (by omega), if_pos (by omega), if_pos (by omega), if_pos (by omega), if_pos (by omega), if_pos (by omega)]
      rw [wrap_b' b1, wrap_b' b2, wrap_b' b3, wrap_b' b4, wrap_b' b5, wrap_s (a := 256 * rd l ((4 + 5 * i : Nat) : Int)) (by omega) (by omega), wrap_s (a := 256 * rd l ((4 + 5 * i : Nat) : Int) + rd l ((5 + 5 * i : Nat) : Int)) (by omega) (by omega), refmay_f]
      rfl
    rw [← List.getElem_cons_drop hlt', List.all_cons, hel]
    cases hmm : mayS (chunkS l i) with
    | false =>
      simp only [Bool.false_and, Bool.false_eq_true, if_false]
      exact Ev.step (f := fun _ => some (([] : List S34), 7)) (fun k => by rw [step, hmm]; rfl) (Ev.now _)
    | true =>
      simp only [Bool.true_and]
      refine Ev.step (f := fun k => drydockref04_Get.l0 k l (acc ++ [chunkS l i]) ((1 + 5 * (i + 1) : Nat) : Int)) (fun k => by rw [step, hmm, if_pos rfl, if_pos (by omega)]) (ih (i + 1) (acc ++ [chunkS l i]) (by omega) (by omega) ?_)
      rw [ha, ← hel, List.take_append_getElem hlt']
theorem refget_ev (l : List Int) (hl : l.length ≤ 100) (hr : ∀ x ∈ l, 0 ≤ x ∧ x ≤ 255) : Ev (fun k => drydockref04_Get.f k l) (getS l) := by
  have no : ¬ getOk l → Ev (fun k => drydockref04_Get.j0 k l true) (getS l) := fun h => by
    refine Ev.step (f := fun _ => some (([] : List S34), 7)) (fun k => by simp only [drydockref04_Get.j0, if_true]) (ev_now ?_)
    rw [getS_no h]
  unfold drydockref04_Get.f
  by_cases h0 : (l.length : Int) = 0
  · simp only [if_pos h0]
    exact no (fun z => by have := z.1; omega)
  · have h0' : 0 < (l.length : Int) := by omega
    simp only [if_neg h0, if_pos h0']
    have b0 := hr _ (rd_mem (l := l) (i := 0) (by omega) (by omega))
    by_cases h4 : rd l 0 > 4
    · simp only [if_pos h4]
      refine no (fun z => ?_)
      have := z.2.2.1
      have hdl : (decS l (rd l 0).toNat).length = (rd l 0).toNat := by simp [decS]
      omega
    · simp only [if_neg h4]
      rw [wrap_b' b0, wrap_s (a := 5 * rd l 0) (by omega) (by omega), wrap_s (by omega) (by omega)]
      by_cases hn : (l.length : Int) = 1 + 5 * rd l 0
      · rw [show ((l.length : Int) != 1 + 5 * rd l 0) = false from by rw [hn]; simp]
        obtain ⟨m, hm⟩ := Int.eq_ofNat_of_zero_le b0.1
        have hll : l.length = 1 + 5 * m := by omega
        refine Ev.step (f := fun k => drydockref04_Get.l0 k l [] 1) (fun k => by simp only [drydockref04_Get.j0, Bool.false_eq_true, if_false]) ?_
        have h := refget_l l m hr hll (by omega) m 0 [] (by omega) (by omega) (by simp)
        have e : getS l = if ((decS l m).drop 0).all mayS = true then (decS l m, 0) else ([], 7) := by
          have hdl : (decS l m).length = m := by simp [decS]
          rw [List.drop_zero]
          have e1 : decS l (rd l 0).toNat = decS l m := by rw [hm]; rfl
          by_cases hz : (decS l m).all mayS = true
          · rw [if_pos hz, getS_ok ⟨by omega, hn, by rw [e1]; exact ⟨by omega, hz⟩⟩, e1]
          · rw [if_neg hz, getS_no]
            intro z
            have := z.2.2.2
            rw [e1] at this
            exact hz this
        rw [e]; exact h
      · rw [show ((l.length : Int) != 1 + 5 * rd l 0) = true from bne_iff_ne.2 hn]
        exact no (fun z => hn z.2.1)
theorem refroom_f (a b c d : Int) : drydockref04_Room.f a b c d = some (roomS ⟨a, b, c, d⟩) := by
  unfold drydockref04_Room.f roomS
  rw [refmay_f]
  simp only [Option.bind_some]
  by_cases h : mayS ⟨a, b, c, d⟩ = true
  · rw [if_pos h, if_pos h]
    have hb := mayS_b h
    simp only at hb
    have := mul_b (a := b) (b := c + 1) ⟨hb.2.2.1, hb.2.2.2.1⟩ ⟨by omega, by omega⟩
    rw [Int.mul_add, Int.mul_one] at this
    rw [wrap_s (a := b * c) (by omega) (by omega), wrap_s (by omega) (by omega)]
    rw [Int.mul_add, Int.mul_one, Int.add_comm]
  · rw [if_neg h, if_neg h]
theorem refstep_ev (a b c d e f g h : Int) : Ev (fun k => drydockref04_Step.f k a b c d e f g h) (stepS ⟨a, b, c, d⟩ ⟨e, f, g, h⟩) := by
  unfold drydockref04_Step.f
  rw [refmay_f, refmay_f]
  simp only [Option.bind_some]
  have gen : ∀ x y, ¬ (x = true ∧ y = true) → Ev (fun k => drydockref04_Step.j0 k x y false a b c d e f g h) 2 := fun x y hxy => by
    refine Ev.step (f := fun _ => some 2) (fun k => ?_) (Ev.now _)
    simp only [drydockref04_Step.j0, Bool.false_eq_true, if_false]
    by_cases hx : x = true
    · rw [if_pos hx, if_neg (fun z => hxy ⟨hx, z⟩)]
    · rw [if_neg hx]
  by_cases h1 : mayS ⟨a, b, c, d⟩ = true
  · by_cases h2 : mayS ⟨e, f, g, h⟩ = true
    · simp only [if_pos h1, if_pos h2]
      have hb := mayS_b h1
      have hb' := mayS_b h2
      simp only at hb hb'
      unfold stepS
      rw [if_pos ⟨h1, h2⟩]
      simp only
      by_cases z : a = e ∧ b = f ∧ c = g ∧ d = h
      · obtain ⟨rfl, rfl, rfl, rfl⟩ := z
        simp only [beq_self_eq_true, Bool.and_self, if_true, and_self]
        exact Ev.step (f := fun _ => some 0) (fun k => by simp only [drydockref04_Step.j0, if_true]) (Ev.now _)
      · have zf : (a == e && (b == f && (c == g && (d == h)))) = false := by
          rw [Bool.eq_false_iff]
          intro q
          simp only [Bool.and_eq_true, beq_iff_eq] at q
          exact z q
        rw [zf]
        refine Ev.step (f := fun _ => some (if a = e then (if h - d = 1 then 1 else 2) else 2)) (fun k => ?_) (ev_now ?_)
        · simp only [drydockref04_Step.j0, Bool.false_eq_true, if_false, if_pos h1, if_pos h2]
          rw [wrap_s (by omega) (by omega)]
          by_cases z0 : a = e
          · by_cases z1 : h - d = 1 <;> simp [z0, z1]
          · simp [z0]
        · by_cases z0 : a = e
          · rw [if_pos z0, if_pos z0, if_neg (fun q => z ⟨z0, q⟩)]
            by_cases z1 : h - d = 1
            · rw [if_pos z1, if_pos (by omega)]
            · rw [if_neg z1, if_neg (by omega)]
          · rw [if_neg z0, if_neg z0]
    · simp only [if_pos h1, if_neg h2]
      unfold stepS; rw [if_neg (fun z => h2 z.2)]
      exact gen _ _ (fun z => h2 z.2)
  · simp only [if_neg h1]
    unfold stepS; rw [if_neg (fun z => h1 z.1)]
    exact gen _ _ (fun z => h1 z.1)

end Go.Proofs.Ytiafnckmlklodaa.Spec
