/- EpochWaits -/
import Derived.Test.YtipnfcicpnmggaaPx21 -- the law
import Derived.Test.YtipnfcicpnmggaaSpecB
namespace Go.Proofs.Ytipnfcicpnmggaa.Pure
open Go.Proofs.Ytipnfcicpnmggaa.Spec Go.RowKit Go.Proofs.Ytipnfcicpnmggaa.P Go.Proofs.YtipnfcicpnmggaaW.PrintWords Go.Proofs.YtipnfcicpnmggaaW.PrintLast

def bv (i : Bool) : Int := if i = true then 1 else 0
def vv (i la le : Bool) : Int := if i = true then (if le = true then 0 else 1) else (if la = true then 2 else 0)
theorem bv_in (i : Bool) : 0 ≤ bv i ∧ bv i ≤ 1 := by cases i <;> decide
theorem vv_in (i la le : Bool) : 0 ≤ vv i la le ∧ vv i la le ≤ 2 := by cases i <;> cases la <;> cases le <;> decide
theorem vv_ok (i la le : Bool) : okc (vv i la le) 1 = !(i && !le) := by cases i <;> cases la <;> cases le <;> rfl
theorem upd_same {a b c d x v : Int} (h0 : 0 ≤ x) (h4 : x < 4) (h : sel4I a b c d x = v) : updI 0 x v a = a ∧ updI 1 x v b = b ∧ updI 2 x v c = c ∧ updI 3 x v d = d := by
  obtain rfl | rfl | rfl | rfl : x = 0 ∨ x = 1 ∨ x = 2 ∨ x = 3 := by omega
  · obtain rfl : a = v := h; exact ⟨rfl, rfl, rfl, rfl⟩
  · obtain rfl : b = v := h; exact ⟨rfl, rfl, rfl, rfl⟩
  · obtain rfl : c = v := h; exact ⟨rfl, rfl, rfl, rfl⟩
  · obtain rfl : d = v := h; exact ⟨rfl, rfl, rfl, rfl⟩
section
variable {i0 i1 i2 i3 a0 a1 a2 a3 e0 e1 e2 e3 : Bool}
theorem may1 {a b c d : Int} (ha : 0 ≤ a ∧ a ≤ 1) (hb : 0 ≤ b ∧ b ≤ 1) (hc : 0 ≤ c ∧ c ≤ 1) (hd : 0 ≤ d ∧ d ≤ 1) : mayE 1 a b c d [] = true := mayE_iff.2 ⟨by omega, by simp, ha, hb, hc, hd, rfl⟩
theorem may2 {a b c d : Int} (ha : 0 ≤ a ∧ a ≤ 2) (hb : 0 ≤ b ∧ b ≤ 2) (hc : 0 ≤ c ∧ c ≤ 2) (hd : 0 ≤ d ∧ d ≤ 2) : mayE 2 a b c d [⟨7, 1⟩] = true := mayE_iff.2 ⟨by omega, by simp, ha, hb, hc, hd, rfl⟩
theorem st1 {a b c d x y : Int} {i : Bool} (h0 : 0 ≤ x) (h4 : x < 4) (hy : y = x + 1) (hi : sel4B i0 i1 i2 i3 x = i) (hs : sel4I a b c d x = 0) (hm : mayE 1 a b c d [] = true)
    (h : Ev (fun k => drydocklaw17_EpochWaits.l0 k true y i0 i1 i2 i3 a0 a1 a2 a3 e0 e1 e2 e3 1 (updI 0 x (bv i) a) (updI 1 x (bv i) b) (updI 2 x (bv i) c) (updI 3 x (bv i) d) []) true) :
    Ev (fun k => drydocklaw17_EpochWaits.l0 k true x i0 i1 i2 i3 a0 a1 a2 a3 e0 e1 e2 e3 1 a b c d []) true := by
  subst hy
  refine Ev.step (f := fun k => _) (fun k => by simp only [drydocklaw17_EpochWaits.l0]; rw [if_pos h4, if_pos h0, wrap_s (by omega) (by omega), hi]) ?_
  cases i with
  | true =>
    simp only [if_true]
    refine Ev.bind (Enter_ev 1 a b c d x (by simp)) ?_
    rw [show tnS 1 a b c d [] x false 1 = (1, updI 0 x 1 a, updI 1 x 1 b, updI 2 x 1 c, updI 3 x 1 d, [], 0) from by
      unfold tnS; rw [if_pos hm, if_pos (inb_iff.2 ⟨h0, by omega⟩), if_neg (by simp [hs])]]
    exact h
  | false =>
    simp only [Bool.false_eq_true, if_false]
    obtain ⟨g1, g2, g3, g4⟩ := upd_same h0 h4 hs
    rw [show bv false = 0 from rfl, g1, g2, g3, g4] at h
    exact h
theorem st2 {a b c d x y : Int} {i la le w : Bool} (h0 : 0 ≤ x) (h4 : x < 4) (hy : y = x + 1) (hi : sel4B i0 i1 i2 i3 x = i) (hla : sel4B a0 a1 a2 a3 x = la) (hle : sel4B e0 e1 e2 e3 x = le) (hs : sel4I a b c d x = bv i) (hm : mayE 2 a b c d [⟨7, 1⟩] = true)
    (h : Ev (fun k => drydocklaw17_EpochWaits.l1 k true 0 (w || (i && !le)) y i0 i1 i2 i3 a0 a1 a2 a3 e0 e1 e2 e3 2 (updI 0 x (vv i la le) a) (updI 1 x (vv i la le) b) (updI 2 x (vv i la le) c) (updI 3 x (vv i la le) d) [⟨7, 1⟩]) true) :
    Ev (fun k => drydocklaw17_EpochWaits.l1 k true 0 w x i0 i1 i2 i3 a0 a1 a2 a3 e0 e1 e2 e3 2 a b c d [⟨7, 1⟩]) true := by
  subst hy
  have hin : inb x 0 3 = true := inb_iff.2 ⟨h0, by omega⟩
  obtain ⟨g1, g2, g3, g4⟩ := upd_same h0 h4 hs
  refine Ev.step (f := fun k => drydocklaw17_EpochWaits.j2 k true 0 w x (i && le) i0 i1 i2 i3 a0 a1 a2 a3 e0 e1 e2 e3 2 a b c d [⟨7, 1⟩]) (fun k => by
    simp only [drydocklaw17_EpochWaits.l1]; rw [if_pos h4, if_pos h0, hi, hle]; cases i <;> simp) ?_
  cases i with
  | true =>
    cases le with
    | true =>
      refine Ev.step (f := fun k => (epoch_Leave.f k 2 a b c d [⟨7, 1⟩] x).bind fun t => drydocklaw17_EpochWaits.l1 k true 0 w (x + 1) i0 i1 i2 i3 a0 a1 a2 a3 e0 e1 e2 e3 t.1 t.2.1 t.2.2.1 t.2.2.2.1 t.2.2.2.2.1 t.2.2.2.2.2.1) (fun k => by
        cases w <;> simp [drydocklaw17_EpochWaits.j2, h0, h4, wrap_s (x := x + 1) (by omega) (by omega), hi, hle]) ?_
      refine Ev.bind (Leave_ev 2 a b c d x (by simp)) ?_
      rw [show tnS 2 a b c d [⟨7, 1⟩] x true 0 = (2, updI 0 x 0 a, updI 1 x 0 b, updI 2 x 0 c, updI 3 x 0 d, [⟨7, 1⟩], 0) from by
        unfold tnS; rw [if_pos hm, if_pos hin, if_neg (by rw [hs]; decide)]]
      simpa [vv] using h
    | false =>
      refine Ev.step (f := fun k => drydocklaw17_EpochWaits.l1 k true 0 true (x + 1) i0 i1 i2 i3 a0 a1 a2 a3 e0 e1 e2 e3 2 a b c d [⟨7, 1⟩]) (fun k => by
        cases w <;> simp [drydocklaw17_EpochWaits.j2, h0, h4, wrap_s (x := x + 1) (by omega) (by omega), hi, hle]) ?_
      rw [show vv true la false = bv true from rfl, g1, g2, g3, g4] at h
      simpa using h
  | false =>
    cases la with
    | true =>
      refine Ev.step (f := fun k => (epoch_Enter.f k 2 a b c d [⟨7, 1⟩] x).bind fun t => drydocklaw17_EpochWaits.l1 k true 0 w (x + 1) i0 i1 i2 i3 a0 a1 a2 a3 e0 e1 e2 e3 t.1 t.2.1 t.2.2.1 t.2.2.2.1 t.2.2.2.2.1 t.2.2.2.2.2.1) (fun k => by
        cases w <;> simp [drydocklaw17_EpochWaits.j2, h0, h4, wrap_s (x := x + 1) (by omega) (by omega), hi, hla]) ?_
      refine Ev.bind (Enter_ev 2 a b c d x (by simp)) ?_
      rw [show tnS 2 a b c d [⟨7, 1⟩] x false 2 = (2, updI 0 x 2 a, updI 1 x 2 b, updI 2 x 2 c, updI 3 x 2 d, [⟨7, 1⟩], 0) from by
        unfold tnS; rw [if_pos hm, if_pos hin, if_neg (by rw [hs]; decide)]]
      simpa [vv] using h
    | false =>
      refine Ev.step (f := fun k => drydocklaw17_EpochWaits.l1 k true 0 w (x + 1) i0 i1 i2 i3 a0 a1 a2 a3 e0 e1 e2 e3 2 a b c d [⟨7, 1⟩]) (fun k => by
        cases w <;> simp [drydocklaw17_EpochWaits.j2, h0, h4, wrap_s (x := x + 1) (by omega) (by omega), hi, hla]) ?_
      rw [show vv false false le = bv false from by cases le <;> rfl, g1, g2, g3, g4] at h
      simpa using h
theorem fin {a b c d : Int} {w : Bool} (hm : mayE 2 a b c d [⟨7, 1⟩] = true) (hw : rdB a b c d 1 = !w) : Ev (fun k => drydocklaw17_EpochWaits.l1 k true 0 w 4 i0 i1 i2 i3 a0 a1 a2 a3 e0 e1 e2 e3 2 a b c d [⟨7, 1⟩]) true := by
  refine Ev.step (f := fun k => _) (fun k => by simp only [drydocklaw17_EpochWaits.l1]; rw [if_neg (by omega)]) ?_
  refine Ev.bind (Ready_ev 2 a b c d (by simp)) ?_
  refine Ev.bind (clear_ev 2 a b c d (by simp)) ?_
  have hc : clS 2 a b c d [⟨7, 1⟩] = (2, a, b, c, d, lfL a b c d [⟨7, 1⟩], if w = true then [] else [7]) := by
    unfold clS; rw [if_pos hm]
    have : rdL a b c d [⟨7, 1⟩] = if w = true then [] else [7] := by
      rw [rd_cons]
      show (if rdB a b c d 1 = true then _ else _) = _
      rw [hw]; cases w <;> rfl
    rw [this]
  rw [hc]
  simp only [if_true]
  cases w with
  | true =>
    simp only [if_true]
    refine Ev.bind (ints_self (by simp)) ?_
    simp only [if_true, List.length_nil]
    refine Ev.congr (f := fun k => (epoch_May.f k 2 a b c d [⟨7, 1⟩]).bind fun t => some t) (fun k => by simp) ?_
    refine Ev.bind (may_ev 2 a b c d (by simp)) ?_
    rw [hm]; exact Ev.now _
  | false =>
    simp only [Bool.false_eq_true, if_false]
    refine Ev.bind (ints_self (by simp)) ?_
    simp only [if_true]
    refine Ev.congr (f := fun k => (epoch_May.f k 2 a b c d [⟨7, 1⟩]).bind fun t => some t) (fun k => by simp [rd]) ?_
    refine Ev.bind (may_ev 2 a b c d (by simp)) ?_
    rw [hm]; exact Ev.now _
end
theorem EpochWaits : ∀ (a0_0 : Bool) (a0_1 : Bool) (a0_2 : Bool) (a0_3 : Bool) (a1_0 : Bool) (a1_1 : Bool) (a1_2 : Bool) (a1_3 : Bool) (a2_0 : Bool) (a2_1 : Bool) (a2_2 : Bool) (a2_3 : Bool), ((True) ∧ (True) ∧ (True) ∧ (True)) → ((True) ∧ (True) ∧ (True) ∧ (True)) → ((True) ∧ (True) ∧ (True) ∧ (True)) → ∃ k, drydocklaw17_EpochWaits.f k a0_0 a0_1 a0_2 a0_3 a1_0 a1_1 a1_2 a1_3 a2_0 a2_1 a2_2 a2_3 = some true := by
  intro i0 i1 i2 i3 a0 a1 a2 a3 e0 e1 e2 e3 _ _ _
  suffices h : Ev (fun k => drydocklaw17_EpochWaits.f k i0 i1 i2 i3 a0 a1 a2 a3 e0 e1 e2 e3) true from h.rounds
  unfold drydocklaw17_EpochWaits.f
  refine Ev.bind awake_ev ?_
  have z1 : (0 : Int) ≤ 0 ∧ (0 : Int) ≤ 1 := by omega
  refine st1 (y := 1) (by omega) (by omega) rfl rfl rfl (may1 z1 z1 z1 z1) ?_
  refine st1 (a := bv i0) (b := 0) (c := 0) (d := 0) (x := 1) (y := 2) (by omega) (by omega) rfl rfl rfl (may1 (bv_in i0) z1 z1 z1) ?_
  refine st1 (a := bv i0) (b := bv i1) (c := 0) (d := 0) (x := 2) (y := 3) (by omega) (by omega) rfl rfl rfl (may1 (bv_in i0) (bv_in i1) z1 z1) ?_
  refine st1 (a := bv i0) (b := bv i1) (c := bv i2) (d := 0) (x := 3) (y := 4) (by omega) (by omega) rfl rfl rfl (may1 (bv_in i0) (bv_in i1) (bv_in i2) z1) ?_
  have hm1 := may1 (bv_in i0) (bv_in i1) (bv_in i2) (bv_in i3)
  refine Ev.step (f := fun k => (epoch_Retire.f k 1 (bv i0) (bv i1) (bv i2) (bv i3) [] 7).bind fun t => drydocklaw17_EpochWaits.l1 k true t.2.2.2.2.2.2 false 0 i0 i1 i2 i3 a0 a1 a2 a3 e0 e1 e2 e3 t.1 t.2.1 t.2.2.1 t.2.2.2.1 t.2.2.2.2.1 t.2.2.2.2.2.1) (fun k => by
    simp only [drydocklaw17_EpochWaits.l0]; rw [if_neg (by omega)]; rfl) ?_
  refine Ev.bind (retire_ev 1 _ _ _ _ 7 (by simp)) ?_
  rw [show rtS 1 (bv i0) (bv i1) (bv i2) (bv i3) [] 7 = (2, bv i0, bv i1, bv i2, bv i3, [⟨7, 1⟩], 0) from by
    unfold rtS; rw [if_pos ⟨hm1, by omega, by simp⟩, if_neg (by omega), if_neg (by simp)]; rfl]
  have b2 : ∀ i, 0 ≤ bv i ∧ bv i ≤ 2 := fun i => ⟨(bv_in i).1, by have := (bv_in i).2; omega⟩
  refine st2 (x := 0) (y := 1) (i := i0) (la := a0) (le := e0) (by omega) (by omega) rfl rfl rfl rfl rfl (may2 (b2 i0) (b2 i1) (b2 i2) (b2 i3)) ?_
  refine st2 (a := vv i0 a0 e0) (b := bv i1) (c := bv i2) (d := bv i3) (x := 1) (y := 2) (i := i1) (la := a1) (le := e1) (by omega) (by omega) rfl rfl rfl rfl rfl (may2 (vv_in ..) (b2 i1) (b2 i2) (b2 i3)) ?_
  refine st2 (a := vv i0 a0 e0) (b := vv i1 a1 e1) (c := bv i2) (d := bv i3) (x := 2) (y := 3) (i := i2) (la := a2) (le := e2) (by omega) (by omega) rfl rfl rfl rfl rfl (may2 (vv_in ..) (vv_in ..) (b2 i2) (b2 i3)) ?_
  refine st2 (a := vv i0 a0 e0) (b := vv i1 a1 e1) (c := vv i2 a2 e2) (d := bv i3) (x := 3) (y := 4) (i := i3) (la := a3) (le := e3) (by omega) (by omega) rfl rfl rfl rfl rfl (may2 (vv_in ..) (vv_in ..) (vv_in ..) (b2 i3)) ?_
  refine fin (a := vv i0 a0 e0) (b := vv i1 a1 e1) (c := vv i2 a2 e2) (d := vv i3 a3 e3) (may2 (vv_in ..) (vv_in ..) (vv_in ..) (vv_in ..)) ?_
  unfold rdB
  rw [vv_ok, vv_ok, vv_ok, vv_ok]
  cases i0 && !e0 <;> cases i1 && !e1 <;> cases i2 && !e2 <;> cases i3 && !e3 <;> rfl

end Go.Proofs.Ytipnfcicpnmggaa.Pure
