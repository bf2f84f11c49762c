/- What Same of layers 01, 03, 05 and 18 says of one and the same thing, and what Few of layers 03 and 05 comes to. -/
import Derived.Test.YtlboachgeepadaaSpecB
import Derived.Test.YtlboachgeepadaaPx10
import Derived.Test.YtlboachgeepadaaPx11
import Derived.Test.YtlboachgeepadaaPx19
import Derived.Test.YtlboachgeepadaaPx20
import Derived.Test.YtlboachgeepadaaPx21
import Derived.Test.YtlboachgeepadaaPx22
namespace Go.Proofs.Ytlboachgeepadaa.Spec
open Go.RowKit Go.Proofs.Ytlboachgeepadaa.P Go.Proofs.YtlboachgeepadaaW.PrintWords Go.Proofs.YtlboachgeepadaaW.PrintLast

theorem rd61 (l : List S61) (i : Nat) (h : i < l.length) : rd_T61 l (i : Int) = l[i] := by simp [rd_T61, List.getD, h]
theorem rd63 (l : List S63) (i : Nat) (h : i < l.length) : rd_T63 l (i : Int) = l[i] := by simp [rd_T63, List.getD, h]
theorem rd72 (l : List S72) (i : Nat) (h : i < l.length) : rd_T72 l (i : Int) = l[i] := by simp [rd_T72, List.getD, h]

theorem pos_ev {α : Type} {c : Prop} [Decidable c] {g f : Nat → Option α} {r : α} (h : c) (h' : Ev g r) : Ev (fun k => if c then g k else f k) r := by simpa only [if_pos h] using h'
theorem neg_ev {α : Type} {c : Prop} [Decidable c] {g f : Nat → Option α} {r : α} (h : ¬ c) (h' : Ev f r) : Ev (fun k => if c then g k else f k) r := by simpa only [if_neg h] using h'

/-! ### a thing is the same as itself -/
theorem words_l {l : List Int} (hl : l.length ≤ 100000) : ∀ (d i : Nat), l.length - i = d → i ≤ l.length → Ev (fun k => drydockref01_Words.l0 k l l i) true := by
  intro d
  induction d with
  | zero =>
    intro i hd hi
    exact Ev.step (f := fun _ => some true) (fun k => by simp only [drydockref01_Words.l0]; rw [if_neg (by omega)]) (Ev.now _)
  | succ d ih =>
    intro i hd hi
    have hlt : i < l.length := by omega
    exact Ev.step (f := fun k => drydockref01_Words.l0 k l l ((i + 1 : Nat) : Int)) (fun k => by simp only [drydockref01_Words.l0]; rw [if_pos (by omega), if_pos (by omega), if_pos (by omega), if_pos trivial, wrap_up (by omega)]) (ih (i + 1) (by omega) (by omega))
theorem words_refl {l : List Int} (hl : l.length ≤ 100000) : Ev (fun k => drydockref01_Words.f k l l) true := by
  have := words_l hl l.length 0 (by omega) (by omega)
  simpa [drydockref01_Words.f] using this
theorem same05_l {a0 a1 a2 a3 a5 : Int} {l : List S63} (hl : l.length ≤ 100000) (hv : ∀ x ∈ l, x.f1.length ≤ 100000) : ∀ (d i : Nat), l.length - i = d → i ≤ l.length → Ev (fun k => drydockref05_Same.l0 k i a0 a1 a2 a3 l a5 a0 a1 a2 a3 l a5) true := by
  intro d
  induction d with
  | zero =>
    intro i hd hi
    exact Ev.step (f := fun _ => some true) (fun k => by simp only [drydockref05_Same.l0]; rw [if_neg (by omega)]) (Ev.now _)
  | succ d ih =>
    intro i hd hi
    have hlt : i < l.length := by omega
    refine Ev.step (f := fun k => (drydockref01_Words.f k l[i].f1 l[i].f1).bind fun t => if t = true then drydockref05_Same.l0 k ((i + 1 : Nat) : Int) a0 a1 a2 a3 l a5 a0 a1 a2 a3 l a5 else some false) (fun k => by simp only [drydockref05_Same.l0]; rw [if_pos (by omega), if_pos (by omega), if_pos (by omega)]; simp only [if_true]; rw [rd63 l i hlt, wrap_up (by omega)]) ?_
    refine Ev.bind (words_refl (hv _ (List.getElem_mem hlt))) ?_
    simp only [if_true]
    exact ih (i + 1) (by omega) (by omega)
theorem same05_refl (a0 a1 a2 a3 a5 : Int) {l : List S63} (hl : l.length ≤ 100000) (hv : ∀ x ∈ l, x.f1.length ≤ 100000) : Ev (fun k => drydockref05_Same.f k a0 a1 a2 a3 l a5 a0 a1 a2 a3 l a5) true := by
  have := same05_l (a0 := a0) (a1 := a1) (a2 := a2) (a3 := a3) (a5 := a5) hl hv l.length 0 (by omega) (by omega)
  refine Ev.congr (f := fun k => drydockref05_Same.j0 k false a0 a1 a2 a3 l a5 a0 a1 a2 a3 l a5) (fun k => by simp [drydockref05_Same.f]) ?_
  refine Ev.step (f := fun k => drydockref05_Same.l0 k ((0 : Nat) : Int) a0 a1 a2 a3 l a5 a0 a1 a2 a3 l a5) (fun k => by simp [drydockref05_Same.j0]) this
theorem same03_in {l : List S61} {x : List S72} {a : Int} {i : Nat} (hl : i < 1000000) (hx : x.length ≤ 100000) {r : Bool} (h : Ev (fun k => drydockref03_Same.l0 k ((i + 1 : Nat) : Int) l l) r) : ∀ (d j : Nat), x.length - j = d → j ≤ x.length → Ev (fun k => drydockref03_Same.l1 k i j l l a x a x) r := by
  intro d
  induction d with
  | zero =>
    intro j hd hj
    exact Ev.step (f := fun k => drydockref03_Same.l0 k ((i + 1 : Nat) : Int) l l) (fun k => by simp only [drydockref03_Same.l1]; rw [if_neg (by omega), wrap_up (by omega)]) h
  | succ d ih =>
    intro j hd hj
    have hlt : j < x.length := by omega
    exact Ev.step (f := fun k => drydockref03_Same.l1 k i ((j + 1 : Nat) : Int) l l a x a x) (fun k => by simp only [drydockref03_Same.l1]; rw [if_pos (by omega), if_pos (by omega), if_pos (by omega), if_neg (by simp), wrap_up (by omega)]) (ih (j + 1) (by omega) (by omega))
theorem same03_l {l : List S61} (hl : l.length ≤ 100000) (hv : ∀ x ∈ l, x.f1.length ≤ 100000) : ∀ (d i : Nat), l.length - i = d → i ≤ l.length → Ev (fun k => drydockref03_Same.l0 k i l l) true := by
  intro d
  induction d with
  | zero =>
    intro i hd hi
    exact Ev.step (f := fun _ => some true) (fun k => by simp only [drydockref03_Same.l0]; rw [if_neg (by omega)]) (Ev.now _)
  | succ d ih =>
    intro i hd hi
    have hlt : i < l.length := by omega
    refine Ev.step (f := fun k => drydockref03_Same.j1 k i false l l l[i].f0 l[i].f1 l[i].f0 l[i].f1) (fun k => by simp only [drydockref03_Same.l0]; rw [if_pos (by omega), if_pos (by omega), if_pos (by omega)]; simp only [if_true]; rw [rd61 l i hlt]; simp) ?_
    refine Ev.step (f := fun k => drydockref03_Same.l1 k i ((0 : Nat) : Int) l l l[i].f0 l[i].f1 l[i].f0 l[i].f1) (fun k => by simp [drydockref03_Same.j1]) ?_
    exact same03_in (by omega) (hv _ (List.getElem_mem hlt)) (ih (i + 1) (by omega) (by omega)) _ 0 rfl (Nat.zero_le _)
theorem same03_refl {l : List S61} (hl : l.length ≤ 100000) (hv : ∀ x ∈ l, x.f1.length ≤ 100000) : Ev (fun k => drydockref03_Same.f k l l) true := by
  have := same03_l hl hv l.length 0 (by omega) (by omega)
  simpa [drydockref03_Same.f] using this
theorem same18_l {a0 a1 a2 a3 a6 a7 a8 a9 a11 : Int} {l4 : List S61} {l5 : List Int} {l10 : List S63} (hl : l5.length ≤ 100000) : ∀ (d i : Nat), l5.length - i = d → i ≤ l5.length → Ev (fun k => drydockref18_Same.l0 k i a0 a1 a2 a3 l4 l5 a6 a7 a8 a9 l10 a11 a0 a1 a2 a3 l4 l5 a6 a7 a8 a9 l10 a11) true := by
  intro d
  induction d with
  | zero =>
    intro i hd hi
    exact Ev.step (f := fun _ => some true) (fun k => by simp only [drydockref18_Same.l0]; rw [if_neg (by omega)]) (Ev.now _)
  | succ d ih =>
    intro i hd hi
    have hlt : i < l5.length := by omega
    exact Ev.step (f := fun k => drydockref18_Same.l0 k ((i + 1 : Nat) : Int) a0 a1 a2 a3 l4 l5 a6 a7 a8 a9 l10 a11 a0 a1 a2 a3 l4 l5 a6 a7 a8 a9 l10 a11) (fun k => by simp only [drydockref18_Same.l0]; rw [if_pos (by omega), if_pos (by omega), if_pos (by omega), if_pos trivial, wrap_up (by omega)]) (ih (i + 1) (by omega) (by omega))
theorem same18_refl (a0 a1 a2 a3 a6 a7 a8 a9 a11 : Int) {l4 : List S61} {l5 : List Int} {l10 : List S63} (h4 : l4.length ≤ 100000) (h4v : ∀ x ∈ l4, x.f1.length ≤ 100000) (h5 : l5.length ≤ 100000) (h10 : l10.length ≤ 100000) (h10v : ∀ x ∈ l10, x.f1.length ≤ 100000) :
    Ev (fun k => drydockref18_Same.f k a0 a1 a2 a3 l4 l5 a6 a7 a8 a9 l10 a11 a0 a1 a2 a3 l4 l5 a6 a7 a8 a9 l10 a11) true := by
  have := same18_l (a0 := a0) (a1 := a1) (a2 := a2) (a3 := a3) (a6 := a6) (a7 := a7) (a8 := a8) (a9 := a9) (a11 := a11) (l4 := l4) (l10 := l10) h5 l5.length 0 (by omega) (by omega)
  unfold drydockref18_Same.f
  refine Ev.bind (same03_refl h4 h4v) ?_
  refine Ev.bind (same05_refl a6 a7 a8 a9 a11 h10 h10v) ?_
  refine Ev.congr (f := fun k => drydockref18_Same.j0 k false a0 a1 a2 a3 l4 l5 a6 a7 a8 a9 l10 a11 a0 a1 a2 a3 l4 l5 a6 a7 a8 a9 l10 a11) (fun k => by simp) ?_
  exact Ev.step (f := fun k => drydockref18_Same.l0 k ((0 : Nat) : Int) a0 a1 a2 a3 l4 l5 a6 a7 a8 a9 l10 a11 a0 a1 a2 a3 l4 l5 a6 a7 a8 a9 l10 a11) (fun k => by simp [drydockref18_Same.j0]) this

/-! ### how much there is -/
def few03 (l : List S61) : Bool := decide (l.length ≤ 12) && l.all (fun x => decide (x.f1.length ≤ 80))
theorem few03_l {l : List S61} (hl : l.length ≤ 12) : ∀ (d i : Nat) (b : Bool), l.length - i = d → i ≤ l.length → Ev (fun k => drydockref03_Few.l0 k b i l) (b && (l.drop i).all (fun x => decide (x.f1.length ≤ 80))) := by
  intro d
  induction d with
  | zero =>
    intro i b hd hi
    refine Ev.step (f := fun _ => some b) (fun k => by simp only [drydockref03_Few.l0]; rw [if_neg (by omega)]) (ev_now ?_)
    rw [List.drop_eq_nil_of_le (by omega)]; simp
  | succ d ih =>
    intro i b hd hi
    have hlt : i < l.length := by omega
    cases b with
    | false => exact Ev.step (f := fun _ => some false) (fun k => by simp only [drydockref03_Few.l0]; rw [if_pos (by omega), if_neg (by simp)]) (Ev.now _)
    | true =>
      have := ih (i + 1) (decide (l[i].f1.length ≤ 80)) (by omega) (by omega)
      refine Ev.step (f := fun k => drydockref03_Few.l0 k (decide (l[i].f1.length ≤ 80)) ((i + 1 : Nat) : Int) l) (fun k => ?_) ?_
      · simp only [drydockref03_Few.l0]
        rw [if_pos (by omega), if_true, if_pos (by omega), rd61 l i hlt, wrap_up (by omega)]
        congr 1
        exact decide_eq_decide.2 (by omega)
      · rw [List.drop_eq_getElem_cons hlt, List.all_cons, Bool.true_and]
        exact this
theorem few03_ev (l : List S61) : Ev (fun k => drydockref03_Few.f k l) (few03 l) := by
  unfold drydockref03_Few.f few03
  by_cases h : l.length ≤ 12
  · have := few03_l h l.length 0 true (by omega) (by omega)
    rw [decide_eq_true (show (l.length : Int) ≤ 12 by omega), decide_eq_true h]
    exact this
  · rw [decide_eq_false (show ¬ (l.length : Int) ≤ 12 by omega), decide_eq_false h]
    exact Ev.step (f := fun _ => some false) (fun k => by simp only [drydockref03_Few.l0]; rw [if_pos (by omega), if_neg (by simp)]) (Ev.now _)
def few05 (l : List S63) : Bool := decide (l.length ≤ 20) && l.all (fun x => decide (x.f1.length ≤ 6))
theorem w01 : wrap64 (0 + 1) = 1 := by unfold wrap64; omega
theorem few05_end {t : S40} (b : Bool) : Ev (fun k => drydockref05_Few.l0 k [t] b 1) b := by
  refine Ev.step (f := fun k => drydockref05_Few.j1 k [t] b 1 false) (fun k => by simp [drydockref05_Few.l0]) ?_
  exact Ev.step (f := fun _ => some b) (fun k => by simp [drydockref05_Few.j1]) (Ev.now _)
theorem few05_l {t : S40} (hl : t.f1.length ≤ 20) : ∀ (d i : Nat) (b : Bool), t.f1.length - i = d → i ≤ t.f1.length → Ev (fun k => drydockref05_Few.l1 k [t] b 0 i) (b && (t.f1.drop i).all (fun x => decide (x.f1.length ≤ 6))) := by
  have h40 : rd_T40 [t] 0 = t := rfl
  intro d
  induction d with
  | zero =>
    intro i b hd hi
    refine Ev.step (f := fun k => drydockref05_Few.l0 k [t] b 1) (fun k => by simp only [drydockref05_Few.l1]; rw [if_pos (by omega), if_pos (by simp), h40, if_neg (by omega), w01]) ?_
    rw [List.drop_eq_nil_of_le (by omega)]
    simpa using few05_end b
  | succ d ih =>
    intro i b hd hi
    have hlt : i < t.f1.length := by omega
    cases b with
    | false =>
      refine Ev.step (f := fun k => drydockref05_Few.l0 k [t] false 1) (fun k => by simp only [drydockref05_Few.l1]; rw [if_pos (by omega), if_pos (by simp), h40, if_pos (by omega), if_neg (by simp), w01]) ?_
      simpa using few05_end false
    | true =>
      have := ih (i + 1) (decide (t.f1[i].f1.length ≤ 6)) (by omega) (by omega)
      refine Ev.step (f := fun k => drydockref05_Few.l1 k [t] (decide (t.f1[i].f1.length ≤ 6)) 0 ((i + 1 : Nat) : Int)) (fun k => ?_) ?_
      · simp only [drydockref05_Few.l1]
        rw [if_pos (by omega), if_pos (by simp), h40, if_pos (by omega), if_true, if_pos (by omega), rd63 t.f1 i hlt, wrap_up (by omega)]
        congr 1
        exact decide_eq_decide.2 (by omega)
      · rw [List.drop_eq_getElem_cons hlt, List.all_cons, Bool.true_and]
        exact this
theorem few05_ev (t : S40) : Ev (fun k => drydockref05_Few.f k [t]) (few05 t.f1) := by
  have h40 : rd_T40 [t] 0 = t := rfl
  unfold drydockref05_Few.f few05
  refine Ev.congr (f := fun k => drydockref05_Few.l0 k [t] true 0) (fun k => by simp) ?_
  refine Ev.step (f := fun k => drydockref05_Few.j1 k [t] true 0 true) (fun k => by simp [drydockref05_Few.l0]) ?_
  refine Ev.step (f := fun k => drydockref05_Few.l1 k [t] (decide (t.f1.length ≤ 20)) 0 ((0 : Nat) : Int)) (fun k => ?_) ?_
  · simp only [drydockref05_Few.j1]
    rw [if_true, if_pos (by omega), if_pos (by simp), h40]
    congr 1
    exact decide_eq_decide.2 (by omega)
  by_cases h : t.f1.length ≤ 20
  · have := few05_l h t.f1.length 0 true (by omega) (by omega)
    rw [decide_eq_true h]
    exact this
  · rw [decide_eq_false h]
    refine Ev.step (f := fun k => drydockref05_Few.l0 k [t] false 1) (fun k => by simp only [drydockref05_Few.l1]; rw [if_pos (by omega), if_pos (by simp), h40, if_pos (by omega), if_neg (by simp), w01]) ?_
    simpa using few05_end false

end Go.Proofs.Ytlboachgeepadaa.Spec
