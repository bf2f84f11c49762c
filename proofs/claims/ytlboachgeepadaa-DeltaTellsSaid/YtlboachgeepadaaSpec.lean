/- What the functions of package delta come to, in plain lists: Index, May, Contains, Note, Has. -/
import Derived.Test.YtlboachgeepadaaPx4
namespace Go.Proofs.Ytlboachgeepadaa.Spec
open Go.RowKit Go.Proofs.Ytlboachgeepadaa.P Go.Proofs.YtlboachgeepadaaW.PrintWords Go.Proofs.YtlboachgeepadaaW.PrintLast

theorem rd_nat (l : List Int) (i : Nat) (h : i < l.length) : rd l (i : Int) = l[i] := by
  simp [rd, List.getD, h]
theorem wrap_up {i : Nat} (h : i < 1000000000) : wrap64 ((i : Int) + 1) = ((i + 1 : Nat) : Int) := by
  unfold wrap64; omega
theorem ite_ev {α : Type} {c : Prop} [Decidable c] {g f : Nat → Option α} {r : α} (h : c → Ev g r) (h' : ¬ c → Ev f r) : Ev (fun k => if c then g k else f k) r := by
  by_cases hc : c
  · simpa only [if_pos hc] using h hc
  · simpa only [if_neg hc] using h' hc
theorem ev_now {α : Type} {a r : α} (h : a = r) : Ev (fun _ => some a) r := h ▸ Ev.now a

/-- Where a key is first met, counted from i; -1: nowhere. -/
def ix : List Int → Int → Nat → Int
  | [], _, _ => -1
  | x :: t, a, i => if a = x then (i : Int) else ix t a (i + 1)
theorem ix_neg {l : List Int} {a : Int} : ∀ {i : Nat}, a ∉ l → ix l a i = -1 := by
  induction l with
  | nil => intros; rfl
  | cons x t ih =>
    intro i h
    simp only [List.mem_cons, not_or] at h
    unfold ix
    rw [if_neg h.1, ih h.2]
theorem ix_pos {l : List Int} {a : Int} : ∀ {i : Nat}, a ∈ l → (i : Int) ≤ ix l a i := by
  induction l with
  | nil => intro i h; cases h
  | cons x t ih =>
    intro i h
    unfold ix
    by_cases e : a = x
    · rw [if_pos e]; exact Int.le_refl _
    · rw [if_neg e]
      have := ih (i := i + 1) (by simpa [e] using h)
      omega
theorem ix_ge (l : List Int) (a : Int) : (ix l a 0 ≥ 0) ↔ a ∈ l := by
  by_cases h : a ∈ l
  · have := ix_pos (i := 0) h
    simp [h]; omega
  · rw [ix_neg h]; simp [h]
theorem ix_at {l : List Int} : ∀ {i j : Nat} (h : j < l.length), ix l l[j] i = ((i + j : Nat) : Int) ↔ l[j] ∉ l.take j := by
  induction l with
  | nil => intro i j h; cases h
  | cons x t ih =>
    intro i j h
    cases j with
    | zero => simp [ix]
    | succ j =>
      have hj : j < t.length := by simpa using h
      simp only [List.getElem_cons_succ, List.take_succ_cons, List.mem_cons, not_or]
      unfold ix
      by_cases e : t[j] = x
      · rw [if_pos e]
        constructor
        · intro h; omega
        · intro h; exact absurd e h.1
      · rw [if_neg e]
        have := ih (i := i + 1) hj
        rw [show i + 1 + j = i + (j + 1) by omega] at this
        rw [this]
        simp [e]
theorem nodup_at {l : List Int} : l.Nodup ↔ ∀ j (h : j < l.length), l[j] ∉ l.take j := by
  constructor
  · intro hn j h hm
    obtain ⟨m, hm1, hm2⟩ := List.getElem_of_mem hm
    have hmj : m < j := by simp at hm1; omega
    rw [List.getElem_take] at hm2
    have := (List.getElem_inj hn).1 hm2
    omega
  · intro h
    rw [List.nodup_iff_pairwise_ne, List.pairwise_iff_getElem]
    intro i j hi hj hij e
    refine h j hj ?_
    rw [← e]
    exact List.mem_iff_getElem.2 ⟨i, by simp; omega, by rw [List.getElem_take]⟩
theorem index_l {l : List Int} {a : Int} (hl : l.length ≤ 100000) : ∀ (d i : Nat), l.length - i = d → i ≤ l.length → Ev (fun k => slices_Index_uint32_uint32.l0 k l a (l.length : Int) i) (ix (l.drop i) a i) := by
  intro d
  induction d with
  | zero =>
    intro i hd hi
    refine Ev.step (f := fun _ => _) (fun k => by simp only [slices_Index_uint32_uint32.l0]; rw [if_neg (by omega)]) ?_
    refine ev_now ?_
    rw [List.drop_eq_nil_of_le (by omega)]; rfl
  | succ d ih =>
    intro i hd hi
    have hlt : i < l.length := by omega
    have e := List.drop_eq_getElem_cons hlt
    refine Ev.step (f := fun k => if a = l[i] then some (i : Int) else slices_Index_uint32_uint32.l0 k l a (l.length : Int) ((i + 1 : Nat) : Int)) (fun k => by simp only [slices_Index_uint32_uint32.l0]; rw [if_pos (by omega), if_pos (by omega), if_pos (by omega), rd_nat l i hlt, wrap_up (by omega)]) ?_
    rw [e]
    unfold ix
    refine ite_ev (fun h => ?_) (fun h => ?_)
    · rw [if_pos h]; exact Ev.now _
    · rw [if_neg h]; exact ih (i + 1) (by omega) (by omega)
theorem index_ev {l : List Int} (a : Int) (hl : l.length ≤ 100000) : Ev (fun k => slices_Index_uint32_uint32.f k l a) (ix l a 0) := by
  have := index_l (a := a) hl l.length 0 (by omega) (by omega)
  simpa [slices_Index_uint32_uint32.f] using this
theorem contains_ev {l : List Int} (a : Int) (hl : l.length ≤ 100000) : Ev (fun k => slices_Contains_uint32_uint32.f k l a) (decide (a ∈ l)) := by
  unfold slices_Contains_uint32_uint32.f
  refine Ev.bind (index_ev a hl) (ev_now ?_)
  exact decide_eq_decide.2 (ix_ge l a)

/-- May a delta be? -/
def mayD (l : List Int) (o : Bool) : Bool := decide (l.Nodup) && (decide (l.length ≤ 8) && (!o || decide (l.length = 8)))
theorem may_l {l : List Int} {o : Bool} (hl : l.length ≤ 100000) : ∀ (d i : Nat), l.length - i = d → i ≤ l.length → (∀ j (h : j < l.length), j < i → l[j] ∉ l.take j) → Ev (fun k => delta_May.l0 k l (l.length : Int) i l o) (mayD l o) := by
  intro d
  induction d with
  | zero =>
    intro i hd hi hb
    have hn : l.Nodup := nodup_at.2 fun j h => hb j h (by omega)
    refine Ev.step (f := fun _ => _) (fun k => by simp only [delta_May.l0]; rw [if_neg (by omega)]) ?_
    unfold mayD
    refine ite_ev (fun h => ?_) (fun h => ?_)
    · have h8 : l.length ≤ 8 := by omega
      refine ite_ev (fun ho => ev_now ?_) (fun ho => ev_now ?_)
      · rw [decide_eq_true hn, decide_eq_true h8, ho]
        simp only [Bool.true_and, Bool.not_true, Bool.false_or]
        by_cases e : l.length = 8
        · simp [e]
        · simp only [e, decide_false]
          exact beq_eq_false_iff_ne.2 (by omega)
      · rw [decide_eq_true hn, decide_eq_true h8, Bool.not_eq_true _ |>.mp ho]; rfl
    · have h8 : ¬ l.length ≤ 8 := by omega
      exact ev_now (by simp [h8])
  | succ d ih =>
    intro i hd hi hb
    have hlt : i < l.length := by omega
    refine Ev.step (f := fun k => (slices_Index_uint32_uint32.f k l l[i]).bind fun t => if t = (i : Int) then delta_May.l0 k l (l.length : Int) ((i + 1 : Nat) : Int) l o else some false) (fun k => by simp only [delta_May.l0]; rw [if_pos (by omega), if_pos (by omega), if_pos (by omega), rd_nat l i hlt, wrap_up (by omega)]) ?_
    refine Ev.bind (index_ev l[i] hl) ?_
    have hx := ix_at (i := 0) hlt
    rw [Nat.zero_add] at hx
    refine ite_ev (fun h => ?_) (fun h => ?_)
    · refine ih (i + 1) (by omega) (by omega) fun j hj hji => ?_
      rcases Nat.lt_succ_iff_lt_or_eq.1 hji with h1 | rfl
      · exact hb j hj h1
      · exact hx.1 h
    · refine ev_now ?_
      have : ¬ l.Nodup := fun hn => h (hx.2 (nodup_at.1 hn i hlt))
      simp [mayD, this]
theorem may_ev {l : List Int} (o : Bool) (hl : l.length ≤ 100000) : Ev (fun k => delta_May.f k l o) (mayD l o) := by
  have := may_l (o := o) hl l.length 0 (by omega) (by omega) (fun j h h0 => absurd h0 (Nat.not_lt_zero j))
  simpa [delta_May.f] using this

/-- A key noted. -/
def noteD (l : List Int) (o : Bool) (a : Int) : List Int × Bool :=
  if mayD l o = true then (if a ∈ l then (l, o) else if l.length = 8 then (l, true) else (l ++ [a], o)) else (l, o)
theorem note_ev {l : List Int} (o : Bool) (a : Int) (hl : l.length ≤ 100000) : Ev (fun k => delta_Note.f k l o a) (noteD l o a) := by
  unfold delta_Note.f slices_Clone_uint32_uint32.f
  rw [if_pos hl]
  simp only [Option.bind_some]
  refine Ev.bind (may_ev o hl) ?_
  unfold noteD
  refine ite_ev (fun h => ?_) (fun h => ?_)
  · rw [if_pos h]
    refine Ev.bind (contains_ev a hl) ?_
    refine Ev.step (f := fun _ => _) (fun k => by simp only [delta_Note.j0]; rfl) ?_
    refine ite_ev (fun h1 => ?_) (fun h1 => ?_)
    · rw [if_pos (of_decide_eq_true h1)]; exact Ev.now _
    · have h2 : a ∉ l := by simpa using h1
      rw [if_neg h2]
      refine ite_ev (fun h3 => ?_) (fun h3 => ?_)
      · rw [if_pos (show l.length = 8 by omega)]; exact Ev.now _
      · rw [if_neg (show ¬ l.length = 8 by omega)]
        refine ite_ev (fun h4 => Ev.now _) (fun h4 => absurd (show l.length < 35184372088832 by omega) h4)
  · rw [if_neg h]
    refine Ev.step (f := fun _ => _) (fun k => by simp only [delta_Note.j0]; rfl) ?_
    refine ite_ev (fun h1 => Ev.now _) (fun h1 => ?_)
    simp only [Bool.not_eq_true] at h h1
    rw [h] at h1
    exact absurd h1 (by decide)

end Go.Proofs.Ytlboachgeepadaa.Spec
