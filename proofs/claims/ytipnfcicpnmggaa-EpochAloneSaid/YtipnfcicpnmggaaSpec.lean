/- Chapter 17: what epoch.ready, May, Clear and Ready come to, in plain lists. -/
import Derived.Test.YtipnfcicpnmggaaPx10
namespace Go.Proofs.Ytipnfcicpnmggaa.Spec
open Go.RowKit Go.Proofs.Ytipnfcicpnmggaa.P Go.Proofs.YtipnfcicpnmggaaW.PrintWords Go.Proofs.YtipnfcicpnmggaaW.PrintLast

theorem wrap_s {x : Int} (h : -9223372036854775808 ≤ x) (h' : x < 9223372036854775808) : wrap64 x = x := by
  unfold wrap64; omega
theorem wrap_up {i : Nat} (h : i < 9223372036854775807) : wrap64 ((i : Int) + 1) = ((i + 1 : Nat) : Int) := by
  unfold wrap64; omega
theorem ite_ev {α : Type} {c : Prop} [Decidable c] {g f : Nat → Option α} {r : α} (h : c → Ev g r) (h' : ¬ c → Ev f r) : Ev (fun k => if c then g k else f k) r := by
  by_cases hc : c
  · simpa only [if_pos hc] using h hc
  · simpa only [if_neg hc] using h' hc
theorem ev_now {α : Type} {a r : α} (h : a = r) : Ev (fun _ => some a) r := h ▸ Ev.now a

/-- No machine that went inside ahead of t is inside. -/
def okc (x t : Int) : Bool := decide (x = 0) || decide (t < x)
def rdB (a b c d t : Int) : Bool := okc a t && (okc b t && (okc c t && okc d t))
theorem ready_step (n a b c d : Int) (l : List S43) (g t x y : Int) (r : Bool) (h0 : 0 ≤ x) (h4 : x < 4) (hy : y = x + 1) (h : Ev (fun k => epoch_ready.l0 k y n a b c d l g t) r) : Ev (fun k => epoch_ready.l0 k x n a b c d l g t) (okc (sel4I a b c d x) t && r) := by
  subst hy
  refine Ev.step (f := fun k => if sel4I a b c d x = 0 then epoch_ready.l0 k (x + 1) n a b c d l g t else if sel4I a b c d x ≤ t then some false else epoch_ready.l0 k (x + 1) n a b c d l g t) (fun k => by
    simp only [epoch_ready.l0]; rw [if_pos h4, if_pos h0, wrap_s (by omega) (by omega)]) ?_
  refine ite_ev (fun h1 => ?_) (fun h1 => ite_ev (fun h2 => ev_now ?_) (fun h2 => ?_))
  · simpa [okc, h1] using h
  · rw [show okc (sel4I a b c d x) t = false from by simp [okc, h1]; omega]; rfl
  · rw [show okc (sel4I a b c d x) t = true from by simp [okc]; omega]; simpa using h
theorem ready_ev (n a b c d : Int) (l : List S43) (g t : Int) : Ev (fun k => epoch_ready.f k n a b c d l g t) (rdB a b c d t) := by
  have h4 : Ev (fun k => epoch_ready.l0 k 4 n a b c d l g t) true := Ev.step (f := fun _ => some true) (fun k => by simp only [epoch_ready.l0]; rw [if_neg (by omega)]) (Ev.now _)
  have := ready_step n a b c d l g t 0 1 _ (by omega) (by omega) (by omega) (ready_step n a b c d l g t 1 2 _ (by omega) (by omega) (by omega) (ready_step n a b c d l g t 2 3 _ (by omega) (by omega) (by omega) (ready_step n a b c d l g t 3 4 _ (by omega) (by omega) (by omega) h4)))
  simpa [rdB, sel4I, epoch_ready.f] using this

/-- From lo to hi. -/
def inb (x lo hi : Int) : Bool := decide (lo ≤ x) && decide (x ≤ hi)
theorem in_f (x lo hi : Int) : epoch_in.f x lo hi = some (inb x lo hi) := by
  unfold epoch_in.f inb
  by_cases h : lo ≤ x
  · rw [if_pos (by omega)]; simp [h]
  · rw [if_neg (by omega)]; simp [h]
theorem inb_iff {x lo hi : Int} : inb x lo hi = true ↔ lo ≤ x ∧ x ≤ hi := by simp [inb]
/-- What is gone may be: images are there once, in order of their times. -/
def restB (pre : List Int) (last : Int) : List S43 → Int → Bool
  | [], _ => true
  | x :: r, hi => decide (1 ≤ x.f0) && (decide (x.f0 ∉ pre) && (inb x.f1 last hi && restB (pre ++ [x.f0]) x.f1 r hi))
/-- May epochs be? -/
def mayE (n a b c d : Int) (l : List S43) : Bool := inb n 1 1073741824 && (decide (l.length ≤ 16) && (inb a 0 n && (inb b 0 n && (inb c 0 n && (inb d 0 n && restB [] 1 l (n - 1))))))
theorem fx_neg {l : List S43} {a : Int} : ∀ {i : Nat}, a ∉ l.map (·.f0) → fx l a i = -1 := by
  induction l with
  | nil => intros; rfl
  | cons x t ih =>
    intro i h
    simp only [List.map_cons, List.mem_cons, not_or] at h
    rw [fx_cons, if_neg (fun e => h.1 e.symm), ih h.2]
theorem fx_pos {l : List S43} {a : Int} : ∀ {i : Nat}, a ∈ l.map (·.f0) → ∃ j, ∃ h : j < l.length, fx l a i = ((i + j : Nat) : Int) ∧ l[j].f0 = a ∧ a ∉ (l.take j).map (·.f0) := by
  induction l with
  | nil => intro i h; cases h
  | cons x t ih =>
    intro i h
    rw [fx_cons]
    by_cases e : x.f0 = a
    · rw [if_pos e]; exact ⟨0, by simp, rfl, e, by simp⟩
    · rw [if_neg e]
      have hm : a ∈ t.map (·.f0) := by
        simp only [List.map_cons, List.mem_cons] at h
        exact h.resolve_left fun z => e z.symm
      obtain ⟨j, hj, h1, h2, h3⟩ := ih (i := i + 1) hm
      refine ⟨j + 1, by simpa using hj, by rw [h1]; congr 1; omega, h2, ?_⟩
      simp only [List.take_succ_cons, List.map_cons, List.mem_cons, not_or]
      exact ⟨fun z => e z.symm, h3⟩
theorem fx_at {l : List S43} {i : Nat} (h : i < l.length) : fx l l[i].f0 0 = (i : Int) ↔ l[i].f0 ∉ (l.take i).map (·.f0) := by
  have hm : l[i].f0 ∈ l.map (·.f0) := List.mem_map_of_mem (List.getElem_mem h)
  obtain ⟨j, hj, h1, h2, h3⟩ := fx_pos (i := 0) hm
  rw [h1, Nat.zero_add]
  constructor
  · intro e
    have : j = i := by omega
    subst this
    exact h3
  · intro hn
    rcases Nat.lt_trichotomy j i with hlt | rfl | hgt
    · exact absurd (by rw [← h2]; exact List.mem_map_of_mem (List.mem_iff_getElem.2 ⟨j, by simp; omega, by rw [List.getElem_take]⟩)) hn
    · rfl
    · exact absurd (List.mem_map_of_mem (f := (·.f0)) (List.mem_iff_getElem.2 ⟨i, by simp; omega, by rw [List.getElem_take]⟩ : l[i] ∈ l.take j)) h3
theorem find_f (n a b c d : Int) (l : List S43) (x : Int) : epoch_find.f n a b c d l x = some (fx l x 0) := rfl
theorem take_map_succ (l : List S43) (i : Nat) (h : i < l.length) : (l.take (i + 1)).map (·.f0) = (l.take i).map (·.f0) ++ [l[i].f0] := by
  rw [List.take_add_one, List.getElem?_eq_getElem h, List.map_append]; rfl
theorem may_l {n a b c d : Int} {l : List S43} (hn : 1 ≤ n) (hn' : n ≤ 1073741824) (hl : l.length ≤ 9223372036854775807) : ∀ (q i : Nat) (last : Int), l.length - i = q → i ≤ l.length → Ev (fun k => epoch_May.l1 k last l (l.length : Int) (i : Int) n a b c d l) (restB ((l.take i).map (·.f0)) last (l.drop i) (n - 1)) := by
  intro q
  induction q with
  | zero =>
    intro i last hd hi
    rw [show l.drop i = [] from List.drop_eq_nil_of_le (by omega)]
    exact Ev.step (f := fun _ => some true) (fun k => by simp only [epoch_May.l1]; rw [if_neg (by omega)]) (Ev.now _)
  | succ q ih =>
    intro i last hd hi
    have hlt : i < l.length := by omega
    rw [List.drop_eq_getElem_cons hlt]
    refine Ev.step (f := fun k => if l[i].f0 < 1 then some false else if fx l l[i].f0 0 = (i : Int) then (if inb l[i].f1 last (n - 1) = true then epoch_May.l1 k l[i].f1 l (l.length : Int) ((i + 1 : Nat) : Int) n a b c d l else some false) else some false) (fun k => by
      simp only [epoch_May.l1]
      rw [if_pos (by omega), if_pos (by omega), if_pos (by omega), rd_T43_nat l i hlt, wrap_up (by omega), find_f, in_f, wrap_s (by omega) (by omega)]
      rfl) ?_
    refine ite_ev (fun h1 => ev_now ?_) (fun h1 => ite_ev (fun h2 => ite_ev (fun h3 => ?_) (fun h3 => ev_now ?_)) (fun h2 => ev_now ?_))
    · unfold restB; rw [decide_eq_false (by omega)]; rfl
    · have h2' := (fx_at hlt).1 h2
      have := ih (i + 1) l[i].f1 (by omega) (by omega)
      rw [take_map_succ l i hlt] at this
      unfold restB
      rw [decide_eq_true (show 1 ≤ l[i].f0 by omega), decide_eq_true h2', h3]
      simpa using this
    · unfold restB; simp only [Bool.not_eq_true] at h3; rw [h3]; simp
    · unfold restB; rw [decide_eq_false (fun z => h2 ((fx_at hlt).2 z))]; simp
theorem may_step (n a b c d : Int) (l : List S43) (x y : Int) (r : Bool) (h0 : 0 ≤ x) (h4 : x < 4) (hy : y = x + 1) (h : Ev (fun k => epoch_May.l0 k y n a b c d l) r) : Ev (fun k => epoch_May.l0 k x n a b c d l) (inb (sel4I a b c d x) 0 n && r) := by
  subst hy
  refine Ev.step (f := fun k => if inb (sel4I a b c d x) 0 n = true then epoch_May.l0 k (x + 1) n a b c d l else some false) (fun k => by
    simp only [epoch_May.l0]; rw [if_pos h4, if_pos h0, wrap_s (by omega) (by omega), in_f]; rfl) ?_
  refine ite_ev (fun h1 => ?_) (fun h1 => ev_now ?_)
  · simpa [h1] using h
  · simp [h1]
theorem may_ev (n a b c d : Int) {l : List S43} (hl : l.length ≤ 9223372036854775807) : Ev (fun k => epoch_May.f k n a b c d l) (mayE n a b c d l) := by
  have hf : Ev (fun k => epoch_May.j0 k true n a b c d l) false := Ev.step (f := fun _ => some false) (fun k => by simp only [epoch_May.j0, if_true]) (Ev.now _)
  unfold epoch_May.f
  simp only [in_f, Option.bind_some]
  refine ite_ev (fun h1 => ?_) (fun h1 => ?_)
  · obtain ⟨hn, hn'⟩ := inb_iff.1 h1
    by_cases h2 : l.length ≤ 16
    · rw [decide_eq_false (show ¬ ((l.length : Int) > 16) by omega)]
      refine Ev.step (f := fun k => epoch_May.l0 k 0 n a b c d l) (fun k => by simp only [epoch_May.j0, Bool.false_eq_true, if_false]) ?_
      have h4 : Ev (fun k => epoch_May.l0 k 4 n a b c d l) (restB [] 1 l (n - 1)) := by
        refine Ev.step (f := fun k => epoch_May.l1 k 1 l (l.length : Int) ((0 : Nat) : Int) n a b c d l) (fun k => by simp only [epoch_May.l0]; rw [if_neg (by omega)]; rfl) ?_
        exact may_l hn hn' hl _ 0 1 rfl (by omega)
      have := may_step n a b c d l 0 1 _ (by omega) (by omega) (by omega) (may_step n a b c d l 1 2 _ (by omega) (by omega) (by omega) (may_step n a b c d l 2 3 _ (by omega) (by omega) (by omega) (may_step n a b c d l 3 4 _ (by omega) (by omega) (by omega) h4)))
      unfold mayE
      rw [h1, decide_eq_true h2]
      simpa [sel4I] using this
    · rw [decide_eq_true (show ((l.length : Int) > 16) by omega)]
      unfold mayE
      rw [decide_eq_false h2]
      simpa using hf
  · unfold mayE
    simp only [Bool.not_eq_true] at h1
    rw [h1]
    exact hf

/-- Those that are ready, and those that aren't. -/
def rdL (a b c d : Int) (l : List S43) : List Int := (l.filter (fun x => rdB a b c d x.f1)).map (·.f0)
def lfL (a b c d : Int) (l : List S43) : List S43 := l.filter (fun x => !rdB a b c d x.f1)
theorem rd_cons {a b c d : Int} {x : S43} {r : List S43} : rdL a b c d (x :: r) = if rdB a b c d x.f1 = true then x.f0 :: rdL a b c d r else rdL a b c d r := by
  unfold rdL; rw [List.filter_cons]; split <;> rfl
theorem lf_cons {a b c d : Int} {x : S43} {r : List S43} : lfL a b c d (x :: r) = if rdB a b c d x.f1 = true then lfL a b c d r else x :: lfL a b c d r := by
  unfold lfL; rw [List.filter_cons]
  cases rdB a b c d x.f1 <;> rfl
theorem clear_l {n a b c d : Int} {l : List S43} (hl : l.length ≤ 100000) : ∀ (q i : Nat) (o : List Int) (f : List S43), l.length - i = q → i ≤ l.length → o.length ≤ i → f.length ≤ i → Ev (fun k => epoch_Clear.l0 k o f l (l.length : Int) (i : Int) n a b c d l) (n, a, b, c, d, f ++ lfL a b c d (l.drop i), o ++ rdL a b c d (l.drop i)) := by
  intro q
  induction q with
  | zero =>
    intro i o f hd hi ho hf
    rw [show l.drop i = [] from List.drop_eq_nil_of_le (by omega)]
    refine Ev.step (f := fun _ => some (n, a, b, c, d, f, o)) (fun k => by simp only [epoch_Clear.l0]; rw [if_neg (by omega)]) (ev_now ?_)
    simp [lfL, rdL]
  | succ q ih =>
    intro i o f hd hi ho hf
    have hlt : i < l.length := by omega
    rw [List.drop_eq_getElem_cons hlt]
    refine Ev.step (f := fun k => (epoch_ready.f k n a b c d l l[i].f0 l[i].f1).bind fun t => if t = true then epoch_Clear.l0 k (o ++ [l[i].f0]) f l (l.length : Int) ((i + 1 : Nat) : Int) n a b c d l else epoch_Clear.l0 k o (f ++ [l[i]]) l (l.length : Int) ((i + 1 : Nat) : Int) n a b c d l) (fun k => by
      simp only [epoch_Clear.l0]
      rw [if_pos (by omega), if_pos (by omega), if_pos (by omega), rd_T43_nat l i hlt, wrap_up (by omega)]
      congr 1; funext t
      rw [if_pos (show o.length < 17592186044416 by omega), if_pos (show f.length < 8796093022208 by omega)]) ?_
    refine Ev.bind (ready_ev n a b c d l _ _) ?_
    refine ite_ev (fun h1 => ?_) (fun h1 => ?_)
    · have := ih (i + 1) (o ++ [l[i].f0]) f (by omega) (by omega) (by simp; omega) (by omega)
      rw [lf_cons, if_pos h1, rd_cons, if_pos h1]
      simpa using this
    · have := ih (i + 1) o (f ++ [l[i]]) (by omega) (by omega) (by omega) (by simp; omega)
      rw [lf_cons, if_neg h1, rd_cons, if_neg h1]
      simpa using this
theorem own_f (n a b c d : Int) {l : List S43} (hl : l.length ≤ 100000) : epoch_own.f n a b c d l = some (n, a, b, c, d, l) := by
  unfold epoch_own.f; rw [if_pos hl]
/-- What Clear answers. -/
def clS (n a b c d : Int) (l : List S43) : Int × Int × Int × Int × Int × List S43 × List Int := if mayE n a b c d l = true then (n, a, b, c, d, lfL a b c d l, rdL a b c d l) else (n, a, b, c, d, l, [])
theorem clear_ev (n a b c d : Int) {l : List S43} (hl : l.length ≤ 100000) : Ev (fun k => epoch_Clear.f k n a b c d l) (clS n a b c d l) := by
  unfold epoch_Clear.f clS
  refine Ev.bind (may_ev n a b c d (by omega)) ?_
  by_cases h : mayE n a b c d l = true
  · simp only [if_pos h]
    have := clear_l (n := n) (a := a) (b := b) (c := c) (d := d) hl _ 0 [] [] rfl (by omega) (by simp) (by simp)
    simpa using this
  · simp only [if_neg h]
    rw [own_f n a b c d hl]
    exact Ev.now _
theorem Ready_ev (n a b c d : Int) {l : List S43} (hl : l.length ≤ 100000) : Ev (fun k => epoch_Ready.f k n a b c d l) (clS n a b c d l).2.2.2.2.2.2 := by
  unfold epoch_Ready.f
  exact Ev.bind (clear_ev n a b c d hl) (Ev.now _)
end Go.Proofs.Ytipnfcicpnmggaa.Spec
