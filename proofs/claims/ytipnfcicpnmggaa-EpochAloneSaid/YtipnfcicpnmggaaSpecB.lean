/- Chapter 17: what Enter, Leave and Retire come to; two that are the same; the chapter's example. -/
import Derived.Test.YtipnfcicpnmggaaPx11
import Derived.Test.YtipnfcicpnmggaaPx15
import Derived.Test.YtipnfcicpnmggaaSpec
namespace Go.Proofs.Ytipnfcicpnmggaa.Spec
open Go.RowKit Go.Proofs.Ytipnfcicpnmggaa.P Go.Proofs.YtipnfcicpnmggaaW.PrintWords Go.Proofs.YtipnfcicpnmggaaW.PrintLast

abbrev E7 := Int × Int × Int × Int × Int × List S43 × Int
def tnS (n a b c d : Int) (l : List S43) (x : Int) (ins : Bool) (v_ : Int) : E7 :=
  if mayE n a b c d l = true then (if inb x 0 3 = true then (if ((sel4I a b c d x != 0) != ins) = true then (0, 0, 0, 0, 0, [], 11) else (n, updI 0 x v_ a, updI 1 x v_ b, updI 2 x v_ c, updI 3 x v_ d, l, 0)) else (0, 0, 0, 0, 0, [], 3)) else (0, 0, 0, 0, 0, [], 1)
theorem turn_ev (n a b c d : Int) {l : List S43} (x : Int) (ins : Bool) (v_ : Int) (hl : l.length ≤ 100000) : Ev (fun k => epoch_turn.f k n a b c d l x ins v_) (tnS n a b c d l x ins v_) := by
  unfold epoch_turn.f tnS
  refine Ev.bind (may_ev n a b c d (by omega)) ?_
  by_cases hm : mayE n a b c d l = true
  · simp only [if_pos hm, in_f, Option.bind_some]
    by_cases h1 : inb x 0 3 = true
    · obtain ⟨h2, h3⟩ := inb_iff.1 h1
      simp only [if_pos h1, if_pos h2, if_pos (show x < 4 by omega)]
      by_cases h4 : ((sel4I a b c d x != 0) != ins) = true
      · simp only [if_pos h4]; exact Ev.now _
      · simp only [if_neg h4, own_f n a b c d hl, Option.bind_some]; exact Ev.now _
    · simp only [if_neg h1]; exact Ev.now _
  · simp only [if_neg hm]; exact Ev.now _
theorem Enter_ev (n a b c d : Int) {l : List S43} (x : Int) (hl : l.length ≤ 100000) : Ev (fun k => epoch_Enter.f k n a b c d l x) (tnS n a b c d l x false n) := by
  unfold epoch_Enter.f
  exact Ev.bind (turn_ev n a b c d x false n hl) (ev_now rfl)
theorem Leave_ev (n a b c d : Int) {l : List S43} (x : Int) (hl : l.length ≤ 100000) : Ev (fun k => epoch_Leave.f k n a b c d l x) (tnS n a b c d l x true 0) := by
  unfold epoch_Leave.f
  exact Ev.bind (turn_ev n a b c d x true 0 hl) (ev_now rfl)
theorem fx_ge {l : List S43} {x : Int} : fx l x 0 ≥ 0 ↔ x ∈ l.map (·.f0) := by
  constructor
  · intro h
    by_cases hm : x ∈ l.map (·.f0)
    · exact hm
    · rw [fx_neg hm] at h; omega
  · intro h
    obtain ⟨j, _, h1, _⟩ := fx_pos (i := 0) h
    rw [h1]; omega
def rtS (n a b c d : Int) (l : List S43) (x : Int) : E7 :=
  if mayE n a b c d l = true ∧ 1 ≤ x ∧ x ∉ l.map (·.f0) then (if n = 1073741824 then (0, 0, 0, 0, 0, [], 2) else if l.length = 16 then (0, 0, 0, 0, 0, [], 4) else (n + 1, a, b, c, d, l ++ [⟨x, n⟩], 0)) else (0, 0, 0, 0, 0, [], 1)
theorem mayE_iff {n a b c d : Int} {l : List S43} : mayE n a b c d l = true ↔ (1 ≤ n ∧ n ≤ 1073741824) ∧ l.length ≤ 16 ∧ (0 ≤ a ∧ a ≤ n) ∧ (0 ≤ b ∧ b ≤ n) ∧ (0 ≤ c ∧ c ≤ n) ∧ (0 ≤ d ∧ d ≤ n) ∧ restB [] 1 l (n - 1) = true := by
  simp only [mayE, Bool.and_eq_true, inb_iff, decide_eq_true_eq]
theorem retire_ev (n a b c d : Int) {l : List S43} (x : Int) (hl : l.length ≤ 100000) : Ev (fun k => epoch_Retire.f k n a b c d l x) (rtS n a b c d l x) := by
  have ht : ∀ y, Ev (fun k => epoch_Retire.j0 k y true n a b c d l) (0, 0, 0, 0, 0, [], 1) := fun y => Ev.step (f := fun _ => some _) (fun k => by simp only [epoch_Retire.j0, if_true]) (Ev.now _)
  unfold epoch_Retire.f
  refine Ev.bind (may_ev n a b c d (by omega)) ?_
  by_cases hm : mayE n a b c d l = true
  · simp only [if_pos hm]
    obtain ⟨⟨hn1, hn2⟩, hl16, _⟩ := mayE_iff.1 hm
    refine ite_ev (fun h1 => ?_) (fun h1 => ?_)
    · rw [decide_eq_true h1, show rtS n a b c d l x = (0, 0, 0, 0, 0, [], 1) from by unfold rtS; rw [if_neg (fun z => by omega)]]
      exact ht x
    · simp only [find_f, Option.bind_some]
      by_cases h2 : fx l x 0 ≥ 0
      · rw [decide_eq_true h2, show rtS n a b c d l x = (0, 0, 0, 0, 0, [], 1) from by unfold rtS; rw [if_neg (fun z => z.2.2 (fx_ge.1 h2))]]
        exact ht x
      · rw [decide_eq_false h2]
        have h3 : rtS n a b c d l x = if n = 1073741824 then (0, 0, 0, 0, 0, [], 2) else if l.length = 16 then (0, 0, 0, 0, 0, [], 4) else (n + 1, a, b, c, d, l ++ [⟨x, n⟩], 0) := by
          unfold rtS; rw [if_pos ⟨hm, by omega, fun z => h2 (fx_ge.2 z)⟩]
        rw [h3]
        refine Ev.step (f := fun _ => if n = 1073741824 then some ((0, 0, 0, 0, 0, [], 2) : E7) else if (l.length : Int) = 16 then some (0, 0, 0, 0, 0, [], 4) else some (n + 1, a, b, c, d, l ++ [⟨x, n⟩], 0)) (fun k => by
          simp only [epoch_Retire.j0, Bool.false_eq_true, if_false, own_f n a b c d hl, Option.bind_some]
          rw [if_pos (show l.length < 8796093022208 by omega), wrap_s (by omega) (by omega)]) ?_
        refine ite_ev (fun h4 => ev_now (by rw [if_pos h4])) (fun h4 => ?_)
        rw [if_neg h4]
        refine ite_ev (fun h5 => ev_now (by rw [if_pos (by omega)])) (fun h5 => ev_now (by rw [if_neg (by omega)]))
  · simp only [if_neg hm]
    rw [show rtS n a b c d l x = (0, 0, 0, 0, 0, [], 1) from by unfold rtS; rw [if_neg (fun z => hm z.1)]]
    simp only [Bool.not_eq_true] at hm
    rw [hm]
    exact ht x
theorem ints_l {l : List Int} (hl : l.length ≤ 100000) : ∀ (q i : Nat), l.length - i = q → i ≤ l.length → Ev (fun k => drydockref01_Ints.l0 k l l (i : Int)) true := by
  intro q
  induction q with
  | zero =>
    intro i hd hi
    exact Ev.step (f := fun _ => some true) (fun k => by simp only [drydockref01_Ints.l0]; rw [if_neg (by omega)]) (Ev.now _)
  | succ q ih =>
    intro i hd hi
    refine Ev.step (f := fun k => drydockref01_Ints.l0 k l l ((i + 1 : Nat) : Int)) (fun k => by
      simp only [drydockref01_Ints.l0]
      rw [if_pos (by omega), if_pos (by omega), if_pos (by omega), wrap_up (by omega)]; rfl) (ih (i + 1) (by omega) (by omega))
theorem ints_self {l : List Int} (hl : l.length ≤ 100000) : Ev (fun k => drydockref01_Ints.f k l l) true := by
  unfold drydockref01_Ints.f
  simp only [if_true]
  exact ints_l hl _ 0 rfl (by omega)
theorem same_l {n a b c d : Int} {l : List S43} (hl : l.length ≤ 100000) : ∀ (q i : Nat), l.length - i = q → i ≤ l.length → Ev (fun k => drydockref17_Same.l0 k (i : Int) n a b c d l n a b c d l) true := by
  intro q
  induction q with
  | zero =>
    intro i hd hi
    exact Ev.step (f := fun _ => some true) (fun k => by simp only [drydockref17_Same.l0]; rw [if_neg (by omega)]) (Ev.now _)
  | succ q ih =>
    intro i hd hi
    refine Ev.step (f := fun k => drydockref17_Same.l0 k ((i + 1 : Nat) : Int) n a b c d l n a b c d l) (fun k => by
      simp only [drydockref17_Same.l0]
      rw [if_pos (by omega), if_pos (by omega), if_pos (by omega), wrap_up (by omega), if_neg (by simp)]) (ih (i + 1) (by omega) (by omega))
theorem same_self (n a b c d : Int) {l : List S43} (hl : l.length ≤ 100000) : Ev (fun k => drydockref17_Same.f k n a b c d l n a b c d l) true := by
  unfold drydockref17_Same.f
  simp only [if_true, beq_self_eq_true, Bool.not_true, Bool.or_self, Bool.false_eq_true, if_false, bne_self_eq_false]
  refine Ev.step (f := fun k => drydockref17_Same.l0 k ((0 : Nat) : Int) n a b c d l n a b c d l) (fun k => by simp only [drydockref17_Same.j0, Bool.false_eq_true, if_false]; rfl) ?_
  exact same_l hl _ 0 rfl (by omega)
theorem awake_ev : Ev (fun k => drydocklaw17_awake.f k) true := by
  unfold drydocklaw17_awake.f
  refine Ev.bind (Enter_ev 1 0 0 0 0 2 (by simp)) ?_
  rw [show tnS 1 0 0 0 0 [] 2 false 1 = (1, 0, 0, 1, 0, [], 0) from rfl]
  refine Ev.bind (retire_ev 1 0 0 1 0 5 (by simp)) ?_
  rw [show rtS 1 0 0 1 0 [] 5 = (2, 0, 0, 1, 0, [⟨5, 1⟩], 0) from rfl]
  refine Ev.bind (Ready_ev 2 0 0 1 0 (by simp)) ?_
  rw [show (clS 2 0 0 1 0 [⟨5, 1⟩]).2.2.2.2.2.2 = [] from rfl]
  refine Ev.bind (Leave_ev 2 0 0 1 0 2 (by simp)) ?_
  rw [show tnS 2 0 0 1 0 [⟨5, 1⟩] 2 true 0 = (2, 0, 0, 0, 0, [⟨5, 1⟩], 0) from rfl]
  have hz : (([] : List Int).length : Int) = 0 := rfl
  simp only [hz, if_true]
  refine Ev.bind (Ready_ev 2 0 0 0 0 (by simp)) ?_
  rw [show (clS 2 0 0 0 0 [⟨5, 1⟩]).2.2.2.2.2.2 = [5] from rfl]
  refine Ev.bind (ints_self (by simp)) ?_
  simp only [if_true]
  refine Ev.bind (may_ev 2 0 0 0 0 (by simp)) ?_
  rw [show mayE 2 0 0 0 0 [⟨5, 1⟩] = true from rfl]
  exact Ev.now _

/-! What may be, more closely. -/
theorem rest_mem {pre : List Int} {last hi : Int} {l : List S43} (h : restB pre last l hi = true) : ∀ x ∈ l, last ≤ x.f1 ∧ x.f1 ≤ hi ∧ 1 ≤ x.f0 ∧ x.f0 ∉ pre := by
  induction l generalizing pre last with
  | nil => intro x hx; cases hx
  | cons y r ih =>
    simp only [restB, Bool.and_eq_true, decide_eq_true_eq, inb_iff] at h
    obtain ⟨h1, h2, ⟨h3, h4⟩, h5⟩ := h
    intro x hx
    rcases List.mem_cons.1 hx with rfl | hx
    · exact ⟨h3, h4, h1, h2⟩
    · obtain ⟨g1, g2, g3, g4⟩ := ih h5 x hx
      exact ⟨by omega, g2, g3, fun z => g4 (List.mem_append_left _ z)⟩
theorem rest_nodup {pre : List Int} {last hi : Int} {l : List S43} (h : restB pre last l hi = true) : (l.map (·.f0)).Nodup := by
  induction l generalizing pre last with
  | nil => simp
  | cons y r ih =>
    simp only [restB, Bool.and_eq_true, decide_eq_true_eq, inb_iff] at h
    obtain ⟨h1, h2, ⟨h3, h4⟩, h5⟩ := h
    rw [List.map_cons, List.nodup_cons]
    refine ⟨fun hm => ?_, ih h5⟩
    obtain ⟨z, hz, hz'⟩ := List.mem_map.1 hm
    exact (rest_mem h5 z hz).2.2.2 (by rw [hz']; simp)
theorem rest_mono {pre pre' : List Int} {last last' hi hi' : Int} {l : List S43} (h : restB pre last l hi = true) (hp : ∀ z ∈ pre', z ∈ pre) (hl : last' ≤ last) (hh : hi ≤ hi') : restB pre' last' l hi' = true := by
  induction l generalizing pre pre' last last' with
  | nil => rfl
  | cons y r ih =>
    simp only [restB, Bool.and_eq_true, decide_eq_true_eq, inb_iff] at h ⊢
    obtain ⟨h1, h2, ⟨h3, h4⟩, h5⟩ := h
    exact ⟨h1, fun z => h2 (hp _ z), ⟨by omega, by omega⟩, ih h5 (fun z hz => by
      rcases List.mem_append.1 hz with hz | hz
      · exact List.mem_append_left _ (hp _ hz)
      · exact List.mem_append_right _ hz) (Int.le_refl _)⟩
theorem rest_filter {pre : List Int} {last hi : Int} {l : List S43} (p : S43 → Bool) (h : restB pre last l hi = true) : restB pre last (l.filter p) hi = true := by
  induction l generalizing pre last with
  | nil => rfl
  | cons y r ih =>
    simp only [restB, Bool.and_eq_true, decide_eq_true_eq, inb_iff] at h
    obtain ⟨h1, h2, ⟨h3, h4⟩, h5⟩ := h
    rw [List.filter_cons]
    split
    · simp only [restB, Bool.and_eq_true, decide_eq_true_eq, inb_iff]
      exact ⟨h1, h2, ⟨h3, h4⟩, ih h5⟩
    · exact rest_mono (ih h5) (fun z hz => List.mem_append_left _ hz) h3 (Int.le_refl _)
theorem rest_snoc {pre : List Int} {last hi hi' : Int} {l : List S43} {x t : Int} (h : restB pre last l hi = true) (ht : hi ≤ t) (ht' : t ≤ hi') (hlt : last ≤ t) (hx : 1 ≤ x) (hp : x ∉ pre) (hm : x ∉ l.map (·.f0)) : restB pre last (l ++ [⟨x, t⟩]) hi' = true := by
  induction l generalizing pre last with
  | nil =>
    simp only [List.nil_append, restB, Bool.and_eq_true, decide_eq_true_eq, inb_iff]
    exact ⟨hx, hp, ⟨hlt, ht'⟩, trivial⟩
  | cons y r ih =>
    simp only [List.cons_append, restB, Bool.and_eq_true, decide_eq_true_eq, inb_iff] at h ⊢
    obtain ⟨h1, h2, ⟨h3, h4⟩, h5⟩ := h
    simp only [List.map_cons, List.mem_cons, not_or] at hm
    refine ⟨h1, h2, ⟨h3, by omega⟩, ih h5 (by omega) (fun z => ?_) hm.2⟩
    rcases List.mem_append.1 z with z | z
    · exact hp z
    · simp only [List.mem_singleton] at z; exact hm.1 z
theorem okc_zero (t : Int) : okc 0 t = true := by simp [okc]
theorem rd_zero (l : List S43) : rdL 0 0 0 0 l = l.map (·.f0) := by
  unfold rdL
  rw [List.filter_eq_self.2 (fun x _ => by simp [rdB, okc_zero])]
theorem lf_zero (l : List S43) : lfL 0 0 0 0 l = [] := by
  unfold lfL
  rw [List.filter_eq_nil_iff]
  intro x _
  simp [rdB, okc_zero]
theorem rd_len (a b c d : Int) (l : List S43) : (rdL a b c d l).length ≤ l.length := by
  unfold rdL; rw [List.length_map]; exact List.length_filter_le _ _
theorem may_zero {n a b c d : Int} {l : List S43} (h : mayE n a b c d l = true) : mayE n 0 0 0 0 l = true := by
  obtain ⟨h1, h2, h3, h4, h5, h6, h7⟩ := mayE_iff.1 h
  exact mayE_iff.2 ⟨h1, h2, ⟨by omega, by omega⟩, ⟨by omega, by omega⟩, ⟨by omega, by omega⟩, ⟨by omega, by omega⟩, h7⟩
theorem upd_in {q x v_ old n : Int} (h : 0 ≤ v_ ∧ v_ ≤ n) (h' : 0 ≤ old ∧ old ≤ n) : 0 ≤ updI q x v_ old ∧ updI q x v_ old ≤ n := by
  unfold updI; split <;> assumption
theorem may_upd {n a b c d : Int} {l : List S43} (x v_ : Int) (ht : 0 ≤ v_ ∧ v_ ≤ n) (h : mayE n a b c d l = true) : mayE n (updI 0 x v_ a) (updI 1 x v_ b) (updI 2 x v_ c) (updI 3 x v_ d) l = true := by
  obtain ⟨h1, h2, h3, h4, h5, h6, h7⟩ := mayE_iff.1 h
  exact mayE_iff.2 ⟨h1, h2, upd_in ht h3, upd_in ht h4, upd_in ht h5, upd_in ht h6, h7⟩
theorem sel_upd {a b c d x v_ : Int} (h0 : 0 ≤ x) (h3 : x ≤ 3) : sel4I (updI 0 x v_ a) (updI 1 x v_ b) (updI 2 x v_ c) (updI 3 x v_ d) x = v_ := by
  obtain rfl | rfl | rfl | rfl : x = 0 ∨ x = 1 ∨ x = 2 ∨ x = 3 := by omega
  all_goals rfl
/-- A machine that was outside goes in: the same are ready. -/
theorem rdB_enter {a b c d x n t : Int} (h0 : 0 ≤ x) (h3 : x ≤ 3) (hs : sel4I a b c d x = 0) (ht : t < n) : rdB (updI 0 x n a) (updI 1 x n b) (updI 2 x n c) (updI 3 x n d) t = rdB a b c d t := by
  have hn : okc n t = true := by simp [okc, ht]
  obtain rfl | rfl | rfl | rfl : x = 0 ∨ x = 1 ∨ x = 2 ∨ x = 3 := by omega
  · obtain rfl : a = 0 := hs
    show rdB n b c d t = _
    simp [rdB, hn, okc_zero]
  · obtain rfl : b = 0 := hs
    show rdB a n c d t = _
    simp [rdB, hn, okc_zero]
  · obtain rfl : c = 0 := hs
    show rdB a b n d t = _
    simp [rdB, hn, okc_zero]
  · obtain rfl : d = 0 := hs
    show rdB a b c n t = _
    simp [rdB, hn, okc_zero]
theorem rd_enter {a b c d x n : Int} {l : List S43} (h0 : 0 ≤ x) (h3 : x ≤ 3) (hs : sel4I a b c d x = 0) (ht : ∀ y ∈ l, y.f1 < n) : rdL (updI 0 x n a) (updI 1 x n b) (updI 2 x n c) (updI 3 x n d) l = rdL a b c d l := by
  unfold rdL
  rw [List.filter_congr (fun y hy => rdB_enter h0 h3 hs (ht y hy))]
/-- A machine that goes out: what was ready is. -/
theorem rdB_leave {a b c d x t : Int} (h0 : 0 ≤ x) (h3 : x ≤ 3) (h : rdB a b c d t = true) : rdB (updI 0 x 0 a) (updI 1 x 0 b) (updI 2 x 0 c) (updI 3 x 0 d) t = true := by
  simp only [rdB, Bool.and_eq_true] at h
  obtain ⟨h1, h2, h4, h5⟩ := h
  obtain rfl | rfl | rfl | rfl : x = 0 ∨ x = 1 ∨ x = 2 ∨ x = 3 := by omega
  · show rdB 0 b c d t = true; simp [rdB, okc_zero, h2, h4, h5]
  · show rdB a 0 c d t = true; simp [rdB, okc_zero, h1, h4, h5]
  · show rdB a b 0 d t = true; simp [rdB, okc_zero, h1, h2, h5]
  · show rdB a b c 0 t = true; simp [rdB, okc_zero, h1, h2, h4]
end Go.Proofs.Ytipnfcicpnmggaa.Spec
