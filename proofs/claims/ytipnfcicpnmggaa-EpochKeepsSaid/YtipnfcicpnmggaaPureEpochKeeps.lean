/- EpochKeeps -/
import Derived.Test.YtipnfcicpnmggaaPx22 -- the law
import Derived.Test.YtipnfcicpnmggaaSpecB
namespace Go.Proofs.Ytipnfcicpnmggaa.Pure
open Go.Proofs.Ytipnfcicpnmggaa.Spec Go.RowKit Go.Proofs.Ytipnfcicpnmggaa.P Go.Proofs.YtipnfcicpnmggaaW.PrintWords Go.Proofs.YtipnfcicpnmggaaW.PrintLast

theorem rd_nat_ (l : List Int) (i : Nat) (h : i < l.length) : rd l (i : Int) = l[i] := by
  unfold rd; rw [Int.toNat_natCast, List.getD_eq_getElem?_getD, List.getElem?_eq_getElem h]; rfl
theorem len_both_ (a b c d : Int) (l : List S43) : (lfL a b c d l).length + (rdL a b c d l).length = l.length := by
  induction l with
  | nil => rfl
  | cons x r ih => rw [lf_cons, rd_cons]; split <;> simp only [List.length_cons] <;> omega
theorem rd_mono {a b c d a' b' c' d' : Int} (h : ∀ t, rdB a b c d t = true → rdB a' b' c' d' t = true) (l : List S43) : (rdL a b c d l).Sublist (rdL a' b' c' d' l) := by
  induction l with
  | nil => exact List.Sublist.refl _
  | cons x r ih =>
    rw [rd_cons, rd_cons]
    by_cases h1 : rdB a b c d x.f1 = true
    · rw [if_pos h1, if_pos (h _ h1)]; exact ih.cons_cons _
    · rw [if_neg h1]; split
      · exact ih.cons _
      · exact ih
section
variable {ds went cl : List Int} {i : Nat} {n a b c d : Int} {l : List S43}
theorem keep_l2 {old now : List Int} {p : Nat} (hp : p < old.length) (hnow : now.length ≤ 100000) (hold : old.length ≤ 100000)
    (hnext : Ev (fun k => drydocklaw17_EpochKeeps.l1 k ds went cl (i : Int) old now ((p + 1 : Nat) : Int) n a b c d l) true) :
    ∀ (q j : Nat) (fl : Bool), now.length - j = q → j ≤ now.length → (fl = true ∨ old[p] ∈ now.drop j) → Ev (fun k => drydocklaw17_EpochKeeps.l2 k ds went cl (i : Int) old now (p : Int) fl (j : Int) n a b c d l) true := by
  intro q
  induction q with
  | zero =>
    intro j fl hd hj hf
    have hfl : fl = true := by
      rcases hf with h | h
      · exact h
      · rw [List.drop_eq_nil_of_le (by omega)] at h; cases h
    subst hfl
    refine Ev.step (f := fun k => drydocklaw17_EpochKeeps.l1 k ds went cl (i : Int) old now ((p + 1 : Nat) : Int) n a b c d l) (fun k => by
      simp only [drydocklaw17_EpochKeeps.l2, if_true]; rw [if_neg (by omega), wrap_up (by omega)]) hnext
  | succ q ih =>
    intro j fl hd hj hf
    have hlt : j < now.length := by omega
    cases fl with
    | true =>
      refine Ev.step (f := fun k => drydocklaw17_EpochKeeps.l2 k ds went cl (i : Int) old now (p : Int) true ((j + 1 : Nat) : Int) n a b c d l) (fun k => by
        simp only [drydocklaw17_EpochKeeps.l2, if_true]; rw [if_pos (by omega), wrap_up (by omega)]) (ih (j + 1) true (by omega) (by omega) (.inl rfl))
    | false =>
      refine Ev.step (f := fun k => drydocklaw17_EpochKeeps.l2 k ds went cl (i : Int) old now (p : Int) (now[j] == old[p]) ((j + 1 : Nat) : Int) n a b c d l) (fun k => by
        simp only [drydocklaw17_EpochKeeps.l2, Bool.false_eq_true, if_false]; rw [if_pos (by omega), if_pos (by omega), if_pos (by omega), if_pos (by omega), wrap_up (by omega), rd_nat_ now j hlt, rd_nat_ old p hp]) (ih (j + 1) _ (by omega) (by omega) ?_)
      rcases hf with h | h
      · cases h
      · rw [List.drop_eq_getElem_cons hlt] at h
        rcases List.mem_cons.1 h with h | h
        · left; rw [h]; simp
        · exact .inr h
theorem keep_l1 {old now : List Int} (hnow : now.length ≤ 100000) (hold : old.length ≤ 100000) (hi : i < 100000) (hs : ∀ z ∈ old, z ∈ now)
    (hnext : Ev (fun k => drydocklaw17_EpochKeeps.l0 k ds went cl ((i + 1 : Nat) : Int) n a b c d l) true) :
    ∀ (q p : Nat), old.length - p = q → p ≤ old.length → Ev (fun k => drydocklaw17_EpochKeeps.l1 k ds went cl (i : Int) old now (p : Int) n a b c d l) true := by
  intro q
  induction q with
  | zero =>
    intro p hd hp
    exact Ev.step (f := fun k => drydocklaw17_EpochKeeps.l0 k ds went cl ((i + 1 : Nat) : Int) n a b c d l) (fun k => by
      simp only [drydocklaw17_EpochKeeps.l1]; rw [if_neg (by omega), wrap_up (by omega)]) hnext
  | succ q ih =>
    intro p hd hp
    have hlt : p < old.length := by omega
    refine Ev.step (f := fun k => drydocklaw17_EpochKeeps.l2 k ds went cl (i : Int) old now (p : Int) false ((0 : Nat) : Int) n a b c d l) (fun k => by
      simp only [drydocklaw17_EpochKeeps.l1]; rw [if_pos (by omega)]; rfl) ?_
    exact keep_l2 hlt hnow hold (ih (p + 1) (by omega) (by omega)) _ 0 false rfl (by omega) (.inr (hs _ (List.getElem_mem hlt)))
theorem keep_ok {old : List Int} {n' a' b' c' d' : Int} {l' : List S43} (hm : mayE n' a' b' c' d' l' = true) (hc : cl.length ≤ 100000) (hi : i < 100000) (hw : cl.length + l'.length = went.length) (hsub : old.Sublist (rdL a' b' c' d' l'))
    (hnext : Ev (fun k => drydocklaw17_EpochKeeps.l0 k ds went cl ((i + 1 : Nat) : Int) n' a' b' c' d' l') true) :
    Ev (fun k => drydocklaw17_EpochKeeps.j2 k ds went cl (i : Int) 0 old n a b c d l n' a' b' c' d' l') true := by
  obtain ⟨_, hl16, _⟩ := mayE_iff.1 hm
  have hrl := rd_len a' b' c' d' l'
  have hol := hsub.length_le
  refine Ev.step (f := fun k => _) (fun k => by simp only [drydocklaw17_EpochKeeps.j2, if_true]; rfl) ?_
  refine Ev.bind (Ready_ev n' a' b' c' d' (by omega)) ?_
  refine Ev.bind (may_ev n' a' b' c' d' (by omega)) ?_
  rw [show (clS n' a' b' c' d' l').2.2.2.2.2.2 = rdL a' b' c' d' l' from by unfold clS; rw [if_pos hm], hm]
  simp only [if_true]
  rw [wrap_s (by omega) (by omega)]
  simp only [if_pos (show (cl.length : Int) + (l'.length : Int) = (went.length : Int) by omega)]
  rw [decide_eq_false (by omega)]
  refine Ev.step (f := fun k => drydocklaw17_EpochKeeps.l1 k ds went cl (i : Int) old (rdL a' b' c' d' l') ((0 : Nat) : Int) n' a' b' c' d' l') (fun k => by simp only [drydocklaw17_EpochKeeps.j3, Bool.false_eq_true, if_false]; rfl) ?_
  exact keep_l1 (by omega) (by omega) hi (fun z hz => hsub.subset hz) hnext _ 0 rfl (by omega)
theorem keep_bad {old : List Int} {e : Int} {n' a' b' c' d' : Int} {l' : List S43} (he : e ≠ 0) (hi : i < 100000)
    (hnext : Ev (fun k => drydocklaw17_EpochKeeps.l0 k ds went cl ((i + 1 : Nat) : Int) n a b c d l) true) :
    Ev (fun k => drydocklaw17_EpochKeeps.j2 k ds went cl (i : Int) e old n a b c d l n' a' b' c' d' l') true :=
  Ev.step (f := fun k => drydocklaw17_EpochKeeps.l0 k ds went cl ((i + 1 : Nat) : Int) n a b c d l) (fun k => by simp only [drydocklaw17_EpochKeeps.j2]; rw [if_neg he, wrap_up (by omega)]) hnext
end
theorem may_snoc_ {n a b c d : Int} {l : List S43} {x : Int} (h : mayE n a b c d l = true) (hn : n + 1 ≤ 1073741824) (hl : l.length ≤ 15) (hx : 1 ≤ x) (hm : x ∉ l.map (·.f0)) : mayE (n + 1) a b c d (l ++ [⟨x, n⟩]) = true := by
  obtain ⟨h1, h2, h3, h4, h5, h6, h7⟩ := mayE_iff.1 h
  exact mayE_iff.2 ⟨⟨by omega, hn⟩, by simp; omega, ⟨by omega, by omega⟩, ⟨by omega, by omega⟩, ⟨by omega, by omega⟩, ⟨by omega, by omega⟩, rest_snoc h7 (by omega) (by omega) (by omega) hx (by simp) hm⟩
theorem keep_l0 {ds : List Int} (hds : ds.length ≤ 60) : ∀ (q i : Nat) (went cl : List Int) (n a b c d : Int) (l : List S43), ds.length - i = q → i ≤ ds.length → mayE n a b c d l = true → went.length ≤ i → cl.length + l.length = went.length → Ev (fun k => drydocklaw17_EpochKeeps.l0 k ds went cl (i : Int) n a b c d l) true := by
  intro q
  induction q with
  | zero =>
    intro i went cl n a b c d l hd hi _ _ _
    exact Ev.step (f := fun _ => some true) (fun k => by simp only [drydocklaw17_EpochKeeps.l0]; rw [if_neg (by omega)]) (Ev.now _)
  | succ q ih =>
    intro i went cl n a b c d l hd hi hm hw hc
    have hlt : i < ds.length := by omega
    obtain ⟨hn, hl16, _, _, _, _, hr⟩ := mayE_iff.1 hm
    have hbad := ih (i + 1) went cl n a b c d l (by omega) (by omega) hm (by omega) hc
    refine Ev.step (f := fun k => _) (fun k => by simp only [drydocklaw17_EpochKeeps.l0]; rw [if_pos (by omega), if_pos (by omega), rd_nat_ ds i hlt]) ?_
    refine Ev.bind (Ready_ev n a b c d (by omega)) ?_
    rw [show (clS n a b c d l).2.2.2.2.2.2 = rdL a b c d l from by unfold clS; rw [if_pos hm]]
    generalize ds[i] = x
    refine ite_ev (fun _ => Ev.now _) (fun g0 => ite_ev (fun g1 => ?_) (fun g1 => ite_ev (fun g2 => ?_) (fun g2 => ite_ev (fun g3 => ?_) (fun g3 => ?_))))
    · refine Ev.bind (Enter_ev n a b c d x (by omega)) ?_
      have h1 : inb x 0 3 = true := inb_iff.2 ⟨by omega, by omega⟩
      by_cases hs : sel4I a b c d x = 0
      · rw [show tnS n a b c d l x false n = (n, updI 0 x n a, updI 1 x n b, updI 2 x n c, updI 3 x n d, l, 0) from by unfold tnS; rw [if_pos hm, if_pos h1, if_neg (by simp [hs])]]
        have hm2 := may_upd x n ⟨by omega, by omega⟩ hm
        have hrd := rd_enter (l := l) (by omega) (by omega : x ≤ 3) hs (fun y hy => by have := rest_mem hr y hy; omega : ∀ y ∈ l, y.f1 < n)
        refine keep_ok hm2 (by omega) (by omega) hc (by rw [hrd]; exact List.Sublist.refl _) (ih (i + 1) went cl n _ _ _ _ l (by omega) (by omega) hm2 (by omega) hc)
      · rw [show tnS n a b c d l x false n = (0, 0, 0, 0, 0, [], 11) from by unfold tnS; rw [if_pos hm, if_pos h1, if_pos (by simp [hs])]]
        exact keep_bad (by decide) (by omega) hbad
    · rw [wrap_s (by omega) (by omega)]
      refine Ev.bind (Leave_ev n a b c d (x - 4) (by omega)) ?_
      have h1 : inb (x - 4) 0 3 = true := inb_iff.2 ⟨by omega, by omega⟩
      by_cases hs : sel4I a b c d (x - 4) = 0
      · rw [show tnS n a b c d l (x - 4) true 0 = (0, 0, 0, 0, 0, [], 11) from by unfold tnS; rw [if_pos hm, if_pos h1, if_pos (by simp [hs])]]
        exact keep_bad (by decide) (by omega) hbad
      · rw [show tnS n a b c d l (x - 4) true 0 = (n, updI 0 (x - 4) 0 a, updI 1 (x - 4) 0 b, updI 2 (x - 4) 0 c, updI 3 (x - 4) 0 d, l, 0) from by unfold tnS; rw [if_pos hm, if_pos h1, if_neg (by simp [hs])]]
        have hm2 := may_upd (x - 4) 0 ⟨by omega, by omega⟩ hm
        refine keep_ok hm2 (by omega) (by omega) hc (rd_mono (fun t ht => rdB_leave (by omega) (by omega) ht) l) (ih (i + 1) went cl n _ _ _ _ l (by omega) (by omega) hm2 (by omega) hc)
    · refine Ev.bind (clear_ev n a b c d (by omega)) ?_
      rw [show clS n a b c d l = (n, a, b, c, d, lfL a b c d l, rdL a b c d l) from by unfold clS; rw [if_pos hm]]
      have hlen := len_both_ a b c d l
      simp only [if_pos (show cl.length + (rdL a b c d l).length < 17592186044416 by omega)]
      obtain ⟨hn, hl16, ha, hb, hc', hd', hr⟩ := mayE_iff.1 hm
      have hm2 : mayE n a b c d (lfL a b c d l) = true := mayE_iff.2 ⟨hn, by omega, ha, hb, hc', hd', rest_filter _ hr⟩
      have hcl : (cl ++ rdL a b c d l).length + (lfL a b c d l).length = went.length := by rw [List.length_append]; omega
      exact keep_ok hm2 (by rw [List.length_append]; omega) (by omega) hcl (List.nil_sublist _) (ih (i + 1) went _ n a b c d _ (by omega) (by omega) hm2 (by omega) hcl)
    · refine Ev.bind (retire_ev n a b c d x (by omega)) ?_
      by_cases hmem : x ∈ l.map (·.f0)
      · rw [show rtS n a b c d l x = (0, 0, 0, 0, 0, [], 1) from by unfold rtS; rw [if_neg (fun z => z.2.2 hmem)]]
        exact keep_bad (by decide) (by omega) hbad
      · by_cases h2 : n = 1073741824
        · rw [show rtS n a b c d l x = (0, 0, 0, 0, 0, [], 2) from by unfold rtS; rw [if_pos ⟨hm, by omega, hmem⟩, if_pos h2]]
          exact keep_bad (by decide) (by omega) hbad
        · by_cases h3 : l.length = 16
          · rw [show rtS n a b c d l x = (0, 0, 0, 0, 0, [], 4) from by unfold rtS; rw [if_pos ⟨hm, by omega, hmem⟩, if_neg h2, if_pos h3]]
            exact keep_bad (by decide) (by omega) hbad
          · rw [show rtS n a b c d l x = (n + 1, a, b, c, d, l ++ [⟨x, n⟩], 0) from by unfold rtS; rw [if_pos ⟨hm, by omega, hmem⟩, if_neg h2, if_neg h3]]
            simp only [if_true]
            simp only [if_pos (show went.length < 17592186044416 by omega)]
            have hm2 := may_snoc_ hm (by omega) (by omega) (by omega : 1 ≤ x) hmem
            have hcl : cl.length + (l ++ [(⟨x, n⟩ : S43)]).length = (went ++ [x]).length := by simp; omega
            refine keep_ok hm2 (by omega) (by omega) hcl ?_ (ih (i + 1) _ cl (n + 1) a b c d _ (by omega) (by omega) hm2 (by simp; omega) hcl)
            rw [show rdL a b c d (l ++ [(⟨x, n⟩ : S43)]) = rdL a b c d l ++ rdL a b c d [(⟨x, n⟩ : S43)] from by unfold rdL; rw [List.filter_append, List.map_append]]
            exact List.sublist_append_left _ _
theorem EpochKeeps : drydocklaw17_EpochKeeps.Pure := by
  intro ds _ _ _
  suffices h : Ev (fun k => drydocklaw17_EpochKeeps.f k ds) true from h.rounds
  unfold drydocklaw17_EpochKeeps.f
  refine Ev.bind awake_ev ?_
  simp only [if_true]
  by_cases h : (ds.length : Int) > 60
  · rw [decide_eq_true h]
    exact Ev.step (f := fun _ => some true) (fun k => by simp only [drydocklaw17_EpochKeeps.j0, if_true]) (Ev.now _)
  · rw [decide_eq_false h]
    refine Ev.step (f := fun k => drydocklaw17_EpochKeeps.l0 k ds [] [] ((0 : Nat) : Int) 1 0 0 0 0 []) (fun k => by simp only [drydocklaw17_EpochKeeps.j0, Bool.false_eq_true, if_false]; rfl) ?_
    exact keep_l0 (by omega) _ 0 [] [] 1 0 0 0 0 [] rfl (by omega) rfl (by simp) (by simp)

end Go.Proofs.Ytipnfcicpnmggaa.Pure
