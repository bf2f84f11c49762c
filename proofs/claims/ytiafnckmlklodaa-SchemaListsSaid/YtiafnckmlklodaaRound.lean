/- A region that draws its order, in a round of a loop over a function: walked as anywhere. -/
import Derived.RangeFuncNested
import Derived.RangeFuncBound
import Derived.RangeFuncCalls
import Derived.RangeFuncLeaves
import Derived.Orders
import Derived.OrdersIn
import Derived.TacticsIn
namespace Go.Proofs.Ytiafnckmlklodaa.Round
open Go

theorem wpOpIn_of_wpOp {P : Program} {ops : Array Oper} {Q : Exit → Act → World → Prop} {i : Nat} {K : Act → World → Prop} {a : Act} {w : World} (l n : Nat) (hQ : ¬ LetsOut Q) (hd : ∀ (o : Oper) c, ops[i]? = some o → o.op ≠ .defer c)
    (h : wpOp P ops Q i K a w) : wpOpIn (Fence.wide.inRound l) n P ops Q i K a w := by
  unfold wpOp at h
  unfold wpOpIn
  cases ho : ops[i]? with
  | none => simp only [ho] at h; exact h
  | some o =>
    simp only [ho] at h ⊢
    by_cases hw : Region.wanted o (yielded ops a.tmps) = true
    · rw [if_pos hw] at h ⊢
      rcases h with h | ⟨_, h⟩
      · refine ⟨fun _ _ => trivial, ?_⟩
        rw [show (Fence.wide.inRound l).round = some l from rfl, Oper.semAt_some l _ o (fun c => hd o c ho)]
        unfold Oper.wp at h
        generalize (execOp a.eval o).run P w = r at h ⊢
        cases r with
        | ok x w' =>
          cases x <;> simp only [Oper.upon, Oper.uponIn] at h ⊢ <;>
            first
              | exact h
              | exact ⟨fun z => Bool.noConfusion (show false = true from z), CallsIn.inRound l (callsIn_wide.2 h)⟩
              | exact ⟨fun z => Bool.noConfusion (show false = true from z), fun c cs _ => let ⟨v, w', r, s⟩ := h c cs; ⟨v, w', r, stepsIn_wide.2 s⟩⟩
        | halt x w' => cases x <;> simp only [Oper.upon, Oper.uponIn] at h ⊢ <;> exact h
      · exact absurd h hQ
    · rw [if_neg hw] at h ⊢
      exact ⟨fun _ _ => trivial, h⟩
theorem wpAnyIn_of_wpAny {P : Program} {ops : Array Oper} {Q : Exit → Act → World → Prop} {md : Region.Mode} (l n : Nat) (hQ : ¬ LetsOut Q) (hd : ∀ (i : Nat) (o : Oper) c, ops[i]? = some o → o.op ≠ .defer c) :
    ∀ (fuel : Nat) (listed : Array Bool) (a : Act) (w : World), wpAny P md ops Q fuel listed a w → wpAnyIn (Fence.wide.inRound l) n P md ops Q fuel listed a w
  | 0, _, _, _, h => h
  | fuel + 1, _, _, _, h => ⟨h.1, fun i hi => wpOpIn_of_wpOp l n hQ (hd i) (wpOp_mono (fun a' w' h' => wpAnyIn_of_wpAny l n hQ hd fuel _ a' w' h') (h.2 i hi))⟩
theorem noDefer {ops : Array Oper} (h : ops.toList.all (fun o => match o.op with | .defer _ => false | _ => true) = true) : ∀ (i : Nat) (o : Oper) c, ops[i]? = some o → o.op ≠ .defer c := by
  intro i o c hi e
  have hm : o ∈ ops.toList := by
    have := Array.getElem?_eq_some_iff.1 hi
    obtain ⟨h1, h2⟩ := this
    rw [← h2]; simp
  have := List.all_eq_true.1 h o hm
  rw [e] at this
  simp at this
theorem region_in_round {P : Program} {ops : Array Oper} {Q : Exit → Act → World → Prop} {id : Nat} {a : Act} {w : World} (l n : Nat) (hm : P.follows .mixedOrders = true) (hQ : ¬ LetsOut Q)
    (hd : ops.toList.all (fun o => match o.op with | .defer _ => false | _ => true) = true)
    (h : wpAny P .any ops Q ops.size (Array.replicate ops.size false) a { w with drawn := w.drawn + 1 }) : (Code.region id ops true).wpIn (Fence.wide.inRound l) n P Q a w :=
  wpIn_region_any hm (wpAnyIn_of_wpAny l n hQ (noDefer hd) _ _ _ _ h)

end Go.Proofs.Ytiafnckmlklodaa.Round
