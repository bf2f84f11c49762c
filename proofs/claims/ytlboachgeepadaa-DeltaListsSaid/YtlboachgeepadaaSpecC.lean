/- What stands of keys that were noted one behind the other. -/
import Derived.Test.YtlboachgeepadaaSpecB
namespace Go.Proofs.Ytlboachgeepadaa.Spec
open Go.RowKit Go.Proofs.Ytlboachgeepadaa.P Go.Proofs.YtlboachgeepadaaW.PrintWords Go.Proofs.YtlboachgeepadaaW.PrintLast

/-- What was noted of w, a list without twins. -/
def ofW (w : List Int) : List Int × Bool := (w.take 8, decide (w.length > 8))
theorem may_ofW {w : List Int} (hn : w.Nodup) : mayD (ofW w).1 (ofW w).2 = true := by
  have h1 : (w.take 8).Nodup := hn.sublist (List.take_sublist _ _)
  have h2 : (w.take 8).length ≤ 8 := by simp; omega
  unfold mayD ofW
  rw [decide_eq_true h1, decide_eq_true h2]
  by_cases h : w.length > 8
  · have : (w.take 8).length = 8 := by simp; omega
    simp [this]
  · simp [h]
theorem note_in {w : List Int} {a : Int} (hn : w.Nodup) (h : a ∈ w) : noteD (ofW w).1 (ofW w).2 a = ofW w := by
  unfold noteD
  rw [if_pos (may_ofW hn)]
  by_cases h1 : a ∈ (ofW w).1
  · rw [if_pos h1]
  · rw [if_neg h1]
    have h8 : w.length > 8 := by
      rcases Nat.lt_or_ge 8 w.length with h8 | h8
      · exact h8
      · exact absurd (by rw [ofW, List.take_of_length_le h8]; exact h) h1
    rw [if_pos (show (ofW w).1.length = 8 by simp [ofW]; omega)]
    simp [ofW, h8]
theorem note_out {w : List Int} {a : Int} (hn : w.Nodup) (h : a ∉ w) : noteD (ofW w).1 (ofW w).2 a = ofW (w ++ [a]) := by
  unfold noteD
  rw [if_pos (may_ofW hn), if_neg (show ¬ a ∈ (ofW w).1 from fun h1 => h (List.mem_of_mem_take (show a ∈ w.take 8 from h1)))]
  rcases Nat.lt_or_ge w.length 8 with h8 | h8
  · rw [if_neg (show ¬ (ofW w).1.length = 8 by simp [ofW]; omega)]
    simp only [ofW]
    rw [List.take_of_length_le (by omega), List.take_of_length_le (by simp; omega)]
    simp
    omega
  · rw [if_pos (show (ofW w).1.length = 8 by simp [ofW]; omega)]
    simp only [ofW]
    rw [List.take_append_of_le_length h8]
    simp
    omega

/-- A key beside others, once. -/
def insW (w : List Int) (a : Int) : List Int := if a ∈ w then w else w ++ [a]
theorem nodup_ins {w : List Int} (hn : w.Nodup) (a : Int) : (insW w a).Nodup := by
  unfold insW
  split
  · exact hn
  · rename_i hm
    rw [List.nodup_append]
    exact ⟨hn, by simp, fun x hx b hb => by simp at hb; exact fun e => hm (by rw [← hb, ← e]; exact hx)⟩
theorem mem_ins (w : List Int) (a : Int) : a ∈ insW w a := by
  unfold insW
  split
  · assumption
  · simp
theorem sub_ins {w : List Int} {a b : Int} (h : b ∈ w) : b ∈ insW w a := by
  unfold insW
  split
  · exact h
  · simp [h]
theorem note_ins {w : List Int} (hn : w.Nodup) (a : Int) : noteD (ofW w).1 (ofW w).2 a = ofW (insW w a) := by
  unfold insW
  by_cases h : a ∈ w
  · rw [if_pos h, note_in hn h]
  · rw [if_neg h, note_out hn h]
theorem len_ofW (w : List Int) : (ofW w).1.length ≤ 8 := by simp [ofW]; omega
end Go.Proofs.Ytlboachgeepadaa.Spec
