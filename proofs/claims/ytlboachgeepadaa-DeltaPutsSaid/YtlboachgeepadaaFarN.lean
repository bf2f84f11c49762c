/- A row that leads to others stays as it is where a block's places are written one behind the other. -/
import Derived.Test.YtlboachgeepadaaPx0
namespace Go.Proofs.Ytlboachgeepadaa.P
open Go.RowKit Go.Proofs.YtlboachgeepadaaW.PrintWords Go.Proofs.YtlboachgeepadaaW.PrintLast Go.Proofs.YtlboachgeepadaaW.PrintMore
section
variable {α : Type} {d : Kd α} {e : Nat} {w w' : World} {base : Nat} {ok : Nat → Prop} {v : Value} {xs : List α}
theorem far2N (g : Nat) {u0 u1 : Value} (h : Kd.N d e w base ok v xs) (hk : ∀ k, ok k → k ≠ g) : Kd.N d e ((w.setCell ⟨g, 0, none⟩ u0).setCell ⟨g, 1, none⟩ u1) base ok v xs := (Kd.N_far (p := ⟨g, 1, none⟩) (Kd.N_far (p := ⟨g, 0, none⟩) h hk u0) hk u1)
theorem far12N (g : Nat) {u0 u1 u2 u3 u4 u5 u6 u7 u8 u9 u10 u11 : Value} (h : Kd.N d e w base ok v xs) (hk : ∀ k, ok k → k ≠ g) : Kd.N d e ((((((((((((w.setCell ⟨g, 0, none⟩ u0).setCell ⟨g, 1, none⟩ u1).setCell ⟨g, 2, none⟩ u2).setCell ⟨g, 3, none⟩ u3).setCell ⟨g, 4, none⟩ u4).setCell ⟨g, 5, none⟩ u5).setCell ⟨g, 6, none⟩ u6).setCell ⟨g, 7, none⟩ u7).setCell ⟨g, 8, none⟩ u8).setCell ⟨g, 9, none⟩ u9).setCell ⟨g, 10, none⟩ u10).setCell ⟨g, 11, none⟩ u11) base ok v xs := (Kd.N_far (p := ⟨g, 11, none⟩) (Kd.N_far (p := ⟨g, 10, none⟩) (Kd.N_far (p := ⟨g, 9, none⟩) (Kd.N_far (p := ⟨g, 8, none⟩) (Kd.N_far (p := ⟨g, 7, none⟩) (Kd.N_far (p := ⟨g, 6, none⟩) (Kd.N_far (p := ⟨g, 5, none⟩) (Kd.N_far (p := ⟨g, 4, none⟩) (Kd.N_far (p := ⟨g, 3, none⟩) (Kd.N_far (p := ⟨g, 2, none⟩) (Kd.N_far (p := ⟨g, 1, none⟩) (Kd.N_far (p := ⟨g, 0, none⟩) h hk u0) hk u1) hk u2) hk u3) hk u4) hk u5) hk u6) hk u7) hk u8) hk u9) hk u10) hk u11)
end
end Go.Proofs.Ytlboachgeepadaa.P
