/-
  No cell of these rows narrows 'for every input' (looked for: loops, veiled, ifaces, maps, wideKeys, modest, calm, conditions, laid).
  DERIVED. THE GIVEN ROWS OF THIS SEAT. 4 by the template 'for every input the law returns true; each argument reads behind the call as it read before'; 0 by the template 'total and deterministic' (their statements: YtlboachgeepadaaTotals.lean).
  GIVEN WITH THE SEED: the statements are not yours to turn. If you find one false, say at which input.
  Laid BY PROGRAM, IN A SANDBOX (cutbox-rows.mjs): the forced cells as the released guide's own fill.sh prints them over the translation e9e8d73fa9f20901… (all of the seat's roots in one cut). By AI agents, Wed Nov 11 2026. No macro, syntax, notation, axiom, sorry.
-/
import Derived.Test.YtlboachgeepadaaChecked
import GoSem.Claim
import GoSem.ClaimJoined
import GoSem.ClaimMapViews
import Derived.JoinedTies
import Derived.KernelRfl
namespace Go.Proofs.Ytlboachgeepadaa
/- THE CELL 'sum', in the pinned program and in every row, IS THE sha256 OF THE DUMP (.gsa) THAT YtlboachgeepadaaProg.lean LOADS. Nothing in Lean hashes anything: it is a label: what it is worth is what the hold of that sum in a sandbox is worth. -/
noncomputable def Try.pinned : Pinned := { name := "ytlboachgeepadaa", sum := "e9e8d73fa9f2090125d834fe8c9fe372ddfd22420ee868487d357d17ba2e67b5", checked := Try.checked }
namespace Rows
def none {H : Type} : Left H := { results := [], args := [] }

/-- 'drydocklaw19.DeltaKeeps': WHATEVER THE INPUT: true; the input reads as it did. -/
def deltaKeepsSpec : ChangeSpec := { name := "deltaKeeps", fn := fun _ => fun
  | [d] => { results := [.lit (.bool true)], args := [d] }
  | _ => none }
def deltaKeepsRow : OpenClaim := { program := "ytlboachgeepadaa", sum := "e9e8d73fa9f2090125d834fe8c9fe372ddfd22420ee868487d357d17ba2e67b5", func := "drydock/drydocklaw19.DeltaKeeps", spec := "deltaKeeps", apart := false }
def DeltaKeepsSaid : Prop := deltaKeepsRow.holds Try.pinned (OpenSpec.ofChange deltaKeepsSpec)

/-- ITS FALSE NEIGHBOUR: 'it returns false'. Refute it at one input. -/
def deltaKeepsWrong : ChangeSpec := { name := "deltaKeeps", fn := fun _ => fun
  | [d] => { results := [.lit (.bool false)], args := [d] }
  | _ => none }
def DeltaKeepsWrongFalsely : Prop := deltaKeepsRow.holds Try.pinned (OpenSpec.ofChange deltaKeepsWrong)

/-- 'drydocklaw19.DeltaLists': WHATEVER THE INPUT: true; the input reads as it did. -/
def deltaListsSpec : ChangeSpec := { name := "deltaLists", fn := fun _ => fun
  | [d1, d2] => { results := [.lit (.bool true)], args := [d1, d2] }
  | _ => none }
def deltaListsRow : OpenClaim := { program := "ytlboachgeepadaa", sum := "e9e8d73fa9f2090125d834fe8c9fe372ddfd22420ee868487d357d17ba2e67b5", func := "drydock/drydocklaw19.DeltaLists", spec := "deltaLists", apart := false }
def DeltaListsSaid : Prop := deltaListsRow.holds Try.pinned (OpenSpec.ofChange deltaListsSpec)

/-- ITS FALSE NEIGHBOUR: 'it returns false'. Refute it at one input. -/
def deltaListsWrong : ChangeSpec := { name := "deltaLists", fn := fun _ => fun
  | [d1, d2] => { results := [.lit (.bool false)], args := [d1, d2] }
  | _ => none }
def DeltaListsWrongFalsely : Prop := deltaListsRow.holds Try.pinned (OpenSpec.ofChange deltaListsWrong)

/-- 'drydocklaw19.DeltaTells': WHATEVER THE INPUT: true; the input reads as it did. -/
def deltaTellsSpec : ChangeSpec := { name := "deltaTells", fn := fun _ => fun
  | [d1, d2, d3, d4, d5] => { results := [.lit (.bool true)], args := [d1, d2, d3, d4, d5] }
  | _ => none }
def deltaTellsRow : OpenClaim := { program := "ytlboachgeepadaa", sum := "e9e8d73fa9f2090125d834fe8c9fe372ddfd22420ee868487d357d17ba2e67b5", func := "drydock/drydocklaw19.DeltaTells", spec := "deltaTells", unfollowed := true, recurses := true, apart := false }
def DeltaTellsSaid : Prop := deltaTellsRow.holds Try.pinned (OpenSpec.ofChange deltaTellsSpec)

/-- ITS FALSE NEIGHBOUR: 'it returns false'. Refute it at one input. -/
def deltaTellsWrong : ChangeSpec := { name := "deltaTells", fn := fun _ => fun
  | [d1, d2, d3, d4, d5] => { results := [.lit (.bool false)], args := [d1, d2, d3, d4, d5] }
  | _ => none }
def DeltaTellsWrongFalsely : Prop := deltaTellsRow.holds Try.pinned (OpenSpec.ofChange deltaTellsWrong)

/-- 'drydocklaw19.DeltaPuts': WHATEVER THE INPUT: true; the input reads as it did. -/
def deltaPutsSpec : ChangeSpec := { name := "deltaPuts", fn := fun _ => fun
  | [d1, d2] => { results := [.lit (.bool true)], args := [d1, d2] }
  | _ => none }
def deltaPutsRow : OpenClaim := { program := "ytlboachgeepadaa", sum := "e9e8d73fa9f2090125d834fe8c9fe372ddfd22420ee868487d357d17ba2e67b5", func := "drydock/drydocklaw19.DeltaPuts", spec := "deltaPuts", unfollowed := true, recurses := true, apart := false }
def DeltaPutsSaid : Prop := deltaPutsRow.holds Try.pinned (OpenSpec.ofChange deltaPutsSpec)

/-- ITS FALSE NEIGHBOUR: 'it returns false'. Refute it at one input. -/
def deltaPutsWrong : ChangeSpec := { name := "deltaPuts", fn := fun _ => fun
  | [d1, d2] => { results := [.lit (.bool false)], args := [d1, d2] }
  | _ => none }
def DeltaPutsWrongFalsely : Prop := deltaPutsRow.holds Try.pinned (OpenSpec.ofChange deltaPutsWrong)

/- THE SECOND FORM. 'bulk': how many values and letters a reading holds, each counted each time it is reached (what is shared counts as often as it is met; a slice's spare places count too). A statement '..UptoSaid' is the law's where the arguments, and the package variables that the reading takes, are together of bulk at most 1048576: NARROWER than '..Said'. Prove '..Said' where nothing that the law and all that it calls make is longer than what came in: it says more and counts as full. Else prove '..UptoSaid'. A law counts once. -/
mutual
def uptoBulk {H : Type} : DataW H → Nat
  | .lit (.string bytes) => bytes.length + 1
  | .lit _ => 1
  | .nil => 1
  | .ptr d => uptoBulk d + 1
  | .slice elems spare => uptoBulkAll elems + uptoBulkAll spare + 1
  | .agg parts => uptoBulkAll parts + 1
  | .iface _ d => uptoBulk d + 1
  | .map entries => uptoBulkEntries entries + 1
  | .held _ => 1
def uptoBulkAll {H : Type} : List (DataW H) → Nat
  | [] => 0
  | d :: r => uptoBulk d + uptoBulkAll r
def uptoBulkEntries {H : Type} : List (Lit × DataW H) → Nat
  | [] => 0
  | x :: r => uptoBulkEntry x + uptoBulkEntries r
def uptoBulkEntry {H : Type} : Lit × DataW H → Nat
  | (.string bytes, d) => bytes.length + uptoBulk d + 1
  | (_, d) => uptoBulk d + 1
 end
def uptoSmall : (H : Type) → List (DataW H) → Bool := fun _ ds => decide (uptoBulkAll ds ≤ 1048576)
def OpenSpec.upto (s : _root_.Go.ChangeSpec) : _root_.Go.OpenSpec := { _root_.Go.OpenSpec.ofChange s with cond := some uptoSmall }

/-- 'drydocklaw19.DeltaKeeps', WHERE WHAT IT READS IS OF BULK AT MOST 1048576: true; the input reads as it did. -/
def deltaKeepsUptoRow : OpenClaim := { program := "ytlboachgeepadaa", sum := "e9e8d73fa9f2090125d834fe8c9fe372ddfd22420ee868487d357d17ba2e67b5", func := "drydock/drydocklaw19.DeltaKeeps", spec := "deltaKeeps", apart := false, narrowed := true }
def DeltaKeepsUptoSaid : Prop := deltaKeepsUptoRow.holds Try.pinned (OpenSpec.upto deltaKeepsSpec)

/-- 'drydocklaw19.DeltaLists', WHERE WHAT IT READS IS OF BULK AT MOST 1048576: true; the input reads as it did. -/
def deltaListsUptoRow : OpenClaim := { program := "ytlboachgeepadaa", sum := "e9e8d73fa9f2090125d834fe8c9fe372ddfd22420ee868487d357d17ba2e67b5", func := "drydock/drydocklaw19.DeltaLists", spec := "deltaLists", apart := false, narrowed := true }
def DeltaListsUptoSaid : Prop := deltaListsUptoRow.holds Try.pinned (OpenSpec.upto deltaListsSpec)

/-- 'drydocklaw19.DeltaTells', WHERE WHAT IT READS IS OF BULK AT MOST 1048576: true; the input reads as it did. -/
def deltaTellsUptoRow : OpenClaim := { program := "ytlboachgeepadaa", sum := "e9e8d73fa9f2090125d834fe8c9fe372ddfd22420ee868487d357d17ba2e67b5", func := "drydock/drydocklaw19.DeltaTells", spec := "deltaTells", unfollowed := true, recurses := true, apart := false, narrowed := true }
def DeltaTellsUptoSaid : Prop := deltaTellsUptoRow.holds Try.pinned (OpenSpec.upto deltaTellsSpec)

/-- 'drydocklaw19.DeltaPuts', WHERE WHAT IT READS IS OF BULK AT MOST 1048576: true; the input reads as it did. -/
def deltaPutsUptoRow : OpenClaim := { program := "ytlboachgeepadaa", sum := "e9e8d73fa9f2090125d834fe8c9fe372ddfd22420ee868487d357d17ba2e67b5", func := "drydock/drydocklaw19.DeltaPuts", spec := "deltaPuts", unfollowed := true, recurses := true, apart := false, narrowed := true }
def DeltaPutsUptoSaid : Prop := deltaPutsUptoRow.holds Try.pinned (OpenSpec.upto deltaPutsSpec)

end Rows
end Go.Proofs.Ytlboachgeepadaa
