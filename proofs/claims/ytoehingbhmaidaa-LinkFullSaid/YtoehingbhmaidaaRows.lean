/-
  No cell of these rows narrows 'for every input' (looked for: loops, veiled, ifaces, maps, wideKeys, modest, calm, conditions, laid).
  DERIVED. THE GIVEN ROWS OF THIS SEAT. 7 by the template 'for every input the law returns true; each argument reads behind the call as it read before'; 0 by the template 'total and deterministic' (their statements: YtoehingbhmaidaaTotals.lean).
  GIVEN WITH THE SEED: the statements are not yours to turn. If you find one false, say at which input.
  Laid BY PROGRAM, IN A SANDBOX (cutbox-rows.mjs): the forced cells as the released guide's own fill.sh prints them over the translation 5871a662e356dfb5… (all of the seat's roots in one cut). By AI agents, Wed Nov 11 2026. No macro, syntax, notation, axiom, sorry.
-/
import Derived.Test.YtoehingbhmaidaaChecked
import GoSem.Claim
import GoSem.ClaimJoined
import GoSem.ClaimMapViews
import Derived.JoinedTies
import Derived.KernelRfl
namespace Go.Proofs.Ytoehingbhmaidaa
/- THE CELL 'sum', in the pinned program and in every row, IS THE sha256 OF THE DUMP (.gsa) THAT YtoehingbhmaidaaProg.lean LOADS. Nothing in Lean hashes anything: it is a label: what it is worth is what the hold of that sum in a sandbox is worth. -/
noncomputable def Try.pinned : Pinned := { name := "ytoehingbhmaidaa", sum := "5871a662e356dfb539cdab655f33e8a2968e9727803c5734fa73bb6e42717489", checked := Try.checked }
namespace Rows
def none {H : Type} : Left H := { results := [], args := [] }

/-- 'drydocklaw16.LinkTells': WHATEVER THE INPUT: true; the input reads as it did. -/
def linkTellsSpec : ChangeSpec := { name := "linkTells", fn := fun _ => fun
  | [d1, d2, d3, d4, d5] => { results := [.lit (.bool true)], args := [d1, d2, d3, d4, d5] }
  | _ => none }
def linkTellsRow : OpenClaim := { program := "ytoehingbhmaidaa", sum := "5871a662e356dfb539cdab655f33e8a2968e9727803c5734fa73bb6e42717489", func := "drydock/drydocklaw16.LinkTells", spec := "linkTells", unfollowed := true, recurses := true, apart := false }
def LinkTellsSaid : Prop := linkTellsRow.holds Try.pinned (OpenSpec.ofChange linkTellsSpec)

/-- ITS FALSE NEIGHBOUR: 'it returns false'. Refute it at one input. -/
def linkTellsWrong : ChangeSpec := { name := "linkTells", fn := fun _ => fun
  | [d1, d2, d3, d4, d5] => { results := [.lit (.bool false)], args := [d1, d2, d3, d4, d5] }
  | _ => none }
def LinkTellsWrongFalsely : Prop := linkTellsRow.holds Try.pinned (OpenSpec.ofChange linkTellsWrong)

/-- 'drydocklaw16.LinkStale': WHATEVER THE INPUT: true; the input reads as it did. -/
def linkStaleSpec : ChangeSpec := { name := "linkStale", fn := fun _ => fun
  | [d1, d2, d3, d4, d5] => { results := [.lit (.bool true)], args := [d1, d2, d3, d4, d5] }
  | _ => none }
def linkStaleRow : OpenClaim := { program := "ytoehingbhmaidaa", sum := "5871a662e356dfb539cdab655f33e8a2968e9727803c5734fa73bb6e42717489", func := "drydock/drydocklaw16.LinkStale", spec := "linkStale", unfollowed := true, recurses := true, apart := false }
def LinkStaleSaid : Prop := linkStaleRow.holds Try.pinned (OpenSpec.ofChange linkStaleSpec)

/-- ITS FALSE NEIGHBOUR: 'it returns false'. Refute it at one input. -/
def linkStaleWrong : ChangeSpec := { name := "linkStale", fn := fun _ => fun
  | [d1, d2, d3, d4, d5] => { results := [.lit (.bool false)], args := [d1, d2, d3, d4, d5] }
  | _ => none }
def LinkStaleWrongFalsely : Prop := linkStaleRow.holds Try.pinned (OpenSpec.ofChange linkStaleWrong)

/-- 'drydocklaw16.LinkPlace': WHATEVER THE INPUT: true; the input reads as it did. -/
def linkPlaceSpec : ChangeSpec := { name := "linkPlace", fn := fun _ => fun
  | [d1, d2, d3, d4] => { results := [.lit (.bool true)], args := [d1, d2, d3, d4] }
  | _ => none }
def linkPlaceRow : OpenClaim := { program := "ytoehingbhmaidaa", sum := "5871a662e356dfb539cdab655f33e8a2968e9727803c5734fa73bb6e42717489", func := "drydock/drydocklaw16.LinkPlace", spec := "linkPlace", unfollowed := true, recurses := true, apart := false }
def LinkPlaceSaid : Prop := linkPlaceRow.holds Try.pinned (OpenSpec.ofChange linkPlaceSpec)

/-- ITS FALSE NEIGHBOUR: 'it returns false'. Refute it at one input. -/
def linkPlaceWrong : ChangeSpec := { name := "linkPlace", fn := fun _ => fun
  | [d1, d2, d3, d4] => { results := [.lit (.bool false)], args := [d1, d2, d3, d4] }
  | _ => none }
def LinkPlaceWrongFalsely : Prop := linkPlaceRow.holds Try.pinned (OpenSpec.ofChange linkPlaceWrong)

/-- 'drydocklaw16.LinkSwap': WHATEVER THE INPUT: true; the input reads as it did. -/
def linkSwapSpec : ChangeSpec := { name := "linkSwap", fn := fun _ => fun
  | [d1, d2, d3] => { results := [.lit (.bool true)], args := [d1, d2, d3] }
  | _ => none }
def linkSwapRow : OpenClaim := { program := "ytoehingbhmaidaa", sum := "5871a662e356dfb539cdab655f33e8a2968e9727803c5734fa73bb6e42717489", func := "drydock/drydocklaw16.LinkSwap", spec := "linkSwap", unfollowed := true, recurses := true, apart := false }
def LinkSwapSaid : Prop := linkSwapRow.holds Try.pinned (OpenSpec.ofChange linkSwapSpec)

/-- ITS FALSE NEIGHBOUR: 'it returns false'. Refute it at one input. -/
def linkSwapWrong : ChangeSpec := { name := "linkSwap", fn := fun _ => fun
  | [d1, d2, d3] => { results := [.lit (.bool false)], args := [d1, d2, d3] }
  | _ => none }
def LinkSwapWrongFalsely : Prop := linkSwapRow.holds Try.pinned (OpenSpec.ofChange linkSwapWrong)

/-- 'drydocklaw16.LinkBack': WHATEVER THE INPUT: true; the input reads as it did. -/
def linkBackSpec : ChangeSpec := { name := "linkBack", fn := fun _ => fun
  | [d1, d2, d3, d4] => { results := [.lit (.bool true)], args := [d1, d2, d3, d4] }
  | _ => none }
def linkBackRow : OpenClaim := { program := "ytoehingbhmaidaa", sum := "5871a662e356dfb539cdab655f33e8a2968e9727803c5734fa73bb6e42717489", func := "drydock/drydocklaw16.LinkBack", spec := "linkBack", unfollowed := true, recurses := true, apart := false }
def LinkBackSaid : Prop := linkBackRow.holds Try.pinned (OpenSpec.ofChange linkBackSpec)

/-- ITS FALSE NEIGHBOUR: 'it returns false'. Refute it at one input. -/
def linkBackWrong : ChangeSpec := { name := "linkBack", fn := fun _ => fun
  | [d1, d2, d3, d4] => { results := [.lit (.bool false)], args := [d1, d2, d3, d4] }
  | _ => none }
def LinkBackWrongFalsely : Prop := linkBackRow.holds Try.pinned (OpenSpec.ofChange linkBackWrong)

/-- 'drydocklaw16.LinkOrder': WHATEVER THE INPUT: true; the input reads as it did. -/
def linkOrderSpec : ChangeSpec := { name := "linkOrder", fn := fun _ => fun
  | [d1, d2, d3, d4] => { results := [.lit (.bool true)], args := [d1, d2, d3, d4] }
  | _ => none }
def linkOrderRow : OpenClaim := { program := "ytoehingbhmaidaa", sum := "5871a662e356dfb539cdab655f33e8a2968e9727803c5734fa73bb6e42717489", func := "drydock/drydocklaw16.LinkOrder", spec := "linkOrder", unfollowed := true, recurses := true, apart := false }
def LinkOrderSaid : Prop := linkOrderRow.holds Try.pinned (OpenSpec.ofChange linkOrderSpec)

/-- ITS FALSE NEIGHBOUR: 'it returns false'. Refute it at one input. -/
def linkOrderWrong : ChangeSpec := { name := "linkOrder", fn := fun _ => fun
  | [d1, d2, d3, d4] => { results := [.lit (.bool false)], args := [d1, d2, d3, d4] }
  | _ => none }
def LinkOrderWrongFalsely : Prop := linkOrderRow.holds Try.pinned (OpenSpec.ofChange linkOrderWrong)

/-- 'drydocklaw16.LinkFull': WHATEVER THE INPUT: true; the input reads as it did. -/
def linkFullSpec : ChangeSpec := { name := "linkFull", fn := fun _ => fun
  | [d1, d2] => { results := [.lit (.bool true)], args := [d1, d2] }
  | _ => none }
def linkFullRow : OpenClaim := { program := "ytoehingbhmaidaa", sum := "5871a662e356dfb539cdab655f33e8a2968e9727803c5734fa73bb6e42717489", func := "drydock/drydocklaw16.LinkFull", spec := "linkFull", unfollowed := true, recurses := true, apart := false }
def LinkFullSaid : Prop := linkFullRow.holds Try.pinned (OpenSpec.ofChange linkFullSpec)

/-- ITS FALSE NEIGHBOUR: 'it returns false'. Refute it at one input. -/
def linkFullWrong : ChangeSpec := { name := "linkFull", fn := fun _ => fun
  | [d1, d2] => { results := [.lit (.bool false)], args := [d1, d2] }
  | _ => none }
def LinkFullWrongFalsely : Prop := linkFullRow.holds Try.pinned (OpenSpec.ofChange linkFullWrong)

/- THE SECOND FORM. 'bulk': how many values and letters a reading holds, each counted each time it is reached (what is shared counts as often as it is met; a slice's spare places count too). A statement '..UptoSaid' is the law's where the arguments, and the package variables that the reading takes, are together of bulk at most 1048576: NARROWER than '..Said'. Prove '..Said' where nothing that the law and all that it calls make is longer than what came in: it says more and counts as full. Else prove '..UptoSaid'. A law counts once. -/
mutual
def uptoBulk {H : Type} : DataW H → Nat
  | .lit (.string bytes) => bytes.length + 1
  | .lit _ => 1
  | .nil => 1
  | .ptr d => uptoBulk d + 1
  | .slice elems spare => uptoBulkAll elems + uptoBulkAll spare + 1
  | .agg parts => uptoBulkAll parts + 1
  | .iface _ d => uptoBulk d + 1
  | .map entries => uptoBulkEntries entries + 1
  | .held _ => 1
def uptoBulkAll {H : Type} : List (DataW H) → Nat
  | [] => 0
  | d :: r => uptoBulk d + uptoBulkAll r
def uptoBulkEntries {H : Type} : List (Lit × DataW H) → Nat
  | [] => 0
  | x :: r => uptoBulkEntry x + uptoBulkEntries r
def uptoBulkEntry {H : Type} : Lit × DataW H → Nat
  | (.string bytes, d) => bytes.length + uptoBulk d + 1
  | (_, d) => uptoBulk d + 1
 end
def uptoSmall : (H : Type) → List (DataW H) → Bool := fun _ ds => decide (uptoBulkAll ds ≤ 1048576)
def OpenSpec.upto (s : _root_.Go.ChangeSpec) : _root_.Go.OpenSpec := { _root_.Go.OpenSpec.ofChange s with cond := some uptoSmall }

/-- 'drydocklaw16.LinkTells', WHERE WHAT IT READS IS OF BULK AT MOST 1048576: true; the input reads as it did. -/
def linkTellsUptoRow : OpenClaim := { program := "ytoehingbhmaidaa", sum := "5871a662e356dfb539cdab655f33e8a2968e9727803c5734fa73bb6e42717489", func := "drydock/drydocklaw16.LinkTells", spec := "linkTells", unfollowed := true, recurses := true, apart := false, narrowed := true }
def LinkTellsUptoSaid : Prop := linkTellsUptoRow.holds Try.pinned (OpenSpec.upto linkTellsSpec)

/-- 'drydocklaw16.LinkStale', WHERE WHAT IT READS IS OF BULK AT MOST 1048576: true; the input reads as it did. -/
def linkStaleUptoRow : OpenClaim := { program := "ytoehingbhmaidaa", sum := "5871a662e356dfb539cdab655f33e8a2968e9727803c5734fa73bb6e42717489", func := "drydock/drydocklaw16.LinkStale", spec := "linkStale", unfollowed := true, recurses := true, apart := false, narrowed := true }
def LinkStaleUptoSaid : Prop := linkStaleUptoRow.holds Try.pinned (OpenSpec.upto linkStaleSpec)

/-- 'drydocklaw16.LinkPlace', WHERE WHAT IT READS IS OF BULK AT MOST 1048576: true; the input reads as it did. -/
def linkPlaceUptoRow : OpenClaim := { program := "ytoehingbhmaidaa", sum := "5871a662e356dfb539cdab655f33e8a2968e9727803c5734fa73bb6e42717489", func := "drydock/drydocklaw16.LinkPlace", spec := "linkPlace", unfollowed := true, recurses := true, apart := false, narrowed := true }
def LinkPlaceUptoSaid : Prop := linkPlaceUptoRow.holds Try.pinned (OpenSpec.upto linkPlaceSpec)

/-- 'drydocklaw16.LinkSwap', WHERE WHAT IT READS IS OF BULK AT MOST 1048576: true; the input reads as it did. -/
def linkSwapUptoRow : OpenClaim := { program := "ytoehingbhmaidaa", sum := "5871a662e356dfb539cdab655f33e8a2968e9727803c5734fa73bb6e42717489", func := "drydock/drydocklaw16.LinkSwap", spec := "linkSwap", unfollowed := true, recurses := true, apart := false, narrowed := true }
def LinkSwapUptoSaid : Prop := linkSwapUptoRow.holds Try.pinned (OpenSpec.upto linkSwapSpec)

/-- 'drydocklaw16.LinkBack', WHERE WHAT IT READS IS OF BULK AT MOST 1048576: true; the input reads as it did. -/
def linkBackUptoRow : OpenClaim := { program := "ytoehingbhmaidaa", sum := "5871a662e356dfb539cdab655f33e8a2968e9727803c5734fa73bb6e42717489", func := "drydock/drydocklaw16.LinkBack", spec := "linkBack", unfollowed := true, recurses := true, apart := false, narrowed := true }
def LinkBackUptoSaid : Prop := linkBackUptoRow.holds Try.pinned (OpenSpec.upto linkBackSpec)

/-- 'drydocklaw16.LinkOrder', WHERE WHAT IT READS IS OF BULK AT MOST 1048576: true; the input reads as it did. -/
def linkOrderUptoRow : OpenClaim := { program := "ytoehingbhmaidaa", sum := "5871a662e356dfb539cdab655f33e8a2968e9727803c5734fa73bb6e42717489", func := "drydock/drydocklaw16.LinkOrder", spec := "linkOrder", unfollowed := true, recurses := true, apart := false, narrowed := true }
def LinkOrderUptoSaid : Prop := linkOrderUptoRow.holds Try.pinned (OpenSpec.upto linkOrderSpec)

/-- 'drydocklaw16.LinkFull', WHERE WHAT IT READS IS OF BULK AT MOST 1048576: true; the input reads as it did. -/
def linkFullUptoRow : OpenClaim := { program := "ytoehingbhmaidaa", sum := "5871a662e356dfb539cdab655f33e8a2968e9727803c5734fa73bb6e42717489", func := "drydock/drydocklaw16.LinkFull", spec := "linkFull", unfollowed := true, recurses := true, apart := false, narrowed := true }
def LinkFullUptoSaid : Prop := linkFullUptoRow.holds Try.pinned (OpenSpec.upto linkFullSpec)

end Rows
end Go.Proofs.Ytoehingbhmaidaa
