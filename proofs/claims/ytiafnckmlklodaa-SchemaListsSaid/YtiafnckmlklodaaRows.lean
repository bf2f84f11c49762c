/-
  No cell of these rows narrows 'for every input' (looked for: loops, veiled, ifaces, maps, wideKeys, modest, calm, conditions, laid).
  DERIVED. THE GIVEN ROWS OF THIS SEAT. 6 by the template 'for every input the law returns true; each argument reads behind the call as it read before'; 0 by the template 'total and deterministic' (their statements: YtiafnckmlklodaaTotals.lean).
  GIVEN WITH THE SEED: the statements are not yours to turn. If you find one false, say at which input.
  Laid BY PROGRAM, IN A SANDBOX (cutbox-rows.mjs): the forced cells as the released guide's own fill.sh prints them over the translation 76e783ccc804cb42… (all of the seat's roots in one cut). By AI agents, Wed Nov 11 2026. No macro, syntax, notation, axiom, sorry.
-/
import Derived.Test.YtiafnckmlklodaaChecked
import GoSem.Claim
import GoSem.ClaimJoined
import GoSem.ClaimMapViews
import Derived.JoinedTies
import Derived.KernelRfl
namespace Go.Proofs.Ytiafnckmlklodaa
/- THE CELL 'sum', in the pinned program and in every row, IS THE sha256 OF THE DUMP (.gsa) THAT YtiafnckmlklodaaProg.lean LOADS. Nothing in Lean hashes anything: it is a label: what it is worth is what the hold of that sum in a sandbox is worth. -/
noncomputable def Try.pinned : Pinned := { name := "ytiafnckmlklodaa", sum := "76e783ccc804cb424c5beaeac90f7e6e334091b1ed87d7ff1aa7e60d815ad875", checked := Try.checked }
namespace Rows
def none {H : Type} : Left H := { results := [], args := [] }

/-- 'drydocklaw04.SchemaBack': WHATEVER THE INPUT: true; the input reads as it did. -/
def schemaBackSpec : ChangeSpec := { name := "schemaBack", fn := fun _ => fun
  | [d1, d2] => { results := [.lit (.bool true)], args := [d1, d2] }
  | _ => none }
def schemaBackRow : OpenClaim := { program := "ytiafnckmlklodaa", sum := "76e783ccc804cb424c5beaeac90f7e6e334091b1ed87d7ff1aa7e60d815ad875", func := "drydock/drydocklaw04.SchemaBack", spec := "schemaBack", unfollowed := true, recurses := true, apart := false }
def SchemaBackSaid : Prop := schemaBackRow.holds Try.pinned (OpenSpec.ofChange schemaBackSpec)

/-- ITS FALSE NEIGHBOUR: 'it returns false'. Refute it at one input. -/
def schemaBackWrong : ChangeSpec := { name := "schemaBack", fn := fun _ => fun
  | [d1, d2] => { results := [.lit (.bool false)], args := [d1, d2] }
  | _ => none }
def SchemaBackWrongFalsely : Prop := schemaBackRow.holds Try.pinned (OpenSpec.ofChange schemaBackWrong)

/-- 'drydocklaw04.SchemaRoom': WHATEVER THE INPUT: true; the input reads as it did. -/
def schemaRoomSpec : ChangeSpec := { name := "schemaRoom", fn := fun _ => fun
  | [d] => { results := [.lit (.bool true)], args := [d] }
  | _ => none }
def schemaRoomRow : OpenClaim := { program := "ytiafnckmlklodaa", sum := "76e783ccc804cb424c5beaeac90f7e6e334091b1ed87d7ff1aa7e60d815ad875", func := "drydock/drydocklaw04.SchemaRoom", spec := "schemaRoom", unfollowed := true, recurses := true, apart := false }
def SchemaRoomSaid : Prop := schemaRoomRow.holds Try.pinned (OpenSpec.ofChange schemaRoomSpec)

/-- ITS FALSE NEIGHBOUR: 'it returns false'. Refute it at one input. -/
def schemaRoomWrong : ChangeSpec := { name := "schemaRoom", fn := fun _ => fun
  | [d] => { results := [.lit (.bool false)], args := [d] }
  | _ => none }
def SchemaRoomWrongFalsely : Prop := schemaRoomRow.holds Try.pinned (OpenSpec.ofChange schemaRoomWrong)

/-- 'drydocklaw04.SchemaLists': WHATEVER THE INPUT: true; the input reads as it did. -/
def schemaListsSpec : ChangeSpec := { name := "schemaLists", fn := fun _ => fun
  | [d1, d2] => { results := [.lit (.bool true)], args := [d1, d2] }
  | _ => none }
def schemaListsRow : OpenClaim := { program := "ytiafnckmlklodaa", sum := "76e783ccc804cb424c5beaeac90f7e6e334091b1ed87d7ff1aa7e60d815ad875", func := "drydock/drydocklaw04.SchemaLists", spec := "schemaLists", unfollowed := true, recurses := true, apart := false }
def SchemaListsSaid : Prop := schemaListsRow.holds Try.pinned (OpenSpec.ofChange schemaListsSpec)

/-- ITS FALSE NEIGHBOUR: 'it returns false'. Refute it at one input. -/
def schemaListsWrong : ChangeSpec := { name := "schemaLists", fn := fun _ => fun
  | [d1, d2] => { results := [.lit (.bool false)], args := [d1, d2] }
  | _ => none }
def SchemaListsWrongFalsely : Prop := schemaListsRow.holds Try.pinned (OpenSpec.ofChange schemaListsWrong)

/-- 'drydocklaw04.SchemaTells': WHATEVER THE INPUT: true; the input reads as it did. -/
def schemaTellsSpec : ChangeSpec := { name := "schemaTells", fn := fun _ => fun
  | [d1, d2, d3, d4] => { results := [.lit (.bool true)], args := [d1, d2, d3, d4] }
  | _ => none }
def schemaTellsRow : OpenClaim := { program := "ytiafnckmlklodaa", sum := "76e783ccc804cb424c5beaeac90f7e6e334091b1ed87d7ff1aa7e60d815ad875", func := "drydock/drydocklaw04.SchemaTells", spec := "schemaTells", unfollowed := true, recurses := true, apart := false }
def SchemaTellsSaid : Prop := schemaTellsRow.holds Try.pinned (OpenSpec.ofChange schemaTellsSpec)

/-- ITS FALSE NEIGHBOUR: 'it returns false'. Refute it at one input. -/
def schemaTellsWrong : ChangeSpec := { name := "schemaTells", fn := fun _ => fun
  | [d1, d2, d3, d4] => { results := [.lit (.bool false)], args := [d1, d2, d3, d4] }
  | _ => none }
def SchemaTellsWrongFalsely : Prop := schemaTellsRow.holds Try.pinned (OpenSpec.ofChange schemaTellsWrong)

/-- 'drydocklaw04.SchemaSteps': WHATEVER THE INPUT: true; the input reads as it did. -/
def schemaStepsSpec : ChangeSpec := { name := "schemaSteps", fn := fun _ => fun
  | [d1, d2] => { results := [.lit (.bool true)], args := [d1, d2] }
  | _ => none }
def schemaStepsRow : OpenClaim := { program := "ytiafnckmlklodaa", sum := "76e783ccc804cb424c5beaeac90f7e6e334091b1ed87d7ff1aa7e60d815ad875", func := "drydock/drydocklaw04.SchemaSteps", spec := "schemaSteps", unfollowed := true, recurses := true, apart := false }
def SchemaStepsSaid : Prop := schemaStepsRow.holds Try.pinned (OpenSpec.ofChange schemaStepsSpec)

/-- ITS FALSE NEIGHBOUR: 'it returns false'. Refute it at one input. -/
def schemaStepsWrong : ChangeSpec := { name := "schemaSteps", fn := fun _ => fun
  | [d1, d2] => { results := [.lit (.bool false)], args := [d1, d2] }
  | _ => none }
def SchemaStepsWrongFalsely : Prop := schemaStepsRow.holds Try.pinned (OpenSpec.ofChange schemaStepsWrong)

/-- 'drydocklaw04.SchemaChain': WHATEVER THE INPUT: true; the input reads as it did. -/
def schemaChainSpec : ChangeSpec := { name := "schemaChain", fn := fun _ => fun
  | [d1, d2, d3] => { results := [.lit (.bool true)], args := [d1, d2, d3] }
  | _ => none }
def schemaChainRow : OpenClaim := { program := "ytiafnckmlklodaa", sum := "76e783ccc804cb424c5beaeac90f7e6e334091b1ed87d7ff1aa7e60d815ad875", func := "drydock/drydocklaw04.SchemaChain", spec := "schemaChain", unfollowed := true, recurses := true, apart := false }
def SchemaChainSaid : Prop := schemaChainRow.holds Try.pinned (OpenSpec.ofChange schemaChainSpec)

/-- ITS FALSE NEIGHBOUR: 'it returns false'. Refute it at one input. -/
def schemaChainWrong : ChangeSpec := { name := "schemaChain", fn := fun _ => fun
  | [d1, d2, d3] => { results := [.lit (.bool false)], args := [d1, d2, d3] }
  | _ => none }
def SchemaChainWrongFalsely : Prop := schemaChainRow.holds Try.pinned (OpenSpec.ofChange schemaChainWrong)

/- THE SECOND FORM. 'bulk': how many values and letters a reading holds, each counted each time it is reached (what is shared counts as often as it is met; a slice's spare places count too). A statement '..UptoSaid' is the law's where the arguments, and the package variables that the reading takes, are together of bulk at most 1048576: NARROWER than '..Said'. Prove '..Said' where nothing that the law and all that it calls make is longer than what came in: it says more and counts as full. Else prove '..UptoSaid'. A law counts once. -/
mutual
def uptoBulk {H : Type} : DataW H → Nat
  | .lit (.string bytes) => bytes.length + 1
  | .lit _ => 1
  | .nil => 1
  | .ptr d => uptoBulk d + 1
  | .slice elems spare => uptoBulkAll elems + uptoBulkAll spare + 1
  | .agg parts => uptoBulkAll parts + 1
  | .iface _ d => uptoBulk d + 1
  | .map entries => uptoBulkEntries entries + 1
  | .held _ => 1
def uptoBulkAll {H : Type} : List (DataW H) → Nat
  | [] => 0
  | d :: r => uptoBulk d + uptoBulkAll r
def uptoBulkEntries {H : Type} : List (Lit × DataW H) → Nat
  | [] => 0
  | x :: r => uptoBulkEntry x + uptoBulkEntries r
def uptoBulkEntry {H : Type} : Lit × DataW H → Nat
  | (.string bytes, d) => bytes.length + uptoBulk d + 1
  | (_, d) => uptoBulk d + 1
 end
def uptoSmall : (H : Type) → List (DataW H) → Bool := fun _ ds => decide (uptoBulkAll ds ≤ 1048576)
def OpenSpec.upto (s : _root_.Go.ChangeSpec) : _root_.Go.OpenSpec := { _root_.Go.OpenSpec.ofChange s with cond := some uptoSmall }

/-- 'drydocklaw04.SchemaBack', WHERE WHAT IT READS IS OF BULK AT MOST 1048576: true; the input reads as it did. -/
def schemaBackUptoRow : OpenClaim := { program := "ytiafnckmlklodaa", sum := "76e783ccc804cb424c5beaeac90f7e6e334091b1ed87d7ff1aa7e60d815ad875", func := "drydock/drydocklaw04.SchemaBack", spec := "schemaBack", unfollowed := true, recurses := true, apart := false, narrowed := true }
def SchemaBackUptoSaid : Prop := schemaBackUptoRow.holds Try.pinned (OpenSpec.upto schemaBackSpec)

/-- 'drydocklaw04.SchemaRoom', WHERE WHAT IT READS IS OF BULK AT MOST 1048576: true; the input reads as it did. -/
def schemaRoomUptoRow : OpenClaim := { program := "ytiafnckmlklodaa", sum := "76e783ccc804cb424c5beaeac90f7e6e334091b1ed87d7ff1aa7e60d815ad875", func := "drydock/drydocklaw04.SchemaRoom", spec := "schemaRoom", unfollowed := true, recurses := true, apart := false, narrowed := true }
def SchemaRoomUptoSaid : Prop := schemaRoomUptoRow.holds Try.pinned (OpenSpec.upto schemaRoomSpec)

/-- 'drydocklaw04.SchemaLists', WHERE WHAT IT READS IS OF BULK AT MOST 1048576: true; the input reads as it did. -/
def schemaListsUptoRow : OpenClaim := { program := "ytiafnckmlklodaa", sum := "76e783ccc804cb424c5beaeac90f7e6e334091b1ed87d7ff1aa7e60d815ad875", func := "drydock/drydocklaw04.SchemaLists", spec := "schemaLists", unfollowed := true, recurses := true, apart := false, narrowed := true }
def SchemaListsUptoSaid : Prop := schemaListsUptoRow.holds Try.pinned (OpenSpec.upto schemaListsSpec)

/-- 'drydocklaw04.SchemaTells', WHERE WHAT IT READS IS OF BULK AT MOST 1048576: true; the input reads as it did. -/
def schemaTellsUptoRow : OpenClaim := { program := "ytiafnckmlklodaa", sum := "76e783ccc804cb424c5beaeac90f7e6e334091b1ed87d7ff1aa7e60d815ad875", func := "drydock/drydocklaw04.SchemaTells", spec := "schemaTells", unfollowed := true, recurses := true, apart := false, narrowed := true }
def SchemaTellsUptoSaid : Prop := schemaTellsUptoRow.holds Try.pinned (OpenSpec.upto schemaTellsSpec)

/-- 'drydocklaw04.SchemaSteps', WHERE WHAT IT READS IS OF BULK AT MOST 1048576: true; the input reads as it did. -/
def schemaStepsUptoRow : OpenClaim := { program := "ytiafnckmlklodaa", sum := "76e783ccc804cb424c5beaeac90f7e6e334091b1ed87d7ff1aa7e60d815ad875", func := "drydock/drydocklaw04.SchemaSteps", spec := "schemaSteps", unfollowed := true, recurses := true, apart := false, narrowed := true }
def SchemaStepsUptoSaid : Prop := schemaStepsUptoRow.holds Try.pinned (OpenSpec.upto schemaStepsSpec)

/-- 'drydocklaw04.SchemaChain', WHERE WHAT IT READS IS OF BULK AT MOST 1048576: true; the input reads as it did. -/
def schemaChainUptoRow : OpenClaim := { program := "ytiafnckmlklodaa", sum := "76e783ccc804cb424c5beaeac90f7e6e334091b1ed87d7ff1aa7e60d815ad875", func := "drydock/drydocklaw04.SchemaChain", spec := "schemaChain", unfollowed := true, recurses := true, apart := false, narrowed := true }
def SchemaChainUptoSaid : Prop := schemaChainUptoRow.holds Try.pinned (OpenSpec.upto schemaChainSpec)

end Rows
end Go.Proofs.Ytiafnckmlklodaa
