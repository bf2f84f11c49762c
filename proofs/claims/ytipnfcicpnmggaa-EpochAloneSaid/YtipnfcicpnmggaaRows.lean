/-
  No cell of these rows narrows 'for every input' (looked for: loops, veiled, ifaces, maps, wideKeys, modest, calm, conditions, laid).
  DERIVED. THE GIVEN ROWS OF THIS SEAT. 6 by the template 'for every input the law returns true; each argument reads behind the call as it read before'; 0 by the template 'total and deterministic' (their statements: YtipnfcicpnmggaaTotals.lean).
  GIVEN WITH THE SEED: the statements are not yours to turn. If you find one false, say at which input.
  Laid BY PROGRAM, IN A SANDBOX (cutbox-rows.mjs): the forced cells as the released guide's own fill.sh prints them over the translation 8fa8627efd6f8a77… (all of the seat's roots in one cut). By AI agents, Wed Nov 11 2026. No macro, syntax, notation, axiom, sorry.
-/
import Derived.Test.YtipnfcicpnmggaaChecked
import GoSem.Claim
import GoSem.ClaimJoined
import GoSem.ClaimMapViews
import Derived.JoinedTies
import Derived.KernelRfl
namespace Go.Proofs.Ytipnfcicpnmggaa
/- THE CELL 'sum', in the pinned program and in every row, IS THE sha256 OF THE DUMP (.gsa) THAT YtipnfcicpnmggaaProg.lean LOADS. Nothing in Lean hashes anything: it is a label: what it is worth is what the hold of that sum in a sandbox is worth. -/
noncomputable def Try.pinned : Pinned := { name := "ytipnfcicpnmggaa", sum := "8fa8627efd6f8a7759201aa52f459034e044565d5fc0019bacc1a566512d3c3f", checked := Try.checked }
namespace Rows
def none {H : Type} : Left H := { results := [], args := [] }

/-- 'drydocklaw17.EpochTells': WHATEVER THE INPUT: true; the input reads as it did. -/
def epochTellsSpec : ChangeSpec := { name := "epochTells", fn := fun _ => fun
  | [d1, d2, d3] => { results := [.lit (.bool true)], args := [d1, d2, d3] }
  | _ => none }
def epochTellsRow : OpenClaim := { program := "ytipnfcicpnmggaa", sum := "8fa8627efd6f8a7759201aa52f459034e044565d5fc0019bacc1a566512d3c3f", func := "drydock/drydocklaw17.EpochTells", spec := "epochTells", unfollowed := true, recurses := true, apart := false }
def EpochTellsSaid : Prop := epochTellsRow.holds Try.pinned (OpenSpec.ofChange epochTellsSpec)

/-- ITS FALSE NEIGHBOUR: 'it returns false'. Refute it at one input. -/
def epochTellsWrong : ChangeSpec := { name := "epochTells", fn := fun _ => fun
  | [d1, d2, d3] => { results := [.lit (.bool false)], args := [d1, d2, d3] }
  | _ => none }
def EpochTellsWrongFalsely : Prop := epochTellsRow.holds Try.pinned (OpenSpec.ofChange epochTellsWrong)

/-- 'drydocklaw17.EpochWaits': WHATEVER THE INPUT: true; the input reads as it did. -/
def epochWaitsSpec : ChangeSpec := { name := "epochWaits", fn := fun _ => fun
  | [d1, d2, d3] => { results := [.lit (.bool true)], args := [d1, d2, d3] }
  | _ => none }
def epochWaitsRow : OpenClaim := { program := "ytipnfcicpnmggaa", sum := "8fa8627efd6f8a7759201aa52f459034e044565d5fc0019bacc1a566512d3c3f", func := "drydock/drydocklaw17.EpochWaits", spec := "epochWaits", unfollowed := true, recurses := true, apart := false }
def EpochWaitsSaid : Prop := epochWaitsRow.holds Try.pinned (OpenSpec.ofChange epochWaitsSpec)

/-- ITS FALSE NEIGHBOUR: 'it returns false'. Refute it at one input. -/
def epochWaitsWrong : ChangeSpec := { name := "epochWaits", fn := fun _ => fun
  | [d1, d2, d3] => { results := [.lit (.bool false)], args := [d1, d2, d3] }
  | _ => none }
def EpochWaitsWrongFalsely : Prop := epochWaitsRow.holds Try.pinned (OpenSpec.ofChange epochWaitsWrong)

/-- 'drydocklaw17.EpochKeeps': WHATEVER THE INPUT: true; the input reads as it did. -/
def epochKeepsSpec : ChangeSpec := { name := "epochKeeps", fn := fun _ => fun
  | [d] => { results := [.lit (.bool true)], args := [d] }
  | _ => none }
def epochKeepsRow : OpenClaim := { program := "ytipnfcicpnmggaa", sum := "8fa8627efd6f8a7759201aa52f459034e044565d5fc0019bacc1a566512d3c3f", func := "drydock/drydocklaw17.EpochKeeps", spec := "epochKeeps", unfollowed := true, recurses := true, apart := false }
def EpochKeepsSaid : Prop := epochKeepsRow.holds Try.pinned (OpenSpec.ofChange epochKeepsSpec)

/-- ITS FALSE NEIGHBOUR: 'it returns false'. Refute it at one input. -/
def epochKeepsWrong : ChangeSpec := { name := "epochKeeps", fn := fun _ => fun
  | [d] => { results := [.lit (.bool false)], args := [d] }
  | _ => none }
def EpochKeepsWrongFalsely : Prop := epochKeepsRow.holds Try.pinned (OpenSpec.ofChange epochKeepsWrong)

/-- 'drydocklaw17.EpochClears': WHATEVER THE INPUT: true; the input reads as it did. -/
def epochClearsSpec : ChangeSpec := { name := "epochClears", fn := fun _ => fun
  | [d] => { results := [.lit (.bool true)], args := [d] }
  | _ => none }
def epochClearsRow : OpenClaim := { program := "ytipnfcicpnmggaa", sum := "8fa8627efd6f8a7759201aa52f459034e044565d5fc0019bacc1a566512d3c3f", func := "drydock/drydocklaw17.EpochClears", spec := "epochClears", unfollowed := true, recurses := true, apart := false }
def EpochClearsSaid : Prop := epochClearsRow.holds Try.pinned (OpenSpec.ofChange epochClearsSpec)

/-- ITS FALSE NEIGHBOUR: 'it returns false'. Refute it at one input. -/
def epochClearsWrong : ChangeSpec := { name := "epochClears", fn := fun _ => fun
  | [d] => { results := [.lit (.bool false)], args := [d] }
  | _ => none }
def EpochClearsWrongFalsely : Prop := epochClearsRow.holds Try.pinned (OpenSpec.ofChange epochClearsWrong)

/-- 'drydocklaw17.EpochAlone': WHATEVER THE INPUT: true; the input reads as it did. -/
def epochAloneSpec : ChangeSpec := { name := "epochAlone", fn := fun _ => fun
  | [d1, d2] => { results := [.lit (.bool true)], args := [d1, d2] }
  | _ => none }
def epochAloneRow : OpenClaim := { program := "ytipnfcicpnmggaa", sum := "8fa8627efd6f8a7759201aa52f459034e044565d5fc0019bacc1a566512d3c3f", func := "drydock/drydocklaw17.EpochAlone", spec := "epochAlone", unfollowed := true, recurses := true, apart := false }
def EpochAloneSaid : Prop := epochAloneRow.holds Try.pinned (OpenSpec.ofChange epochAloneSpec)

/-- ITS FALSE NEIGHBOUR: 'it returns false'. Refute it at one input. -/
def epochAloneWrong : ChangeSpec := { name := "epochAlone", fn := fun _ => fun
  | [d1, d2] => { results := [.lit (.bool false)], args := [d1, d2] }
  | _ => none }
def EpochAloneWrongFalsely : Prop := epochAloneRow.holds Try.pinned (OpenSpec.ofChange epochAloneWrong)

/-- 'drydocklaw17.EpochOnce': WHATEVER THE INPUT: true; the input reads as it did. -/
def epochOnceSpec : ChangeSpec := { name := "epochOnce", fn := fun _ => fun
  | [d1, d2, d3] => { results := [.lit (.bool true)], args := [d1, d2, d3] }
  | _ => none }
def epochOnceRow : OpenClaim := { program := "ytipnfcicpnmggaa", sum := "8fa8627efd6f8a7759201aa52f459034e044565d5fc0019bacc1a566512d3c3f", func := "drydock/drydocklaw17.EpochOnce", spec := "epochOnce", unfollowed := true, recurses := true, apart := false }
def EpochOnceSaid : Prop := epochOnceRow.holds Try.pinned (OpenSpec.ofChange epochOnceSpec)

/-- ITS FALSE NEIGHBOUR: 'it returns false'. Refute it at one input. -/
def epochOnceWrong : ChangeSpec := { name := "epochOnce", fn := fun _ => fun
  | [d1, d2, d3] => { results := [.lit (.bool false)], args := [d1, d2, d3] }
  | _ => none }
def EpochOnceWrongFalsely : Prop := epochOnceRow.holds Try.pinned (OpenSpec.ofChange epochOnceWrong)

/- THE SECOND FORM. 'bulk': how many values and letters a reading holds, each counted each time it is reached (what is shared counts as often as it is met; a slice's spare places count too). A statement '..UptoSaid' is the law's where the arguments, and the package variables that the reading takes, are together of bulk at most 1048576: NARROWER than '..Said'. Prove '..Said' where nothing that the law and all that it calls make is longer than what came in: it says more and counts as full. Else prove '..UptoSaid'. A law counts once. -/
mutual
def uptoBulk {H : Type} : DataW H → Nat
  | .lit (.string bytes) => bytes.length + 1
  | .lit _ => 1
  | .nil => 1
  | .ptr d => uptoBulk d + 1
  | .slice elems spare => uptoBulkAll elems + uptoBulkAll spare + 1
  | .agg parts => uptoBulkAll parts + 1
  | .iface _ d => uptoBulk d + 1
  | .map entries => uptoBulkEntries entries + 1
  | .held _ => 1
def uptoBulkAll {H : Type} : List (DataW H) → Nat
  | [] => 0
  | d :: r => uptoBulk d + uptoBulkAll r
def uptoBulkEntries {H : Type} : List (Lit × DataW H) → Nat
  | [] => 0
  | x :: r => uptoBulkEntry x + uptoBulkEntries r
def uptoBulkEntry {H : Type} : Lit × DataW H → Nat
  | (.string bytes, d) => bytes.length + uptoBulk d + 1
  | (_, d) => uptoBulk d + 1
 end
def uptoSmall : (H : Type) → List (DataW H) → Bool := fun _ ds => decide (uptoBulkAll ds ≤ 1048576)
def OpenSpec.upto (s : _root_.Go.ChangeSpec) : _root_.Go.OpenSpec := { _root_.Go.OpenSpec.ofChange s with cond := some uptoSmall }

/-- 'drydocklaw17.EpochTells', WHERE WHAT IT READS IS OF BULK AT MOST 1048576: true; the input reads as it did. -/
def epochTellsUptoRow : OpenClaim := { program := "ytipnfcicpnmggaa", sum := "8fa8627efd6f8a7759201aa52f459034e044565d5fc0019bacc1a566512d3c3f", func := "drydock/drydocklaw17.EpochTells", spec := "epochTells", unfollowed := true, recurses := true, apart := false, narrowed := true }
def EpochTellsUptoSaid : Prop := epochTellsUptoRow.holds Try.pinned (OpenSpec.upto epochTellsSpec)

/-- 'drydocklaw17.EpochWaits', WHERE WHAT IT READS IS OF BULK AT MOST 1048576: true; the input reads as it did. -/
def epochWaitsUptoRow : OpenClaim := { program := "ytipnfcicpnmggaa", sum := "8fa8627efd6f8a7759201aa52f459034e044565d5fc0019bacc1a566512d3c3f", func := "drydock/drydocklaw17.EpochWaits", spec := "epochWaits", unfollowed := true, recurses := true, apart := false, narrowed := true }
def EpochWaitsUptoSaid : Prop := epochWaitsUptoRow.holds Try.pinned (OpenSpec.upto epochWaitsSpec)

/-- 'drydocklaw17.EpochKeeps', WHERE WHAT IT READS IS OF BULK AT MOST 1048576: true; the input reads as it did. -/
def epochKeepsUptoRow : OpenClaim := { program := "ytipnfcicpnmggaa", sum := "8fa8627efd6f8a7759201aa52f459034e044565d5fc0019bacc1a566512d3c3f", func := "drydock/drydocklaw17.EpochKeeps", spec := "epochKeeps", unfollowed := true, recurses := true, apart := false, narrowed := true }
def EpochKeepsUptoSaid : Prop := epochKeepsUptoRow.holds Try.pinned (OpenSpec.upto epochKeepsSpec)

/-- 'drydocklaw17.EpochClears', WHERE WHAT IT READS IS OF BULK AT MOST 1048576: true; the input reads as it did. -/
def epochClearsUptoRow : OpenClaim := { program := "ytipnfcicpnmggaa", sum := "8fa8627efd6f8a7759201aa52f459034e044565d5fc0019bacc1a566512d3c3f", func := "drydock/drydocklaw17.EpochClears", spec := "epochClears", unfollowed := true, recurses := true, apart := false, narrowed := true }
def EpochClearsUptoSaid : Prop := epochClearsUptoRow.holds Try.pinned (OpenSpec.upto epochClearsSpec)

/-- 'drydocklaw17.EpochAlone', WHERE WHAT IT READS IS OF BULK AT MOST 1048576: true; the input reads as it did. -/
def epochAloneUptoRow : OpenClaim := { program := "ytipnfcicpnmggaa", sum := "8fa8627efd6f8a7759201aa52f459034e044565d5fc0019bacc1a566512d3c3f", func := "drydock/drydocklaw17.EpochAlone", spec := "epochAlone", unfollowed := true, recurses := true, apart := false, narrowed := true }
def EpochAloneUptoSaid : Prop := epochAloneUptoRow.holds Try.pinned (OpenSpec.upto epochAloneSpec)

/-- 'drydocklaw17.EpochOnce', WHERE WHAT IT READS IS OF BULK AT MOST 1048576: true; the input reads as it did. -/
def epochOnceUptoRow : OpenClaim := { program := "ytipnfcicpnmggaa", sum := "8fa8627efd6f8a7759201aa52f459034e044565d5fc0019bacc1a566512d3c3f", func := "drydock/drydocklaw17.EpochOnce", spec := "epochOnce", unfollowed := true, recurses := true, apart := false, narrowed := true }
def EpochOnceUptoSaid : Prop := epochOnceUptoRow.holds Try.pinned (OpenSpec.upto epochOnceSpec)

end Rows
end Go.Proofs.Ytipnfcicpnmggaa
