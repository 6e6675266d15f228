/-
  No cell of these rows narrows 'for every input' (looked for: loops, veiled, ifaces, maps, wideKeys, modest, calm, conditions, laid).
  DERIVED. THE GIVEN ROWS OF THIS SEAT. 6 by the template 'for every input the law returns true; each argument reads behind the call as it read before'; 0 by the template 'total and deterministic' (their statements: YtibahgondccdiaaTotals.lean).
  GIVEN WITH THE SEED: the statements are not yours to turn. If you find one false, say at which input.
  Laid BY PROGRAM, IN A SANDBOX (cutbox-rows.mjs): the forced cells as the released guide's own fill.sh prints them over the translation 13789139ffd0a292… (all of the seat's roots in one cut). By AI agents, Wed Nov 11 2026. No macro, syntax, notation, axiom, sorry.
-/
import Derived.Test.YtibahgondccdiaaChecked
import GoSem.Claim
import GoSem.ClaimJoined
import GoSem.ClaimMapViews
import Derived.JoinedTies
import Derived.KernelRfl
namespace Go.Proofs.Ytibahgondccdiaa
/- THE CELL 'sum', in the pinned program and in every row, IS THE sha256 OF THE DUMP (.gsa) THAT YtibahgondccdiaaProg.lean LOADS. Nothing in Lean hashes anything: it is a label: what it is worth is what the hold of that sum in a sandbox is worth. -/
noncomputable def Try.pinned : Pinned := { name := "ytibahgondccdiaa", sum := "13789139ffd0a292603995b44398d6cba97e2570740416b891fc517453fdff5f", checked := Try.checked }
namespace Rows
def none {H : Type} : Left H := { results := [], args := [] }

/-- 'cartagelaw16.ManifestTells': WHATEVER THE INPUT: true; the input reads as it did. -/
def manifestTellsSpec : ChangeSpec := { name := "manifestTells", fn := fun _ => fun
  | [d] => { results := [.lit (.bool true)], args := [d] }
  | _ => none }
def manifestTellsRow : OpenClaim := { program := "ytibahgondccdiaa", sum := "13789139ffd0a292603995b44398d6cba97e2570740416b891fc517453fdff5f", func := "cartage/cartagelaw16.ManifestTells", spec := "manifestTells", unfollowed := true, recurses := true, apart := false }
def ManifestTellsSaid : Prop := manifestTellsRow.holds Try.pinned (OpenSpec.ofChange manifestTellsSpec)

/-- ITS FALSE NEIGHBOUR: 'it returns false'. Refute it at one input. -/
def manifestTellsWrong : ChangeSpec := { name := "manifestTells", fn := fun _ => fun
  | [d] => { results := [.lit (.bool false)], args := [d] }
  | _ => none }
def ManifestTellsWrongFalsely : Prop := manifestTellsRow.holds Try.pinned (OpenSpec.ofChange manifestTellsWrong)

/-- 'cartagelaw16.ManifestReads': WHATEVER THE INPUT: true; the input reads as it did. -/
def manifestReadsSpec : ChangeSpec := { name := "manifestReads", fn := fun _ => fun
  | [d] => { results := [.lit (.bool true)], args := [d] }
  | _ => none }
def manifestReadsRow : OpenClaim := { program := "ytibahgondccdiaa", sum := "13789139ffd0a292603995b44398d6cba97e2570740416b891fc517453fdff5f", func := "cartage/cartagelaw16.ManifestReads", spec := "manifestReads", unfollowed := true, recurses := true, apart := false }
def ManifestReadsSaid : Prop := manifestReadsRow.holds Try.pinned (OpenSpec.ofChange manifestReadsSpec)

/-- ITS FALSE NEIGHBOUR: 'it returns false'. Refute it at one input. -/
def manifestReadsWrong : ChangeSpec := { name := "manifestReads", fn := fun _ => fun
  | [d] => { results := [.lit (.bool false)], args := [d] }
  | _ => none }
def ManifestReadsWrongFalsely : Prop := manifestReadsRow.holds Try.pinned (OpenSpec.ofChange manifestReadsWrong)

/-- 'cartagelaw16.ManifestChooses': WHATEVER THE INPUT: true; the input reads as it did. -/
def manifestChoosesSpec : ChangeSpec := { name := "manifestChooses", fn := fun _ => fun
  | [d1, d2] => { results := [.lit (.bool true)], args := [d1, d2] }
  | _ => none }
def manifestChoosesRow : OpenClaim := { program := "ytibahgondccdiaa", sum := "13789139ffd0a292603995b44398d6cba97e2570740416b891fc517453fdff5f", func := "cartage/cartagelaw16.ManifestChooses", spec := "manifestChooses", unfollowed := true, recurses := true, apart := false }
def ManifestChoosesSaid : Prop := manifestChoosesRow.holds Try.pinned (OpenSpec.ofChange manifestChoosesSpec)

/-- ITS FALSE NEIGHBOUR: 'it returns false'. Refute it at one input. -/
def manifestChoosesWrong : ChangeSpec := { name := "manifestChooses", fn := fun _ => fun
  | [d1, d2] => { results := [.lit (.bool false)], args := [d1, d2] }
  | _ => none }
def ManifestChoosesWrongFalsely : Prop := manifestChoosesRow.holds Try.pinned (OpenSpec.ofChange manifestChoosesWrong)

/-- 'cartagelaw16.ManifestNewer': WHATEVER THE INPUT: true; the input reads as it did. -/
def manifestNewerSpec : ChangeSpec := { name := "manifestNewer", fn := fun _ => fun
  | [d1, d2, d3] => { results := [.lit (.bool true)], args := [d1, d2, d3] }
  | _ => none }
def manifestNewerRow : OpenClaim := { program := "ytibahgondccdiaa", sum := "13789139ffd0a292603995b44398d6cba97e2570740416b891fc517453fdff5f", func := "cartage/cartagelaw16.ManifestNewer", spec := "manifestNewer", unfollowed := true, recurses := true, apart := false }
def ManifestNewerSaid : Prop := manifestNewerRow.holds Try.pinned (OpenSpec.ofChange manifestNewerSpec)

/-- ITS FALSE NEIGHBOUR: 'it returns false'. Refute it at one input. -/
def manifestNewerWrong : ChangeSpec := { name := "manifestNewer", fn := fun _ => fun
  | [d1, d2, d3] => { results := [.lit (.bool false)], args := [d1, d2, d3] }
  | _ => none }
def ManifestNewerWrongFalsely : Prop := manifestNewerRow.holds Try.pinned (OpenSpec.ofChange manifestNewerWrong)

/-- 'cartagelaw16.ManifestSteps': WHATEVER THE INPUT: true; the input reads as it did. -/
def manifestStepsSpec : ChangeSpec := { name := "manifestSteps", fn := fun _ => fun
  | [d1, d2, d3, d4] => { results := [.lit (.bool true)], args := [d1, d2, d3, d4] }
  | _ => none }
def manifestStepsRow : OpenClaim := { program := "ytibahgondccdiaa", sum := "13789139ffd0a292603995b44398d6cba97e2570740416b891fc517453fdff5f", func := "cartage/cartagelaw16.ManifestSteps", spec := "manifestSteps", unfollowed := true, recurses := true, apart := false }
def ManifestStepsSaid : Prop := manifestStepsRow.holds Try.pinned (OpenSpec.ofChange manifestStepsSpec)

/-- ITS FALSE NEIGHBOUR: 'it returns false'. Refute it at one input. -/
def manifestStepsWrong : ChangeSpec := { name := "manifestSteps", fn := fun _ => fun
  | [d1, d2, d3, d4] => { results := [.lit (.bool false)], args := [d1, d2, d3, d4] }
  | _ => none }
def ManifestStepsWrongFalsely : Prop := manifestStepsRow.holds Try.pinned (OpenSpec.ofChange manifestStepsWrong)

/-- 'cartagelaw16.ManifestUnlike': WHATEVER THE INPUT: true; the input reads as it did. -/
def manifestUnlikeSpec : ChangeSpec := { name := "manifestUnlike", fn := fun _ => fun
  | [d1, d2, d3] => { results := [.lit (.bool true)], args := [d1, d2, d3] }
  | _ => none }
def manifestUnlikeRow : OpenClaim := { program := "ytibahgondccdiaa", sum := "13789139ffd0a292603995b44398d6cba97e2570740416b891fc517453fdff5f", func := "cartage/cartagelaw16.ManifestUnlike", spec := "manifestUnlike", unfollowed := true, recurses := true, apart := false }
def ManifestUnlikeSaid : Prop := manifestUnlikeRow.holds Try.pinned (OpenSpec.ofChange manifestUnlikeSpec)

/-- ITS FALSE NEIGHBOUR: 'it returns false'. Refute it at one input. -/
def manifestUnlikeWrong : ChangeSpec := { name := "manifestUnlike", fn := fun _ => fun
  | [d1, d2, d3] => { results := [.lit (.bool false)], args := [d1, d2, d3] }
  | _ => none }
def ManifestUnlikeWrongFalsely : Prop := manifestUnlikeRow.holds Try.pinned (OpenSpec.ofChange manifestUnlikeWrong)

/- THE SECOND FORM. 'bulk': how many values and letters a reading holds, each counted each time it is reached (what is shared counts as often as it is met; a slice's spare places count too). A statement '..UptoSaid' is the law's where the arguments, and the package variables that the reading takes, are together of bulk at most 1048576: NARROWER than '..Said'. Prove '..Said' where nothing that the law and all that it calls make is longer than what came in: it says more and counts as full. Else prove '..UptoSaid'. A law counts once. -/
mutual
def uptoBulk {H : Type} : DataW H → Nat
  | .lit (.string bytes) => bytes.length + 1
  | .lit _ => 1
  | .nil => 1
  | .ptr d => uptoBulk d + 1
  | .slice elems spare => uptoBulkAll elems + uptoBulkAll spare + 1
  | .agg parts => uptoBulkAll parts + 1
  | .iface _ d => uptoBulk d + 1
  | .map entries => uptoBulkEntries entries + 1
  | .held _ => 1
def uptoBulkAll {H : Type} : List (DataW H) → Nat
  | [] => 0
  | d :: r => uptoBulk d + uptoBulkAll r
def uptoBulkEntries {H : Type} : List (Lit × DataW H) → Nat
  | [] => 0
  | x :: r => uptoBulkEntry x + uptoBulkEntries r
def uptoBulkEntry {H : Type} : Lit × DataW H → Nat
  | (.string bytes, d) => bytes.length + uptoBulk d + 1
  | (_, d) => uptoBulk d + 1
 end
def uptoSmall : (H : Type) → List (DataW H) → Bool := fun _ ds => decide (uptoBulkAll ds ≤ 1048576)
def OpenSpec.upto (s : _root_.Go.ChangeSpec) : _root_.Go.OpenSpec := { _root_.Go.OpenSpec.ofChange s with cond := some uptoSmall }

/-- 'cartagelaw16.ManifestTells', WHERE WHAT IT READS IS OF BULK AT MOST 1048576: true; the input reads as it did. -/
def manifestTellsUptoRow : OpenClaim := { program := "ytibahgondccdiaa", sum := "13789139ffd0a292603995b44398d6cba97e2570740416b891fc517453fdff5f", func := "cartage/cartagelaw16.ManifestTells", spec := "manifestTells", unfollowed := true, recurses := true, apart := false, narrowed := true }
def ManifestTellsUptoSaid : Prop := manifestTellsUptoRow.holds Try.pinned (OpenSpec.upto manifestTellsSpec)

/-- 'cartagelaw16.ManifestReads', WHERE WHAT IT READS IS OF BULK AT MOST 1048576: true; the input reads as it did. -/
def manifestReadsUptoRow : OpenClaim := { program := "ytibahgondccdiaa", sum := "13789139ffd0a292603995b44398d6cba97e2570740416b891fc517453fdff5f", func := "cartage/cartagelaw16.ManifestReads", spec := "manifestReads", unfollowed := true, recurses := true, apart := false, narrowed := true }
def ManifestReadsUptoSaid : Prop := manifestReadsUptoRow.holds Try.pinned (OpenSpec.upto manifestReadsSpec)

/-- 'cartagelaw16.ManifestChooses', WHERE WHAT IT READS IS OF BULK AT MOST 1048576: true; the input reads as it did. -/
def manifestChoosesUptoRow : OpenClaim := { program := "ytibahgondccdiaa", sum := "13789139ffd0a292603995b44398d6cba97e2570740416b891fc517453fdff5f", func := "cartage/cartagelaw16.ManifestChooses", spec := "manifestChooses", unfollowed := true, recurses := true, apart := false, narrowed := true }
def ManifestChoosesUptoSaid : Prop := manifestChoosesUptoRow.holds Try.pinned (OpenSpec.upto manifestChoosesSpec)

/-- 'cartagelaw16.ManifestNewer', WHERE WHAT IT READS IS OF BULK AT MOST 1048576: true; the input reads as it did. -/
def manifestNewerUptoRow : OpenClaim := { program := "ytibahgondccdiaa", sum := "13789139ffd0a292603995b44398d6cba97e2570740416b891fc517453fdff5f", func := "cartage/cartagelaw16.ManifestNewer", spec := "manifestNewer", unfollowed := true, recurses := true, apart := false, narrowed := true }
def ManifestNewerUptoSaid : Prop := manifestNewerUptoRow.holds Try.pinned (OpenSpec.upto manifestNewerSpec)

/-- 'cartagelaw16.ManifestSteps', WHERE WHAT IT READS IS OF BULK AT MOST 1048576: true; the input reads as it did. -/
def manifestStepsUptoRow : OpenClaim := { program := "ytibahgondccdiaa", sum := "13789139ffd0a292603995b44398d6cba97e2570740416b891fc517453fdff5f", func := "cartage/cartagelaw16.ManifestSteps", spec := "manifestSteps", unfollowed := true, recurses := true, apart := false, narrowed := true }
def ManifestStepsUptoSaid : Prop := manifestStepsUptoRow.holds Try.pinned (OpenSpec.upto manifestStepsSpec)

/-- 'cartagelaw16.ManifestUnlike', WHERE WHAT IT READS IS OF BULK AT MOST 1048576: true; the input reads as it did. -/
def manifestUnlikeUptoRow : OpenClaim := { program := "ytibahgondccdiaa", sum := "13789139ffd0a292603995b44398d6cba97e2570740416b891fc517453fdff5f", func := "cartage/cartagelaw16.ManifestUnlike", spec := "manifestUnlike", unfollowed := true, recurses := true, apart := false, narrowed := true }
def ManifestUnlikeUptoSaid : Prop := manifestUnlikeUptoRow.holds Try.pinned (OpenSpec.upto manifestUnlikeSpec)

end Rows
end Go.Proofs.Ytibahgondccdiaa
