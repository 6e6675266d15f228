/-
  No cell of these rows narrows 'for every input' (looked for: loops, veiled, ifaces, maps, wideKeys, modest, calm, conditions, laid).
  DERIVED. THE GIVEN ROWS OF THIS SEAT. 6 by the template 'for every input the law returns true; each argument reads behind the call as it read before'; 0 by the template 'total and deterministic' (their statements: YtaohmpblmlkioaaTotals.lean).
  GIVEN WITH THE SEED: the statements are not yours to turn. If you find one false, say at which input.
  Laid BY PROGRAM, IN A SANDBOX (cutbox-rows.mjs): the forced cells as the released guide's own fill.sh prints them over the translation 07c99b1a72ca8844… (all of the seat's roots in one cut). By AI agents, Wed Nov 11 2026. No macro, syntax, notation, axiom, sorry.
-/
import Derived.Test.YtaohmpblmlkioaaChecked
import GoSem.Claim
import GoSem.ClaimJoined
import GoSem.ClaimMapViews
import Derived.JoinedTies
import Derived.KernelRfl
namespace Go.Proofs.Ytaohmpblmlkioaa
/- THE CELL 'sum', in the pinned program and in every row, IS THE sha256 OF THE DUMP (.gsa) THAT YtaohmpblmlkioaaProg.lean LOADS. Nothing in Lean hashes anything: it is a label: what it is worth is what the hold of that sum in a sandbox is worth. -/
noncomputable def Try.pinned : Pinned := { name := "ytaohmpblmlkioaa", sum := "07c99b1a72ca88448cd5e15e2c511770e9e5ca0eef9b645e603af653dfd30f92", checked := Try.checked }
namespace Rows
def none {H : Type} : Left H := { results := [], args := [] }

/-- 'cartagelaw15.StateTells': WHATEVER THE INPUT: true; the input reads as it did. -/
def stateTellsSpec : ChangeSpec := { name := "stateTells", fn := fun _ => fun
  | [d1, d2] => { results := [.lit (.bool true)], args := [d1, d2] }
  | _ => none }
def stateTellsRow : OpenClaim := { program := "ytaohmpblmlkioaa", sum := "07c99b1a72ca88448cd5e15e2c511770e9e5ca0eef9b645e603af653dfd30f92", func := "cartage/cartagelaw15.StateTells", spec := "stateTells", unfollowed := true, recurses := true, apart := false }
def StateTellsSaid : Prop := stateTellsRow.holds Try.pinned (OpenSpec.ofChange stateTellsSpec)

/-- ITS FALSE NEIGHBOUR: 'it returns false'. Refute it at one input. -/
def stateTellsWrong : ChangeSpec := { name := "stateTells", fn := fun _ => fun
  | [d1, d2] => { results := [.lit (.bool false)], args := [d1, d2] }
  | _ => none }
def StateTellsWrongFalsely : Prop := stateTellsRow.holds Try.pinned (OpenSpec.ofChange stateTellsWrong)

/-- 'cartagelaw15.StateReads': WHATEVER THE INPUT: true; the input reads as it did. -/
def stateReadsSpec : ChangeSpec := { name := "stateReads", fn := fun _ => fun
  | [d] => { results := [.lit (.bool true)], args := [d] }
  | _ => none }
def stateReadsRow : OpenClaim := { program := "ytaohmpblmlkioaa", sum := "07c99b1a72ca88448cd5e15e2c511770e9e5ca0eef9b645e603af653dfd30f92", func := "cartage/cartagelaw15.StateReads", spec := "stateReads", unfollowed := true, recurses := true, apart := false }
def StateReadsSaid : Prop := stateReadsRow.holds Try.pinned (OpenSpec.ofChange stateReadsSpec)

/-- ITS FALSE NEIGHBOUR: 'it returns false'. Refute it at one input. -/
def stateReadsWrong : ChangeSpec := { name := "stateReads", fn := fun _ => fun
  | [d] => { results := [.lit (.bool false)], args := [d] }
  | _ => none }
def StateReadsWrongFalsely : Prop := stateReadsRow.holds Try.pinned (OpenSpec.ofChange stateReadsWrong)

/-- 'cartagelaw15.StateBack': WHATEVER THE INPUT: true; the input reads as it did. -/
def stateBackSpec : ChangeSpec := { name := "stateBack", fn := fun _ => fun
  | [d1, d2] => { results := [.lit (.bool true)], args := [d1, d2] }
  | _ => none }
def stateBackRow : OpenClaim := { program := "ytaohmpblmlkioaa", sum := "07c99b1a72ca88448cd5e15e2c511770e9e5ca0eef9b645e603af653dfd30f92", func := "cartage/cartagelaw15.StateBack", spec := "stateBack", unfollowed := true, recurses := true, apart := false }
def StateBackSaid : Prop := stateBackRow.holds Try.pinned (OpenSpec.ofChange stateBackSpec)

/-- ITS FALSE NEIGHBOUR: 'it returns false'. Refute it at one input. -/
def stateBackWrong : ChangeSpec := { name := "stateBack", fn := fun _ => fun
  | [d1, d2] => { results := [.lit (.bool false)], args := [d1, d2] }
  | _ => none }
def StateBackWrongFalsely : Prop := stateBackRow.holds Try.pinned (OpenSpec.ofChange stateBackWrong)

/-- 'cartagelaw15.StateSpoilt': WHATEVER THE INPUT: true; the input reads as it did. -/
def stateSpoiltSpec : ChangeSpec := { name := "stateSpoilt", fn := fun _ => fun
  | [d1, d2, d3] => { results := [.lit (.bool true)], args := [d1, d2, d3] }
  | _ => none }
def stateSpoiltRow : OpenClaim := { program := "ytaohmpblmlkioaa", sum := "07c99b1a72ca88448cd5e15e2c511770e9e5ca0eef9b645e603af653dfd30f92", func := "cartage/cartagelaw15.StateSpoilt", spec := "stateSpoilt", unfollowed := true, recurses := true, apart := false }
def StateSpoiltSaid : Prop := stateSpoiltRow.holds Try.pinned (OpenSpec.ofChange stateSpoiltSpec)

/-- ITS FALSE NEIGHBOUR: 'it returns false'. Refute it at one input. -/
def stateSpoiltWrong : ChangeSpec := { name := "stateSpoilt", fn := fun _ => fun
  | [d1, d2, d3] => { results := [.lit (.bool false)], args := [d1, d2, d3] }
  | _ => none }
def StateSpoiltWrongFalsely : Prop := stateSpoiltRow.holds Try.pinned (OpenSpec.ofChange stateSpoiltWrong)

/-- 'cartagelaw15.StateOne': WHATEVER THE INPUT: true; the input reads as it did. -/
def stateOneSpec : ChangeSpec := { name := "stateOne", fn := fun _ => fun
  | [d] => { results := [.lit (.bool true)], args := [d] }
  | _ => none }
def stateOneRow : OpenClaim := { program := "ytaohmpblmlkioaa", sum := "07c99b1a72ca88448cd5e15e2c511770e9e5ca0eef9b645e603af653dfd30f92", func := "cartage/cartagelaw15.StateOne", spec := "stateOne", unfollowed := true, recurses := true, apart := false }
def StateOneSaid : Prop := stateOneRow.holds Try.pinned (OpenSpec.ofChange stateOneSpec)

/-- ITS FALSE NEIGHBOUR: 'it returns false'. Refute it at one input. -/
def stateOneWrong : ChangeSpec := { name := "stateOne", fn := fun _ => fun
  | [d] => { results := [.lit (.bool false)], args := [d] }
  | _ => none }
def StateOneWrongFalsely : Prop := stateOneRow.holds Try.pinned (OpenSpec.ofChange stateOneWrong)

/-- 'cartagelaw15.StateUnlike': WHATEVER THE INPUT: true; the input reads as it did. -/
def stateUnlikeSpec : ChangeSpec := { name := "stateUnlike", fn := fun _ => fun
  | [d1, d2, d3] => { results := [.lit (.bool true)], args := [d1, d2, d3] }
  | _ => none }
def stateUnlikeRow : OpenClaim := { program := "ytaohmpblmlkioaa", sum := "07c99b1a72ca88448cd5e15e2c511770e9e5ca0eef9b645e603af653dfd30f92", func := "cartage/cartagelaw15.StateUnlike", spec := "stateUnlike", unfollowed := true, recurses := true, apart := false }
def StateUnlikeSaid : Prop := stateUnlikeRow.holds Try.pinned (OpenSpec.ofChange stateUnlikeSpec)

/-- ITS FALSE NEIGHBOUR: 'it returns false'. Refute it at one input. -/
def stateUnlikeWrong : ChangeSpec := { name := "stateUnlike", fn := fun _ => fun
  | [d1, d2, d3] => { results := [.lit (.bool false)], args := [d1, d2, d3] }
  | _ => none }
def StateUnlikeWrongFalsely : Prop := stateUnlikeRow.holds Try.pinned (OpenSpec.ofChange stateUnlikeWrong)

/- THE SECOND FORM. 'bulk': how many values and letters a reading holds, each counted each time it is reached (what is shared counts as often as it is met; a slice's spare places count too). A statement '..UptoSaid' is the law's where the arguments, and the package variables that the reading takes, are together of bulk at most 1048576: NARROWER than '..Said'. Prove '..Said' where nothing that the law and all that it calls make is longer than what came in: it says more and counts as full. Else prove '..UptoSaid'. A law counts once. -/
mutual
def uptoBulk {H : Type} : DataW H → Nat
  | .lit (.string bytes) => bytes.length + 1
  | .lit _ => 1
  | .nil => 1
  | .ptr d => uptoBulk d + 1
  | .slice elems spare => uptoBulkAll elems + uptoBulkAll spare + 1
  | .agg parts => uptoBulkAll parts + 1
  | .iface _ d => uptoBulk d + 1
  | .map entries => uptoBulkEntries entries + 1
  | .held _ => 1
def uptoBulkAll {H : Type} : List (DataW H) → Nat
  | [] => 0
  | d :: r => uptoBulk d + uptoBulkAll r
def uptoBulkEntries {H : Type} : List (Lit × DataW H) → Nat
  | [] => 0
  | x :: r => uptoBulkEntry x + uptoBulkEntries r
def uptoBulkEntry {H : Type} : Lit × DataW H → Nat
  | (.string bytes, d) => bytes.length + uptoBulk d + 1
  | (_, d) => uptoBulk d + 1
 end
def uptoSmall : (H : Type) → List (DataW H) → Bool := fun _ ds => decide (uptoBulkAll ds ≤ 1048576)
def OpenSpec.upto (s : _root_.Go.ChangeSpec) : _root_.Go.OpenSpec := { _root_.Go.OpenSpec.ofChange s with cond := some uptoSmall }

/-- 'cartagelaw15.StateTells', WHERE WHAT IT READS IS OF BULK AT MOST 1048576: true; the input reads as it did. -/
def stateTellsUptoRow : OpenClaim := { program := "ytaohmpblmlkioaa", sum := "07c99b1a72ca88448cd5e15e2c511770e9e5ca0eef9b645e603af653dfd30f92", func := "cartage/cartagelaw15.StateTells", spec := "stateTells", unfollowed := true, recurses := true, apart := false, narrowed := true }
def StateTellsUptoSaid : Prop := stateTellsUptoRow.holds Try.pinned (OpenSpec.upto stateTellsSpec)

/-- 'cartagelaw15.StateReads', WHERE WHAT IT READS IS OF BULK AT MOST 1048576: true; the input reads as it did. -/
def stateReadsUptoRow : OpenClaim := { program := "ytaohmpblmlkioaa", sum := "07c99b1a72ca88448cd5e15e2c511770e9e5ca0eef9b645e603af653dfd30f92", func := "cartage/cartagelaw15.StateReads", spec := "stateReads", unfollowed := true, recurses := true, apart := false, narrowed := true }
def StateReadsUptoSaid : Prop := stateReadsUptoRow.holds Try.pinned (OpenSpec.upto stateReadsSpec)

/-- 'cartagelaw15.StateBack', WHERE WHAT IT READS IS OF BULK AT MOST 1048576: true; the input reads as it did. -/
def stateBackUptoRow : OpenClaim := { program := "ytaohmpblmlkioaa", sum := "07c99b1a72ca88448cd5e15e2c511770e9e5ca0eef9b645e603af653dfd30f92", func := "cartage/cartagelaw15.StateBack", spec := "stateBack", unfollowed := true, recurses := true, apart := false, narrowed := true }
def StateBackUptoSaid : Prop := stateBackUptoRow.holds Try.pinned (OpenSpec.upto stateBackSpec)

/-- 'cartagelaw15.StateSpoilt', WHERE WHAT IT READS IS OF BULK AT MOST 1048576: true; the input reads as it did. -/
def stateSpoiltUptoRow : OpenClaim := { program := "ytaohmpblmlkioaa", sum := "07c99b1a72ca88448cd5e15e2c511770e9e5ca0eef9b645e603af653dfd30f92", func := "cartage/cartagelaw15.StateSpoilt", spec := "stateSpoilt", unfollowed := true, recurses := true, apart := false, narrowed := true }
def StateSpoiltUptoSaid : Prop := stateSpoiltUptoRow.holds Try.pinned (OpenSpec.upto stateSpoiltSpec)

/-- 'cartagelaw15.StateOne', WHERE WHAT IT READS IS OF BULK AT MOST 1048576: true; the input reads as it did. -/
def stateOneUptoRow : OpenClaim := { program := "ytaohmpblmlkioaa", sum := "07c99b1a72ca88448cd5e15e2c511770e9e5ca0eef9b645e603af653dfd30f92", func := "cartage/cartagelaw15.StateOne", spec := "stateOne", unfollowed := true, recurses := true, apart := false, narrowed := true }
def StateOneUptoSaid : Prop := stateOneUptoRow.holds Try.pinned (OpenSpec.upto stateOneSpec)

/-- 'cartagelaw15.StateUnlike', WHERE WHAT IT READS IS OF BULK AT MOST 1048576: true; the input reads as it did. -/
def stateUnlikeUptoRow : OpenClaim := { program := "ytaohmpblmlkioaa", sum := "07c99b1a72ca88448cd5e15e2c511770e9e5ca0eef9b645e603af653dfd30f92", func := "cartage/cartagelaw15.StateUnlike", spec := "stateUnlike", unfollowed := true, recurses := true, apart := false, narrowed := true }
def StateUnlikeUptoSaid : Prop := stateUnlikeUptoRow.holds Try.pinned (OpenSpec.upto stateUnlikeSpec)

end Rows
end Go.Proofs.Ytaohmpblmlkioaa
