/-
  No cell of these rows narrows 'for every input' (looked for: loops, veiled, ifaces, maps, wideKeys, modest, calm, conditions, laid).
  DERIVED. THE GIVEN ROWS OF THIS SEAT. 7 by the template 'for every input the law returns true; each argument reads behind the call as it read before'; 0 by the template 'total and deterministic' (their statements: YtaaojocooklfaaaTotals.lean).
  GIVEN WITH THE SEED: the statements are not yours to turn. If you find one false, say at which input.
  Laid BY PROGRAM, IN A SANDBOX (cutbox-rows.mjs): the forced cells as the released guide's own fill.sh prints them over the translation 0a4d116d5b6c82ec… (all of the seat's roots in one cut). By AI agents, Wed Nov 11 2026. No macro, syntax, notation, axiom, sorry.
-/
import Derived.Test.YtaaojocooklfaaaChecked
import GoSem.Claim
import GoSem.ClaimJoined
import GoSem.ClaimMapViews
import Derived.JoinedTies
import Derived.KernelRfl
namespace Go.Proofs.Ytaaojocooklfaaa
/- THE CELL 'sum', in the pinned program and in every row, IS THE sha256 OF THE DUMP (.gsa) THAT YtaaojocooklfaaaProg.lean LOADS. Nothing in Lean hashes anything: it is a label: what it is worth is what the hold of that sum in a sandbox is worth. -/
noncomputable def Try.pinned : Pinned := { name := "ytaaojocooklfaaa", sum := "0a4d116d5b6c82ec88174cfea209b31c5dbb094b2b35da53ee98de86036416c8", checked := Try.checked }
namespace Rows
def none {H : Type} : Left H := { results := [], args := [] }

/-- 'cartagelaw04.BlockRest': WHATEVER THE INPUT: true; the input reads as it did. -/
def blockRestSpec : ChangeSpec := { name := "blockRest", fn := fun _ => fun
  | [d1, d2] => { results := [.lit (.bool true)], args := [d1, d2] }
  | _ => none }
def blockRestRow : OpenClaim := { program := "ytaaojocooklfaaa", sum := "0a4d116d5b6c82ec88174cfea209b31c5dbb094b2b35da53ee98de86036416c8", func := "cartage/cartagelaw04.BlockRest", spec := "blockRest", unfollowed := true, recurses := true, apart := false }
def BlockRestSaid : Prop := blockRestRow.holds Try.pinned (OpenSpec.ofChange blockRestSpec)

/-- ITS FALSE NEIGHBOUR: 'it returns false'. Refute it at one input. -/
def blockRestWrong : ChangeSpec := { name := "blockRest", fn := fun _ => fun
  | [d1, d2] => { results := [.lit (.bool false)], args := [d1, d2] }
  | _ => none }
def BlockRestWrongFalsely : Prop := blockRestRow.holds Try.pinned (OpenSpec.ofChange blockRestWrong)

/-- 'cartagelaw04.BlockBytes': WHATEVER THE INPUT: true; the input reads as it did. -/
def blockBytesSpec : ChangeSpec := { name := "blockBytes", fn := fun _ => fun
  | [d] => { results := [.lit (.bool true)], args := [d] }
  | _ => none }
def blockBytesRow : OpenClaim := { program := "ytaaojocooklfaaa", sum := "0a4d116d5b6c82ec88174cfea209b31c5dbb094b2b35da53ee98de86036416c8", func := "cartage/cartagelaw04.BlockBytes", spec := "blockBytes", unfollowed := true, recurses := true, apart := false }
def BlockBytesSaid : Prop := blockBytesRow.holds Try.pinned (OpenSpec.ofChange blockBytesSpec)

/-- ITS FALSE NEIGHBOUR: 'it returns false'. Refute it at one input. -/
def blockBytesWrong : ChangeSpec := { name := "blockBytes", fn := fun _ => fun
  | [d] => { results := [.lit (.bool false)], args := [d] }
  | _ => none }
def BlockBytesWrongFalsely : Prop := blockBytesRow.holds Try.pinned (OpenSpec.ofChange blockBytesWrong)

/-- 'cartagelaw04.BlockTells': WHATEVER THE INPUT: true; the input reads as it did. -/
def blockTellsSpec : ChangeSpec := { name := "blockTells", fn := fun _ => fun
  | [d] => { results := [.lit (.bool true)], args := [d] }
  | _ => none }
def blockTellsRow : OpenClaim := { program := "ytaaojocooklfaaa", sum := "0a4d116d5b6c82ec88174cfea209b31c5dbb094b2b35da53ee98de86036416c8", func := "cartage/cartagelaw04.BlockTells", spec := "blockTells", unfollowed := true, recurses := true, apart := false }
def BlockTellsSaid : Prop := blockTellsRow.holds Try.pinned (OpenSpec.ofChange blockTellsSpec)

/-- ITS FALSE NEIGHBOUR: 'it returns false'. Refute it at one input. -/
def blockTellsWrong : ChangeSpec := { name := "blockTells", fn := fun _ => fun
  | [d] => { results := [.lit (.bool false)], args := [d] }
  | _ => none }
def BlockTellsWrongFalsely : Prop := blockTellsRow.holds Try.pinned (OpenSpec.ofChange blockTellsWrong)

/-- 'cartagelaw04.BlockReads': WHATEVER THE INPUT: true; the input reads as it did. -/
def blockReadsSpec : ChangeSpec := { name := "blockReads", fn := fun _ => fun
  | [d] => { results := [.lit (.bool true)], args := [d] }
  | _ => none }
def blockReadsRow : OpenClaim := { program := "ytaaojocooklfaaa", sum := "0a4d116d5b6c82ec88174cfea209b31c5dbb094b2b35da53ee98de86036416c8", func := "cartage/cartagelaw04.BlockReads", spec := "blockReads", unfollowed := true, recurses := true, apart := false }
def BlockReadsSaid : Prop := blockReadsRow.holds Try.pinned (OpenSpec.ofChange blockReadsSpec)

/-- ITS FALSE NEIGHBOUR: 'it returns false'. Refute it at one input. -/
def blockReadsWrong : ChangeSpec := { name := "blockReads", fn := fun _ => fun
  | [d] => { results := [.lit (.bool false)], args := [d] }
  | _ => none }
def BlockReadsWrongFalsely : Prop := blockReadsRow.holds Try.pinned (OpenSpec.ofChange blockReadsWrong)

/-- 'cartagelaw04.BlockJoins': WHATEVER THE INPUT: true; the input reads as it did. -/
def blockJoinsSpec : ChangeSpec := { name := "blockJoins", fn := fun _ => fun
  | [d1, d2] => { results := [.lit (.bool true)], args := [d1, d2] }
  | _ => none }
def blockJoinsRow : OpenClaim := { program := "ytaaojocooklfaaa", sum := "0a4d116d5b6c82ec88174cfea209b31c5dbb094b2b35da53ee98de86036416c8", func := "cartage/cartagelaw04.BlockJoins", spec := "blockJoins", unfollowed := true, recurses := true, apart := false }
def BlockJoinsSaid : Prop := blockJoinsRow.holds Try.pinned (OpenSpec.ofChange blockJoinsSpec)

/-- ITS FALSE NEIGHBOUR: 'it returns false'. Refute it at one input. -/
def blockJoinsWrong : ChangeSpec := { name := "blockJoins", fn := fun _ => fun
  | [d1, d2] => { results := [.lit (.bool false)], args := [d1, d2] }
  | _ => none }
def BlockJoinsWrongFalsely : Prop := blockJoinsRow.holds Try.pinned (OpenSpec.ofChange blockJoinsWrong)

/-- 'cartagelaw04.BlockBack': WHATEVER THE INPUT: true; the input reads as it did. -/
def blockBackSpec : ChangeSpec := { name := "blockBack", fn := fun _ => fun
  | [d] => { results := [.lit (.bool true)], args := [d] }
  | _ => none }
def blockBackRow : OpenClaim := { program := "ytaaojocooklfaaa", sum := "0a4d116d5b6c82ec88174cfea209b31c5dbb094b2b35da53ee98de86036416c8", func := "cartage/cartagelaw04.BlockBack", spec := "blockBack", unfollowed := true, recurses := true, apart := false }
def BlockBackSaid : Prop := blockBackRow.holds Try.pinned (OpenSpec.ofChange blockBackSpec)

/-- ITS FALSE NEIGHBOUR: 'it returns false'. Refute it at one input. -/
def blockBackWrong : ChangeSpec := { name := "blockBack", fn := fun _ => fun
  | [d] => { results := [.lit (.bool false)], args := [d] }
  | _ => none }
def BlockBackWrongFalsely : Prop := blockBackRow.holds Try.pinned (OpenSpec.ofChange blockBackWrong)

/-- 'cartagelaw04.BlockDamage': WHATEVER THE INPUT: true; the input reads as it did. -/
def blockDamageSpec : ChangeSpec := { name := "blockDamage", fn := fun _ => fun
  | [d1, d2, d3, d4, d5] => { results := [.lit (.bool true)], args := [d1, d2, d3, d4, d5] }
  | _ => none }
def blockDamageRow : OpenClaim := { program := "ytaaojocooklfaaa", sum := "0a4d116d5b6c82ec88174cfea209b31c5dbb094b2b35da53ee98de86036416c8", func := "cartage/cartagelaw04.BlockDamage", spec := "blockDamage", unfollowed := true, recurses := true, apart := false }
def BlockDamageSaid : Prop := blockDamageRow.holds Try.pinned (OpenSpec.ofChange blockDamageSpec)

/-- ITS FALSE NEIGHBOUR: 'it returns false'. Refute it at one input. -/
def blockDamageWrong : ChangeSpec := { name := "blockDamage", fn := fun _ => fun
  | [d1, d2, d3, d4, d5] => { results := [.lit (.bool false)], args := [d1, d2, d3, d4, d5] }
  | _ => none }
def BlockDamageWrongFalsely : Prop := blockDamageRow.holds Try.pinned (OpenSpec.ofChange blockDamageWrong)

/- THE SECOND FORM. 'bulk': how many values and letters a reading holds, each counted each time it is reached (what is shared counts as often as it is met; a slice's spare places count too). A statement '..UptoSaid' is the law's where the arguments, and the package variables that the reading takes, are together of bulk at most 1048576: NARROWER than '..Said'. Prove '..Said' where nothing that the law and all that it calls make is longer than what came in: it says more and counts as full. Else prove '..UptoSaid'. A law counts once. -/
mutual
def uptoBulk {H : Type} : DataW H → Nat
  | .lit (.string bytes) => bytes.length + 1
  | .lit _ => 1
  | .nil => 1
  | .ptr d => uptoBulk d + 1
  | .slice elems spare => uptoBulkAll elems + uptoBulkAll spare + 1
  | .agg parts => uptoBulkAll parts + 1
  | .iface _ d => uptoBulk d + 1
  | .map entries => uptoBulkEntries entries + 1
  | .held _ => 1
def uptoBulkAll {H : Type} : List (DataW H) → Nat
  | [] => 0
  | d :: r => uptoBulk d + uptoBulkAll r
def uptoBulkEntries {H : Type} : List (Lit × DataW H) → Nat
  | [] => 0
  | x :: r => uptoBulkEntry x + uptoBulkEntries r
def uptoBulkEntry {H : Type} : Lit × DataW H → Nat
  | (.string bytes, d) => bytes.length + uptoBulk d + 1
  | (_, d) => uptoBulk d + 1
 end
def uptoSmall : (H : Type) → List (DataW H) → Bool := fun _ ds => decide (uptoBulkAll ds ≤ 1048576)
def OpenSpec.upto (s : _root_.Go.ChangeSpec) : _root_.Go.OpenSpec := { _root_.Go.OpenSpec.ofChange s with cond := some uptoSmall }

/-- 'cartagelaw04.BlockRest', WHERE WHAT IT READS IS OF BULK AT MOST 1048576: true; the input reads as it did. -/
def blockRestUptoRow : OpenClaim := { program := "ytaaojocooklfaaa", sum := "0a4d116d5b6c82ec88174cfea209b31c5dbb094b2b35da53ee98de86036416c8", func := "cartage/cartagelaw04.BlockRest", spec := "blockRest", unfollowed := true, recurses := true, apart := false, narrowed := true }
def BlockRestUptoSaid : Prop := blockRestUptoRow.holds Try.pinned (OpenSpec.upto blockRestSpec)

/-- 'cartagelaw04.BlockBytes', WHERE WHAT IT READS IS OF BULK AT MOST 1048576: true; the input reads as it did. -/
def blockBytesUptoRow : OpenClaim := { program := "ytaaojocooklfaaa", sum := "0a4d116d5b6c82ec88174cfea209b31c5dbb094b2b35da53ee98de86036416c8", func := "cartage/cartagelaw04.BlockBytes", spec := "blockBytes", unfollowed := true, recurses := true, apart := false, narrowed := true }
def BlockBytesUptoSaid : Prop := blockBytesUptoRow.holds Try.pinned (OpenSpec.upto blockBytesSpec)

/-- 'cartagelaw04.BlockTells', WHERE WHAT IT READS IS OF BULK AT MOST 1048576: true; the input reads as it did. -/
def blockTellsUptoRow : OpenClaim := { program := "ytaaojocooklfaaa", sum := "0a4d116d5b6c82ec88174cfea209b31c5dbb094b2b35da53ee98de86036416c8", func := "cartage/cartagelaw04.BlockTells", spec := "blockTells", unfollowed := true, recurses := true, apart := false, narrowed := true }
def BlockTellsUptoSaid : Prop := blockTellsUptoRow.holds Try.pinned (OpenSpec.upto blockTellsSpec)

/-- 'cartagelaw04.BlockReads', WHERE WHAT IT READS IS OF BULK AT MOST 1048576: true; the input reads as it did. -/
def blockReadsUptoRow : OpenClaim := { program := "ytaaojocooklfaaa", sum := "0a4d116d5b6c82ec88174cfea209b31c5dbb094b2b35da53ee98de86036416c8", func := "cartage/cartagelaw04.BlockReads", spec := "blockReads", unfollowed := true, recurses := true, apart := false, narrowed := true }
def BlockReadsUptoSaid : Prop := blockReadsUptoRow.holds Try.pinned (OpenSpec.upto blockReadsSpec)

/-- 'cartagelaw04.BlockJoins', WHERE WHAT IT READS IS OF BULK AT MOST 1048576: true; the input reads as it did. -/
def blockJoinsUptoRow : OpenClaim := { program := "ytaaojocooklfaaa", sum := "0a4d116d5b6c82ec88174cfea209b31c5dbb094b2b35da53ee98de86036416c8", func := "cartage/cartagelaw04.BlockJoins", spec := "blockJoins", unfollowed := true, recurses := true, apart := false, narrowed := true }
def BlockJoinsUptoSaid : Prop := blockJoinsUptoRow.holds Try.pinned (OpenSpec.upto blockJoinsSpec)

/-- 'cartagelaw04.BlockBack', WHERE WHAT IT READS IS OF BULK AT MOST 1048576: true; the input reads as it did. -/
def blockBackUptoRow : OpenClaim := { program := "ytaaojocooklfaaa", sum := "0a4d116d5b6c82ec88174cfea209b31c5dbb094b2b35da53ee98de86036416c8", func := "cartage/cartagelaw04.BlockBack", spec := "blockBack", unfollowed := true, recurses := true, apart := false, narrowed := true }
def BlockBackUptoSaid : Prop := blockBackUptoRow.holds Try.pinned (OpenSpec.upto blockBackSpec)

/-- 'cartagelaw04.BlockDamage', WHERE WHAT IT READS IS OF BULK AT MOST 1048576: true; the input reads as it did. -/
def blockDamageUptoRow : OpenClaim := { program := "ytaaojocooklfaaa", sum := "0a4d116d5b6c82ec88174cfea209b31c5dbb094b2b35da53ee98de86036416c8", func := "cartage/cartagelaw04.BlockDamage", spec := "blockDamage", unfollowed := true, recurses := true, apart := false, narrowed := true }
def BlockDamageUptoSaid : Prop := blockDamageUptoRow.holds Try.pinned (OpenSpec.upto blockDamageSpec)

end Rows
end Go.Proofs.Ytaaojocooklfaaa
