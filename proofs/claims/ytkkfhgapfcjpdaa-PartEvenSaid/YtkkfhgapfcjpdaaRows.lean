/-
  No cell of these rows narrows 'for every input' (looked for: loops, veiled, ifaces, maps, wideKeys, modest, calm, conditions, laid).
  DERIVED. THE GIVEN ROWS OF THIS SEAT. 5 by the template 'for every input the law returns true; each argument reads behind the call as it read before'; 0 by the template 'total and deterministic' (their statements: YtkkfhgapfcjpdaaTotals.lean).
  GIVEN WITH THE SEED: the statements are not yours to turn. If you find one false, say at which input.
  Laid BY PROGRAM, IN A SANDBOX (cutbox-rows.mjs): the forced cells as the released guide's own fill.sh prints them over the translation 7448faf342867468… (all of the seat's roots in one cut). By AI agents, Wed Nov 11 2026. No macro, syntax, notation, axiom, sorry.
-/
import Derived.Test.YtkkfhgapfcjpdaaChecked
import GoSem.Claim
import GoSem.ClaimJoined
import GoSem.ClaimMapViews
import Derived.JoinedTies
import Derived.KernelRfl
namespace Go.Proofs.Ytkkfhgapfcjpdaa
/- THE CELL 'sum', in the pinned program and in every row, IS THE sha256 OF THE DUMP (.gsa) THAT YtkkfhgapfcjpdaaProg.lean LOADS. Nothing in Lean hashes anything: it is a label: what it is worth is what the hold of that sum in a sandbox is worth. -/
noncomputable def Try.pinned : Pinned := { name := "ytkkfhgapfcjpdaa", sum := "7448faf3428674684025ed65119bf3bf386a424efc9eb4a01a354b45dde3b72b", checked := Try.checked }
namespace Rows
def none {H : Type} : Left H := { results := [], args := [] }

/-- 'cartagelaw11.PartTells': WHATEVER THE INPUT: true; the input reads as it did. -/
def partTellsSpec : ChangeSpec := { name := "partTells", fn := fun _ => fun
  | [d1, d2, d3] => { results := [.lit (.bool true)], args := [d1, d2, d3] }
  | _ => none }
def partTellsRow : OpenClaim := { program := "ytkkfhgapfcjpdaa", sum := "7448faf3428674684025ed65119bf3bf386a424efc9eb4a01a354b45dde3b72b", func := "cartage/cartagelaw11.PartTells", spec := "partTells", unfollowed := true, recurses := true, apart := false }
def PartTellsSaid : Prop := partTellsRow.holds Try.pinned (OpenSpec.ofChange partTellsSpec)

/-- ITS FALSE NEIGHBOUR: 'it returns false'. Refute it at one input. -/
def partTellsWrong : ChangeSpec := { name := "partTells", fn := fun _ => fun
  | [d1, d2, d3] => { results := [.lit (.bool false)], args := [d1, d2, d3] }
  | _ => none }
def PartTellsWrongFalsely : Prop := partTellsRow.holds Try.pinned (OpenSpec.ofChange partTellsWrong)

/-- 'cartagelaw11.PartOnce': WHATEVER THE INPUT: true; the input reads as it did. -/
def partOnceSpec : ChangeSpec := { name := "partOnce", fn := fun _ => fun
  | [d1, d2] => { results := [.lit (.bool true)], args := [d1, d2] }
  | _ => none }
def partOnceRow : OpenClaim := { program := "ytkkfhgapfcjpdaa", sum := "7448faf3428674684025ed65119bf3bf386a424efc9eb4a01a354b45dde3b72b", func := "cartage/cartagelaw11.PartOnce", spec := "partOnce", unfollowed := true, recurses := true, apart := false }
def PartOnceSaid : Prop := partOnceRow.holds Try.pinned (OpenSpec.ofChange partOnceSpec)

/-- ITS FALSE NEIGHBOUR: 'it returns false'. Refute it at one input. -/
def partOnceWrong : ChangeSpec := { name := "partOnce", fn := fun _ => fun
  | [d1, d2] => { results := [.lit (.bool false)], args := [d1, d2] }
  | _ => none }
def PartOnceWrongFalsely : Prop := partOnceRow.holds Try.pinned (OpenSpec.ofChange partOnceWrong)

/-- 'cartagelaw11.PartEven': WHATEVER THE INPUT: true; the input reads as it did. -/
def partEvenSpec : ChangeSpec := { name := "partEven", fn := fun _ => fun
  | [d1, d2] => { results := [.lit (.bool true)], args := [d1, d2] }
  | _ => none }
def partEvenRow : OpenClaim := { program := "ytkkfhgapfcjpdaa", sum := "7448faf3428674684025ed65119bf3bf386a424efc9eb4a01a354b45dde3b72b", func := "cartage/cartagelaw11.PartEven", spec := "partEven", unfollowed := true, recurses := true, apart := false }
def PartEvenSaid : Prop := partEvenRow.holds Try.pinned (OpenSpec.ofChange partEvenSpec)

/-- ITS FALSE NEIGHBOUR: 'it returns false'. Refute it at one input. -/
def partEvenWrong : ChangeSpec := { name := "partEven", fn := fun _ => fun
  | [d1, d2] => { results := [.lit (.bool false)], args := [d1, d2] }
  | _ => none }
def PartEvenWrongFalsely : Prop := partEvenRow.holds Try.pinned (OpenSpec.ofChange partEvenWrong)

/-- 'cartagelaw11.PartOne': WHATEVER THE INPUT: true; the input reads as it did. -/
def partOneSpec : ChangeSpec := { name := "partOne", fn := fun _ => fun
  | [d1, d2] => { results := [.lit (.bool true)], args := [d1, d2] }
  | _ => none }
def partOneRow : OpenClaim := { program := "ytkkfhgapfcjpdaa", sum := "7448faf3428674684025ed65119bf3bf386a424efc9eb4a01a354b45dde3b72b", func := "cartage/cartagelaw11.PartOne", spec := "partOne", unfollowed := true, recurses := true, apart := false }
def PartOneSaid : Prop := partOneRow.holds Try.pinned (OpenSpec.ofChange partOneSpec)

/-- ITS FALSE NEIGHBOUR: 'it returns false'. Refute it at one input. -/
def partOneWrong : ChangeSpec := { name := "partOne", fn := fun _ => fun
  | [d1, d2] => { results := [.lit (.bool false)], args := [d1, d2] }
  | _ => none }
def PartOneWrongFalsely : Prop := partOneRow.holds Try.pinned (OpenSpec.ofChange partOneWrong)

/-- 'cartagelaw11.PartRises': WHATEVER THE INPUT: true; the input reads as it did. -/
def partRisesSpec : ChangeSpec := { name := "partRises", fn := fun _ => fun
  | [d1, d2, d3, d4] => { results := [.lit (.bool true)], args := [d1, d2, d3, d4] }
  | _ => none }
def partRisesRow : OpenClaim := { program := "ytkkfhgapfcjpdaa", sum := "7448faf3428674684025ed65119bf3bf386a424efc9eb4a01a354b45dde3b72b", func := "cartage/cartagelaw11.PartRises", spec := "partRises", unfollowed := true, recurses := true, apart := false }
def PartRisesSaid : Prop := partRisesRow.holds Try.pinned (OpenSpec.ofChange partRisesSpec)

/-- ITS FALSE NEIGHBOUR: 'it returns false'. Refute it at one input. -/
def partRisesWrong : ChangeSpec := { name := "partRises", fn := fun _ => fun
  | [d1, d2, d3, d4] => { results := [.lit (.bool false)], args := [d1, d2, d3, d4] }
  | _ => none }
def PartRisesWrongFalsely : Prop := partRisesRow.holds Try.pinned (OpenSpec.ofChange partRisesWrong)

/- THE SECOND FORM. 'bulk': how many values and letters a reading holds, each counted each time it is reached (what is shared counts as often as it is met; a slice's spare places count too). A statement '..UptoSaid' is the law's where the arguments, and the package variables that the reading takes, are together of bulk at most 1048576: NARROWER than '..Said'. Prove '..Said' where nothing that the law and all that it calls make is longer than what came in: it says more and counts as full. Else prove '..UptoSaid'. A law counts once. -/
mutual
def uptoBulk {H : Type} : DataW H → Nat
  | .lit (.string bytes) => bytes.length + 1
  | .lit _ => 1
  | .nil => 1
  | .ptr d => uptoBulk d + 1
  | .slice elems spare => uptoBulkAll elems + uptoBulkAll spare + 1
  | .agg parts => uptoBulkAll parts + 1
  | .iface _ d => uptoBulk d + 1
  | .map entries => uptoBulkEntries entries + 1
  | .held _ => 1
def uptoBulkAll {H : Type} : List (DataW H) → Nat
  | [] => 0
  | d :: r => uptoBulk d + uptoBulkAll r
def uptoBulkEntries {H : Type} : List (Lit × DataW H) → Nat
  | [] => 0
  | x :: r => uptoBulkEntry x + uptoBulkEntries r
def uptoBulkEntry {H : Type} : Lit × DataW H → Nat
  | (.string bytes, d) => bytes.length + uptoBulk d + 1
  | (_, d) => uptoBulk d + 1
 end
def uptoSmall : (H : Type) → List (DataW H) → Bool := fun _ ds => decide (uptoBulkAll ds ≤ 1048576)
def OpenSpec.upto (s : _root_.Go.ChangeSpec) : _root_.Go.OpenSpec := { _root_.Go.OpenSpec.ofChange s with cond := some uptoSmall }

/-- 'cartagelaw11.PartTells', WHERE WHAT IT READS IS OF BULK AT MOST 1048576: true; the input reads as it did. -/
def partTellsUptoRow : OpenClaim := { program := "ytkkfhgapfcjpdaa", sum := "7448faf3428674684025ed65119bf3bf386a424efc9eb4a01a354b45dde3b72b", func := "cartage/cartagelaw11.PartTells", spec := "partTells", unfollowed := true, recurses := true, apart := false, narrowed := true }
def PartTellsUptoSaid : Prop := partTellsUptoRow.holds Try.pinned (OpenSpec.upto partTellsSpec)

/-- 'cartagelaw11.PartOnce', WHERE WHAT IT READS IS OF BULK AT MOST 1048576: true; the input reads as it did. -/
def partOnceUptoRow : OpenClaim := { program := "ytkkfhgapfcjpdaa", sum := "7448faf3428674684025ed65119bf3bf386a424efc9eb4a01a354b45dde3b72b", func := "cartage/cartagelaw11.PartOnce", spec := "partOnce", unfollowed := true, recurses := true, apart := false, narrowed := true }
def PartOnceUptoSaid : Prop := partOnceUptoRow.holds Try.pinned (OpenSpec.upto partOnceSpec)

/-- 'cartagelaw11.PartEven', WHERE WHAT IT READS IS OF BULK AT MOST 1048576: true; the input reads as it did. -/
def partEvenUptoRow : OpenClaim := { program := "ytkkfhgapfcjpdaa", sum := "7448faf3428674684025ed65119bf3bf386a424efc9eb4a01a354b45dde3b72b", func := "cartage/cartagelaw11.PartEven", spec := "partEven", unfollowed := true, recurses := true, apart := false, narrowed := true }
def PartEvenUptoSaid : Prop := partEvenUptoRow.holds Try.pinned (OpenSpec.upto partEvenSpec)

/-- 'cartagelaw11.PartOne', WHERE WHAT IT READS IS OF BULK AT MOST 1048576: true; the input reads as it did. -/
def partOneUptoRow : OpenClaim := { program := "ytkkfhgapfcjpdaa", sum := "7448faf3428674684025ed65119bf3bf386a424efc9eb4a01a354b45dde3b72b", func := "cartage/cartagelaw11.PartOne", spec := "partOne", unfollowed := true, recurses := true, apart := false, narrowed := true }
def PartOneUptoSaid : Prop := partOneUptoRow.holds Try.pinned (OpenSpec.upto partOneSpec)

/-- 'cartagelaw11.PartRises', WHERE WHAT IT READS IS OF BULK AT MOST 1048576: true; the input reads as it did. -/
def partRisesUptoRow : OpenClaim := { program := "ytkkfhgapfcjpdaa", sum := "7448faf3428674684025ed65119bf3bf386a424efc9eb4a01a354b45dde3b72b", func := "cartage/cartagelaw11.PartRises", spec := "partRises", unfollowed := true, recurses := true, apart := false, narrowed := true }
def PartRisesUptoSaid : Prop := partRisesUptoRow.holds Try.pinned (OpenSpec.upto partRisesSpec)

end Rows
end Go.Proofs.Ytkkfhgapfcjpdaa
