/-
  No cell of these rows narrows 'for every input' (looked for: loops, veiled, ifaces, maps, wideKeys, modest, calm, conditions, laid).
  DERIVED. THE GIVEN ROWS OF THIS SEAT. 9 by the template 'for every input the law returns true; each argument reads behind the call as it read before'; 0 by the template 'total and deterministic' (their statements: YtpnohgolpeocaaaTotals.lean).
  GIVEN WITH THE SEED: the statements are not yours to turn. If you find one false, say at which input.
  Laid BY PROGRAM, IN A SANDBOX (cutbox-rows.mjs): the forced cells as the released guide's own fill.sh prints them over the translation fc8479df5a987eb2… (all of the seat's roots in one cut). By AI agents, Wed Nov 11 2026. No macro, syntax, notation, axiom, sorry.
-/
import Derived.Test.YtpnohgolpeocaaaChecked
import GoSem.Claim
import GoSem.ClaimJoined
import GoSem.ClaimMapViews
import Derived.JoinedTies
import Derived.KernelRfl
namespace Go.Proofs.Ytpnohgolpeocaaa
/- THE CELL 'sum', in the pinned program and in every row, IS THE sha256 OF THE DUMP (.gsa) THAT YtpnohgolpeocaaaProg.lean LOADS. Nothing in Lean hashes anything: it is a label: what it is worth is what the hold of that sum in a sandbox is worth. -/
noncomputable def Try.pinned : Pinned := { name := "ytpnohgolpeocaaa", sum := "fc8479df5a987eb21f7c12a7a74bbe2313a9167e796a49028f13b8366db7e1a2", checked := Try.checked }
namespace Rows
def none {H : Type} : Left H := { results := [], args := [] }

/-- 'cartagelaw01.OctetsPuts': WHATEVER THE INPUT: true; the input reads as it did. -/
def octetsPutsSpec : ChangeSpec := { name := "octetsPuts", fn := fun _ => fun
  | [d1, d2, d3, d4] => { results := [.lit (.bool true)], args := [d1, d2, d3, d4] }
  | _ => none }
def octetsPutsRow : OpenClaim := { program := "ytpnohgolpeocaaa", sum := "fc8479df5a987eb21f7c12a7a74bbe2313a9167e796a49028f13b8366db7e1a2", func := "cartage/cartagelaw01.OctetsPuts", spec := "octetsPuts", unfollowed := true, recurses := true, apart := false }
def OctetsPutsSaid : Prop := octetsPutsRow.holds Try.pinned (OpenSpec.ofChange octetsPutsSpec)

/-- ITS FALSE NEIGHBOUR: 'it returns false'. Refute it at one input. -/
def octetsPutsWrong : ChangeSpec := { name := "octetsPuts", fn := fun _ => fun
  | [d1, d2, d3, d4] => { results := [.lit (.bool false)], args := [d1, d2, d3, d4] }
  | _ => none }
def OctetsPutsWrongFalsely : Prop := octetsPutsRow.holds Try.pinned (OpenSpec.ofChange octetsPutsWrong)

/-- 'cartagelaw01.OctetsVars': WHATEVER THE INPUT: true; the input reads as it did. -/
def octetsVarsSpec : ChangeSpec := { name := "octetsVars", fn := fun _ => fun
  | [d1, d2] => { results := [.lit (.bool true)], args := [d1, d2] }
  | _ => none }
def octetsVarsRow : OpenClaim := { program := "ytpnohgolpeocaaa", sum := "fc8479df5a987eb21f7c12a7a74bbe2313a9167e796a49028f13b8366db7e1a2", func := "cartage/cartagelaw01.OctetsVars", spec := "octetsVars", unfollowed := true, recurses := true, apart := false }
def OctetsVarsSaid : Prop := octetsVarsRow.holds Try.pinned (OpenSpec.ofChange octetsVarsSpec)

/-- ITS FALSE NEIGHBOUR: 'it returns false'. Refute it at one input. -/
def octetsVarsWrong : ChangeSpec := { name := "octetsVars", fn := fun _ => fun
  | [d1, d2] => { results := [.lit (.bool false)], args := [d1, d2] }
  | _ => none }
def OctetsVarsWrongFalsely : Prop := octetsVarsRow.holds Try.pinned (OpenSpec.ofChange octetsVarsWrong)

/-- 'cartagelaw01.OctetsCrc': WHATEVER THE INPUT: true; the input reads as it did. -/
def octetsCrcSpec : ChangeSpec := { name := "octetsCrc", fn := fun _ => fun
  | [d] => { results := [.lit (.bool true)], args := [d] }
  | _ => none }
def octetsCrcRow : OpenClaim := { program := "ytpnohgolpeocaaa", sum := "fc8479df5a987eb21f7c12a7a74bbe2313a9167e796a49028f13b8366db7e1a2", func := "cartage/cartagelaw01.OctetsCrc", spec := "octetsCrc", unfollowed := true, recurses := true, apart := false }
def OctetsCrcSaid : Prop := octetsCrcRow.holds Try.pinned (OpenSpec.ofChange octetsCrcSpec)

/-- ITS FALSE NEIGHBOUR: 'it returns false'. Refute it at one input. -/
def octetsCrcWrong : ChangeSpec := { name := "octetsCrc", fn := fun _ => fun
  | [d] => { results := [.lit (.bool false)], args := [d] }
  | _ => none }
def OctetsCrcWrongFalsely : Prop := octetsCrcRow.holds Try.pinned (OpenSpec.ofChange octetsCrcWrong)

/-- 'cartagelaw01.OctetsBack': WHATEVER THE INPUT: true; the input reads as it did. -/
def octetsBackSpec : ChangeSpec := { name := "octetsBack", fn := fun _ => fun
  | [d1, d2, d3, d4] => { results := [.lit (.bool true)], args := [d1, d2, d3, d4] }
  | _ => none }
def octetsBackRow : OpenClaim := { program := "ytpnohgolpeocaaa", sum := "fc8479df5a987eb21f7c12a7a74bbe2313a9167e796a49028f13b8366db7e1a2", func := "cartage/cartagelaw01.OctetsBack", spec := "octetsBack", unfollowed := true, recurses := true, apart := false }
def OctetsBackSaid : Prop := octetsBackRow.holds Try.pinned (OpenSpec.ofChange octetsBackSpec)

/-- ITS FALSE NEIGHBOUR: 'it returns false'. Refute it at one input. -/
def octetsBackWrong : ChangeSpec := { name := "octetsBack", fn := fun _ => fun
  | [d1, d2, d3, d4] => { results := [.lit (.bool false)], args := [d1, d2, d3, d4] }
  | _ => none }
def OctetsBackWrongFalsely : Prop := octetsBackRow.holds Try.pinned (OpenSpec.ofChange octetsBackWrong)

/-- 'cartagelaw01.OctetsVarBack': WHATEVER THE INPUT: true; the input reads as it did. -/
def octetsVarBackSpec : ChangeSpec := { name := "octetsVarBack", fn := fun _ => fun
  | [d1, d2] => { results := [.lit (.bool true)], args := [d1, d2] }
  | _ => none }
def octetsVarBackRow : OpenClaim := { program := "ytpnohgolpeocaaa", sum := "fc8479df5a987eb21f7c12a7a74bbe2313a9167e796a49028f13b8366db7e1a2", func := "cartage/cartagelaw01.OctetsVarBack", spec := "octetsVarBack", unfollowed := true, recurses := true, apart := false }
def OctetsVarBackSaid : Prop := octetsVarBackRow.holds Try.pinned (OpenSpec.ofChange octetsVarBackSpec)

/-- ITS FALSE NEIGHBOUR: 'it returns false'. Refute it at one input. -/
def octetsVarBackWrong : ChangeSpec := { name := "octetsVarBack", fn := fun _ => fun
  | [d1, d2] => { results := [.lit (.bool false)], args := [d1, d2] }
  | _ => none }
def OctetsVarBackWrongFalsely : Prop := octetsVarBackRow.holds Try.pinned (OpenSpec.ofChange octetsVarBackWrong)

/-- 'cartagelaw01.OctetsOne': WHATEVER THE INPUT: true; the input reads as it did. -/
def octetsOneSpec : ChangeSpec := { name := "octetsOne", fn := fun _ => fun
  | [d] => { results := [.lit (.bool true)], args := [d] }
  | _ => none }
def octetsOneRow : OpenClaim := { program := "ytpnohgolpeocaaa", sum := "fc8479df5a987eb21f7c12a7a74bbe2313a9167e796a49028f13b8366db7e1a2", func := "cartage/cartagelaw01.OctetsOne", spec := "octetsOne", unfollowed := true, recurses := true, apart := false }
def OctetsOneSaid : Prop := octetsOneRow.holds Try.pinned (OpenSpec.ofChange octetsOneSpec)

/-- ITS FALSE NEIGHBOUR: 'it returns false'. Refute it at one input. -/
def octetsOneWrong : ChangeSpec := { name := "octetsOne", fn := fun _ => fun
  | [d] => { results := [.lit (.bool false)], args := [d] }
  | _ => none }
def OctetsOneWrongFalsely : Prop := octetsOneRow.holds Try.pinned (OpenSpec.ofChange octetsOneWrong)

/-- 'cartagelaw01.OctetsRuns': WHATEVER THE INPUT: true; the input reads as it did. -/
def octetsRunsSpec : ChangeSpec := { name := "octetsRuns", fn := fun _ => fun
  | [d] => { results := [.lit (.bool true)], args := [d] }
  | _ => none }
def octetsRunsRow : OpenClaim := { program := "ytpnohgolpeocaaa", sum := "fc8479df5a987eb21f7c12a7a74bbe2313a9167e796a49028f13b8366db7e1a2", func := "cartage/cartagelaw01.OctetsRuns", spec := "octetsRuns", unfollowed := true, recurses := true, apart := false }
def OctetsRunsSaid : Prop := octetsRunsRow.holds Try.pinned (OpenSpec.ofChange octetsRunsSpec)

/-- ITS FALSE NEIGHBOUR: 'it returns false'. Refute it at one input. -/
def octetsRunsWrong : ChangeSpec := { name := "octetsRuns", fn := fun _ => fun
  | [d] => { results := [.lit (.bool false)], args := [d] }
  | _ => none }
def OctetsRunsWrongFalsely : Prop := octetsRunsRow.holds Try.pinned (OpenSpec.ofChange octetsRunsWrong)

/-- 'cartagelaw01.OctetsOrder': WHATEVER THE INPUT: true; the input reads as it did. -/
def octetsOrderSpec : ChangeSpec := { name := "octetsOrder", fn := fun _ => fun
  | [d1, d2] => { results := [.lit (.bool true)], args := [d1, d2] }
  | _ => none }
def octetsOrderRow : OpenClaim := { program := "ytpnohgolpeocaaa", sum := "fc8479df5a987eb21f7c12a7a74bbe2313a9167e796a49028f13b8366db7e1a2", func := "cartage/cartagelaw01.OctetsOrder", spec := "octetsOrder", unfollowed := true, recurses := true, apart := false }
def OctetsOrderSaid : Prop := octetsOrderRow.holds Try.pinned (OpenSpec.ofChange octetsOrderSpec)

/-- ITS FALSE NEIGHBOUR: 'it returns false'. Refute it at one input. -/
def octetsOrderWrong : ChangeSpec := { name := "octetsOrder", fn := fun _ => fun
  | [d1, d2] => { results := [.lit (.bool false)], args := [d1, d2] }
  | _ => none }
def OctetsOrderWrongFalsely : Prop := octetsOrderRow.holds Try.pinned (OpenSpec.ofChange octetsOrderWrong)

/-- 'cartagelaw01.OctetsEnds': WHATEVER THE INPUT: true; the input reads as it did. -/
def octetsEndsSpec : ChangeSpec := { name := "octetsEnds", fn := fun _ => fun
  | [d1, d2] => { results := [.lit (.bool true)], args := [d1, d2] }
  | _ => none }
def octetsEndsRow : OpenClaim := { program := "ytpnohgolpeocaaa", sum := "fc8479df5a987eb21f7c12a7a74bbe2313a9167e796a49028f13b8366db7e1a2", func := "cartage/cartagelaw01.OctetsEnds", spec := "octetsEnds", unfollowed := true, recurses := true, apart := false }
def OctetsEndsSaid : Prop := octetsEndsRow.holds Try.pinned (OpenSpec.ofChange octetsEndsSpec)

/-- ITS FALSE NEIGHBOUR: 'it returns false'. Refute it at one input. -/
def octetsEndsWrong : ChangeSpec := { name := "octetsEnds", fn := fun _ => fun
  | [d1, d2] => { results := [.lit (.bool false)], args := [d1, d2] }
  | _ => none }
def OctetsEndsWrongFalsely : Prop := octetsEndsRow.holds Try.pinned (OpenSpec.ofChange octetsEndsWrong)

/- THE SECOND FORM. 'bulk': how many values and letters a reading holds, each counted each time it is reached (what is shared counts as often as it is met; a slice's spare places count too). A statement '..UptoSaid' is the law's where the arguments, and the package variables that the reading takes, are together of bulk at most 1048576: NARROWER than '..Said'. Prove '..Said' where nothing that the law and all that it calls make is longer than what came in: it says more and counts as full. Else prove '..UptoSaid'. A law counts once. -/
mutual
def uptoBulk {H : Type} : DataW H → Nat
  | .lit (.string bytes) => bytes.length + 1
  | .lit _ => 1
  | .nil => 1
  | .ptr d => uptoBulk d + 1
  | .slice elems spare => uptoBulkAll elems + uptoBulkAll spare + 1
  | .agg parts => uptoBulkAll parts + 1
  | .iface _ d => uptoBulk d + 1
  | .map entries => uptoBulkEntries entries + 1
  | .held _ => 1
def uptoBulkAll {H : Type} : List (DataW H) → Nat
  | [] => 0
  | d :: r => uptoBulk d + uptoBulkAll r
def uptoBulkEntries {H : Type} : List (Lit × DataW H) → Nat
  | [] => 0
  | x :: r => uptoBulkEntry x + uptoBulkEntries r
def uptoBulkEntry {H : Type} : Lit × DataW H → Nat
  | (.string bytes, d) => bytes.length + uptoBulk d + 1
  | (_, d) => uptoBulk d + 1
 end
def uptoSmall : (H : Type) → List (DataW H) → Bool := fun _ ds => decide (uptoBulkAll ds ≤ 1048576)
def OpenSpec.upto (s : _root_.Go.ChangeSpec) : _root_.Go.OpenSpec := { _root_.Go.OpenSpec.ofChange s with cond := some uptoSmall }

/-- 'cartagelaw01.OctetsPuts', WHERE WHAT IT READS IS OF BULK AT MOST 1048576: true; the input reads as it did. -/
def octetsPutsUptoRow : OpenClaim := { program := "ytpnohgolpeocaaa", sum := "fc8479df5a987eb21f7c12a7a74bbe2313a9167e796a49028f13b8366db7e1a2", func := "cartage/cartagelaw01.OctetsPuts", spec := "octetsPuts", unfollowed := true, recurses := true, apart := false, narrowed := true }
def OctetsPutsUptoSaid : Prop := octetsPutsUptoRow.holds Try.pinned (OpenSpec.upto octetsPutsSpec)

/-- 'cartagelaw01.OctetsVars', WHERE WHAT IT READS IS OF BULK AT MOST 1048576: true; the input reads as it did. -/
def octetsVarsUptoRow : OpenClaim := { program := "ytpnohgolpeocaaa", sum := "fc8479df5a987eb21f7c12a7a74bbe2313a9167e796a49028f13b8366db7e1a2", func := "cartage/cartagelaw01.OctetsVars", spec := "octetsVars", unfollowed := true, recurses := true, apart := false, narrowed := true }
def OctetsVarsUptoSaid : Prop := octetsVarsUptoRow.holds Try.pinned (OpenSpec.upto octetsVarsSpec)

/-- 'cartagelaw01.OctetsCrc', WHERE WHAT IT READS IS OF BULK AT MOST 1048576: true; the input reads as it did. -/
def octetsCrcUptoRow : OpenClaim := { program := "ytpnohgolpeocaaa", sum := "fc8479df5a987eb21f7c12a7a74bbe2313a9167e796a49028f13b8366db7e1a2", func := "cartage/cartagelaw01.OctetsCrc", spec := "octetsCrc", unfollowed := true, recurses := true, apart := false, narrowed := true }
def OctetsCrcUptoSaid : Prop := octetsCrcUptoRow.holds Try.pinned (OpenSpec.upto octetsCrcSpec)

/-- 'cartagelaw01.OctetsBack', WHERE WHAT IT READS IS OF BULK AT MOST 1048576: true; the input reads as it did. -/
def octetsBackUptoRow : OpenClaim := { program := "ytpnohgolpeocaaa", sum := "fc8479df5a987eb21f7c12a7a74bbe2313a9167e796a49028f13b8366db7e1a2", func := "cartage/cartagelaw01.OctetsBack", spec := "octetsBack", unfollowed := true, recurses := true, apart := false, narrowed := true }
def OctetsBackUptoSaid : Prop := octetsBackUptoRow.holds Try.pinned (OpenSpec.upto octetsBackSpec)

/-- 'cartagelaw01.OctetsVarBack', WHERE WHAT IT READS IS OF BULK AT MOST 1048576: true; the input reads as it did. -/
def octetsVarBackUptoRow : OpenClaim := { program := "ytpnohgolpeocaaa", sum := "fc8479df5a987eb21f7c12a7a74bbe2313a9167e796a49028f13b8366db7e1a2", func := "cartage/cartagelaw01.OctetsVarBack", spec := "octetsVarBack", unfollowed := true, recurses := true, apart := false, narrowed := true }
def OctetsVarBackUptoSaid : Prop := octetsVarBackUptoRow.holds Try.pinned (OpenSpec.upto octetsVarBackSpec)

/-- 'cartagelaw01.OctetsOne', WHERE WHAT IT READS IS OF BULK AT MOST 1048576: true; the input reads as it did. -/
def octetsOneUptoRow : OpenClaim := { program := "ytpnohgolpeocaaa", sum := "fc8479df5a987eb21f7c12a7a74bbe2313a9167e796a49028f13b8366db7e1a2", func := "cartage/cartagelaw01.OctetsOne", spec := "octetsOne", unfollowed := true, recurses := true, apart := false, narrowed := true }
def OctetsOneUptoSaid : Prop := octetsOneUptoRow.holds Try.pinned (OpenSpec.upto octetsOneSpec)

/-- 'cartagelaw01.OctetsRuns', WHERE WHAT IT READS IS OF BULK AT MOST 1048576: true; the input reads as it did. -/
def octetsRunsUptoRow : OpenClaim := { program := "ytpnohgolpeocaaa", sum := "fc8479df5a987eb21f7c12a7a74bbe2313a9167e796a49028f13b8366db7e1a2", func := "cartage/cartagelaw01.OctetsRuns", spec := "octetsRuns", unfollowed := true, recurses := true, apart := false, narrowed := true }
def OctetsRunsUptoSaid : Prop := octetsRunsUptoRow.holds Try.pinned (OpenSpec.upto octetsRunsSpec)

/-- 'cartagelaw01.OctetsOrder', WHERE WHAT IT READS IS OF BULK AT MOST 1048576: true; the input reads as it did. -/
def octetsOrderUptoRow : OpenClaim := { program := "ytpnohgolpeocaaa", sum := "fc8479df5a987eb21f7c12a7a74bbe2313a9167e796a49028f13b8366db7e1a2", func := "cartage/cartagelaw01.OctetsOrder", spec := "octetsOrder", unfollowed := true, recurses := true, apart := false, narrowed := true }
def OctetsOrderUptoSaid : Prop := octetsOrderUptoRow.holds Try.pinned (OpenSpec.upto octetsOrderSpec)

/-- 'cartagelaw01.OctetsEnds', WHERE WHAT IT READS IS OF BULK AT MOST 1048576: true; the input reads as it did. -/
def octetsEndsUptoRow : OpenClaim := { program := "ytpnohgolpeocaaa", sum := "fc8479df5a987eb21f7c12a7a74bbe2313a9167e796a49028f13b8366db7e1a2", func := "cartage/cartagelaw01.OctetsEnds", spec := "octetsEnds", unfollowed := true, recurses := true, apart := false, narrowed := true }
def OctetsEndsUptoSaid : Prop := octetsEndsUptoRow.holds Try.pinned (OpenSpec.upto octetsEndsSpec)

end Rows
end Go.Proofs.Ytpnohgolpeocaaa
