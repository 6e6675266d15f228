/- TopHops: the tied card of the law, over its row. Conditions: none but those of the card. -/
import Derived.Test.YtlhhcnknclnlaaaGreatDoorTie
import Derived.Test.YtlhhcnknclnlaaaGreatDoorCards
import Derived.SevenTiedAt
import Derived.Test.YtlhhcnknclnlaaaGreatDoorR14
set_option linter.all false
set_option maxRecDepth 100000
set_option maxHeartbeats 16000000
open Go.Proofs.Tryz
namespace Go.Proofs.YtlhhcnknclnlaaaGreatDoor
open Go
theorem topHops_card:Rows.TopHopsCardSaid:=
 Claim7.holds_tied_plain_at .later [] [.data,.data,.data,.sentinel,.sentinel,.funcs] true (true,"f627adcdd60c2ff565e73f5d5018a8f55bd06cdfe81cf7676824c80a73eec173") true
  topHops.Nc (fun _ h=>by cases h) (by kernel_rfl) (fun _ h=>by cases h) topHops_row_tie rfl ⟨rfl,rfl⟩ (by kernel_rfl) rfl
  (fun f fn hf hfn=>by
   obtain rfl:f=3:=Option.some.inj ((show Tryz.prog.funcNamed "cartage/cartagetop.TopHops" =some 3 by kernel_rfl).symm.trans hf)|>.symm;obtain rfl:fn=Tryz.f3:=(Option.some.inj (func3.symm.trans hfn)).symm;exact⟨by kernel_rfl,fun j t ht=>by
    rw[params3]at ht;have hm:t∈[29]:=by simpa using Array.mem_of_getElem? ht
    have hall:([29].all fun u=> !Tryz.prog.wantsStandIn u)=true:=by kernel_rfl
    exact(show Tryz.prog.wantsStandIn t=false by simpa using List.all_eq_true.1 hall t hm)⟩)
  (by kernel_rfl)
end Go.Proofs.YtlhhcnknclnlaaaGreatDoor
