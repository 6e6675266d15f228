/- TopLeast: the tied card of the law, over its row. Conditions: none but those of the card. -/
import Derived.Test.YtlhhcnknclnlaaaGreatDoorTie
import Derived.Test.YtlhhcnknclnlaaaGreatDoorCards
import Derived.SevenTiedAt
import Derived.Test.YtlhhcnknclnlaaaGreatDoorS14
set_option linter.all false
set_option maxRecDepth 100000
set_option maxHeartbeats 16000000
open Go.Proofs.Tryz
namespace Go.Proofs.YtlhhcnknclnlaaaGreatDoor
open Go
theorem topLeast_card:Rows.TopLeastCardSaid:=
 Claim7.holds_tied_plain_at .later [] [.data,.data,.data,.sentinel,.sentinel,.funcs] true (true,"f627adcdd60c2ff565e73f5d5018a8f55bd06cdfe81cf7676824c80a73eec173") true
  topLeast.Nc (fun _ h=>by cases h) (by kernel_rfl) (fun _ h=>by cases h) topLeast_row_tie rfl ⟨rfl,rfl⟩ (by kernel_rfl) rfl
  (fun f fn hf hfn=>by
   obtain rfl:f=4:=Option.some.inj ((show Tryz.prog.funcNamed "cartage/cartagetop.TopLeast" =some 4 by kernel_rfl).symm.trans hf)|>.symm;obtain rfl:fn=Tryz.f4:=(Option.some.inj (func4.symm.trans hfn)).symm;exact⟨by kernel_rfl,fun j t ht=>by
    rw[params4]at ht;have hm:t∈[29]:=by simpa using Array.mem_of_getElem? ht
    have hall:([29].all fun u=> !Tryz.prog.wantsStandIn u)=true:=by kernel_rfl
    exact(show Tryz.prog.wantsStandIn t=false by simpa using List.all_eq_true.1 hall t hm)⟩)
  (by kernel_rfl)
end Go.Proofs.YtlhhcnknclnlaaaGreatDoor
