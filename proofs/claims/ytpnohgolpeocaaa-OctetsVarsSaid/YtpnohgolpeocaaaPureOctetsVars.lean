/- PutVar and GetVar answer as the document's reference does, of any bytes (a hundred) and number. No condition. -/
import Derived.Test.YtpnohgolpeocaaaOctS
import Derived.Test.YtpnohgolpeocaaaOctW
import Derived.Test.YtpnohgolpeocaaaPAllx4
namespace Go.Proofs.Ytpnohgolpeocaaa.Pure
open Go.RowKit Go.Proofs.Ytpnohgolpeocaaa.PAll Go.Proofs.YtpnohgolpeocaaaW.PrintWords Go.Proofs.YtpnohgolpeocaaaW.PrintLast Go.Proofs.YtpnohgolpeocaaaW.PrintMore Go.Proofs.Ytpnohgolpeocaaa.Oct

theorem OctetsVars : cartagelaw01_OctetsVars.Pure := by
  intro l n _ _ hw hn
  have hb := (bytes_of_wf hw).take 100
  have hn := wf_u64 hn
  refine ⟨200, ?_⟩
  unfold cartagelaw01_OctetsVars.f
  have h5 : (l.take 100).length ≤ 100 := by rw [List.length_take]; omega
  rw [shown_is _ (by omega)]
  simp only [Option.bind_some]
  rw [show (100 : Int) = ((100 : Nat) : Int) from rfl, if_pos (mn_lo l 100), if_pos (mn_hi l 100), mn_take]
  generalize l.take 100 = a at hb h5 ⊢
  rw [getvar_is hb (by omega) _ (by omega), ref_getvar_is hb (by omega) _ (by omega)]
  simp only [Option.bind_some, if_true]
  rw [putvar_is _ _ _ hn.1 hn.2 (by omega) (by omega), ref_putvar_is _ _ _ hn.1 hn.2 (by omega) (by omega)]
  simp
end Go.Proofs.Ytpnohgolpeocaaa.Pure
