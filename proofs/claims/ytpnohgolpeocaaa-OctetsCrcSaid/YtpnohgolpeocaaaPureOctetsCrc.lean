/- Crc answers as the document's reference does, of any bytes (five hundred). No condition. -/
import Derived.Test.YtpnohgolpeocaaaOctS
import Derived.Test.YtpnohgolpeocaaaOctR
import Derived.Test.YtpnohgolpeocaaaPAllx4
namespace Go.Proofs.Ytpnohgolpeocaaa.Pure
open Go.RowKit Go.Proofs.Ytpnohgolpeocaaa.PAll Go.Proofs.YtpnohgolpeocaaaW.PrintWords Go.Proofs.YtpnohgolpeocaaaW.PrintLast Go.Proofs.YtpnohgolpeocaaaW.PrintMore Go.Proofs.Ytpnohgolpeocaaa.Oct

theorem OctetsCrc : cartagelaw01_OctetsCrc.Pure := by
  intro l _ _ hw
  have hb := bytes_of_wf hw
  refine ⟨6000, ?_⟩
  unfold cartagelaw01_OctetsCrc.f
  have h5 : (l.take 500).length ≤ 500 := by rw [List.length_take]; omega
  rw [shown_is _ (by omega)]
  simp only [Option.bind_some]
  rw [show (500 : Int) = ((500 : Nat) : Int) from rfl, if_pos (mn_lo l 500), if_pos (mn_hi l 500), mn_take, if_pos trivial, crc_is (hb.take 500) (by omega) _ (by omega), ref_crc_is (hb.take 500) (by omega) _ (by omega)]
  simp
end Go.Proofs.Ytpnohgolpeocaaa.Pure
