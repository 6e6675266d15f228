/- The Crc of bytes with their own Crc behind them, by four bytes, is one and the same. No condition. -/
import Derived.Test.YtpnohgolpeocaaaOctS
import Derived.Test.YtpnohgolpeocaaaPAllx6
namespace Go.Proofs.Ytpnohgolpeocaaa.Pure
open Go.RowKit Go.Proofs.Ytpnohgolpeocaaa.PAll Go.Proofs.YtpnohgolpeocaaaW.PrintWords Go.Proofs.YtpnohgolpeocaaaW.PrintLast Go.Proofs.YtpnohgolpeocaaaW.PrintMore Go.Proofs.Ytpnohgolpeocaaa.Oct

theorem OctetsRuns : cartagelaw01_OctetsRuns.Pure := by
  intro l _ _ hw
  have hb := (bytes_of_wf hw).take 500
  refine ⟨6000, ?_⟩
  unfold cartagelaw01_OctetsRuns.f
  have h5 : (l.take 500).length ≤ 500 := by rw [List.length_take]; omega
  rw [shown_is _ (by omega)]
  simp only [Option.bind_some]
  rw [show (500 : Int) = ((500 : Nat) : Int) from rfl, if_pos (mn_lo l 500), if_pos (mn_hi l 500), mn_take, if_pos trivial]
  generalize l.take 500 = a at hb h5 ⊢
  have hc := crc_lt hb
  rw [crc_is hb (by omega) _ (by omega)]
  simp only [Option.bind_some]
  rw [u64_in (by omega) (by omega), put_is _ _ _ _ (by omega) (by omega), sz_of (by omega) (by omega)]
  simp only [Option.bind_some]
  rw [show (4 : Int).toNat = 4 from rfl, crc_is (hb.append (le_bytes _ _)) (by rw [List.length_append, le_length]; omega) _ (by rw [List.length_append, le_length]; omega), crc_runs hb]
  rfl
end Go.Proofs.Ytpnohgolpeocaaa.Pure
