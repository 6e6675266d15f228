/- What bytes begin with, read as a number by digits, is told by just these bytes. No condition. -/
import Derived.Test.YtpnohgolpeocaaaOctS
import Derived.Test.YtpnohgolpeocaaaOctV
import Derived.Test.YtpnohgolpeocaaaPAllx6
namespace Go.Proofs.Ytpnohgolpeocaaa.Pure
open Go.RowKit Go.Proofs.Ytpnohgolpeocaaa.PAll Go.Proofs.YtpnohgolpeocaaaW.PrintWords Go.Proofs.YtpnohgolpeocaaaW.PrintLast Go.Proofs.YtpnohgolpeocaaaW.PrintMore Go.Proofs.Ytpnohgolpeocaaa.Oct

theorem OctetsOne : cartagelaw01_OctetsOne.Pure := by
  intro l _ _ hw
  have hb := (bytes_of_wf hw).take 20
  refine ⟨200, ?_⟩
  unfold cartagelaw01_OctetsOne.f
  have h5 : (l.take 20).length ≤ 20 := by rw [List.length_take]; omega
  rw [shown_is _ (by omega)]
  simp only [Option.bind_some]
  rw [show (20 : Int) = ((20 : Nat) : Int) from rfl, if_pos (mn_lo l 20), if_pos (mn_hi l 20), mn_take]
  generalize l.take 20 = a at hb h5 ⊢
  rw [getvar_is hb (by omega) _ (by omega), res0]
  cases hg : gp 0 (a.take 10) with
  | none => simp
  | some p =>
    obtain ⟨n, s⟩ := p
    obtain ⟨h1, _, h3, h4⟩ := gp_nonneg _ 0 n s (hb.take 10) hg
    obtain ⟨e1, e2⟩ := vd_gp 9 _ 0 n s (hb.take 10) rfl (by rw [List.length_take]; omega) hg
    rw [show (2 : Int) * 128 ^ 9 = 18446744073709551616 from rfl] at e2
    have h6 : s ≤ a.length ∧ s ≤ 10 := by rw [List.length_take] at h4; omega
    simp only [Option.bind_some, if_true]
    rw [if_pos (by omega), if_pos (by omega), putvar_is _ _ _ h1 e2 (by simp) (by omega)]
    simp only [Option.bind_some, List.nil_append]
    rw [if_pos (by omega), e1, Int.toNat_natCast, List.take_take, Nat.min_eq_left h6.2]
    simp
end Go.Proofs.Ytpnohgolpeocaaa.Pure
