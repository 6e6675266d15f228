/- What was put by digits is got, with how many bytes it has; a byte less is none. No condition. -/
import Derived.Test.YtpnohgolpeocaaaOctS
import Derived.Test.YtpnohgolpeocaaaOctV
import Derived.Test.YtpnohgolpeocaaaPAllx5
namespace Go.Proofs.Ytpnohgolpeocaaa.Pure
open Go.RowKit Go.Proofs.Ytpnohgolpeocaaa.PAll Go.Proofs.YtpnohgolpeocaaaW.PrintWords Go.Proofs.YtpnohgolpeocaaaW.PrintLast Go.Proofs.YtpnohgolpeocaaaW.PrintMore Go.Proofs.Ytpnohgolpeocaaa.Oct

theorem OctetsVarBack : cartagelaw01_OctetsVarBack.Pure := by
  intro n l1 hn _ _ hw1
  have hb := (bytes_of_wf hw1).take 50
  have hn := wf_u64 hn
  refine ⟨201, ?_⟩
  unfold cartagelaw01_OctetsVarBack.f
  have h6 : (l1.take 50).length ≤ 50 := by rw [List.length_take]; omega
  have hv := vd_length 9 n
  have hvb := vd_bytes 9 n
  rw [shown_is _ (by omega)]
  simp only [Option.bind_some]
  rw [show (50 : Int) = ((50 : Nat) : Int) from rfl, if_pos (mn_lo l1 50), if_pos (mn_hi l1 50), mn_take]
  generalize l1.take 50 = b at hb h6 ⊢
  rw [putvar_is _ _ _ hn.1 hn.2 (by simp) (by omega)]
  simp only [Option.bind_some, List.nil_append]
  rw [if_neg (by omega), decide_eq_false (by omega), show (201 : Nat) = 200 + 1 from rfl]
  simp only [cartagelaw01_OctetsVarBack.j0]
  have e1 : gp 0 ((vd 9 n ++ b).take 10) = some (n, (vd 9 n).length) := by
    rw [List.take_append, List.take_of_length_le hv.2]
    exact gp_vd _ 9 n 0 rfl hn.1 (by omega) (by rw [show (2 : Int) * 128 ^ 9 = 18446744073709551616 from rfl]; exact hn.2)
  obtain ⟨ds, c, e2, h2, _, _⟩ := vd_high 9 n hn.1
  have hdl : (vd 9 n).length = ds.length + 1 := by rw [e2]; simp
  have e3 : gp 0 (((vd 9 n).take ((vd 9 n).length - 1)).take 10) = none := by
    rw [hdl, e2, Nat.add_sub_cancel, List.take_left]
    exact gp_high _ 0 (fun d hd => h2 d (List.mem_of_mem_take hd))
  simp only [Option.bind_some, List.nil_append]
  rw [if_neg (by simp), if_pos (by simp; omega), if_pos (by omega), getvar_is (hvb.append hb) (by rw [List.length_append]; omega) _ (by omega), res0, e1]
  simp only [Option.bind_some]
  rw [wrap_in (by omega) (by omega), if_pos (by omega), if_pos (by omega), show (((vd 9 n).length : Int) - 1).toNat = (vd 9 n).length - 1 by omega,
    getvar_is (hvb.take _) (by rw [List.length_take]; omega) _ (by omega), res0, e3]
  simp
end Go.Proofs.Ytpnohgolpeocaaa.Pure
