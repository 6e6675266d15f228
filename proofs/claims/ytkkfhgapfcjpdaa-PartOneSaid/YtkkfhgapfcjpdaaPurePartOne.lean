/- By one shard all vertices lie in interval 0; by as many as vertices each has its own. No condition. -/
import Derived.Test.YtkkfhgapfcjpdaaPAllx3
import Derived.Test.YtkkfhgapfcjpdaaLib
namespace Go.Proofs.Ytkkfhgapfcjpdaa.Pure
open Go.RowKit Go.Proofs.Ytkkfhgapfcjpdaa.PAll Go.Proofs.YtkkfhgapfcjpdaaW.PrintWords Go.Proofs.YtkkfhgapfcjpdaaW.PrintLast Go.Proofs.YtkkfhgapfcjpdaaW.PrintMore Go.Proofs.Ytkkfhgapfcjpdaa.Lib

theorem PartOne : cartagelaw11_PartOne.Pure := by
  intro a0 a1 _ _
  refine ⟨10, ?_⟩
  unfold cartagelaw11_PartOne.f
  have h0 := and_mod a0 65535 (by omega) 4000 (by omega)
  have h1 := fun q hq => and_mod a1 65535 (by omega) q hq
  simp only [Int.cast_ofNat_Int] at h0 h1
  generalize Int.tmod (bits .and .i64 a0 65535) 4000 = p at h0 ⊢
  rw [wrap_in (x := 1 + p) (by omega) (by omega)]
  obtain ⟨n, hn⟩ : ∃ s, 1 + p = s := ⟨_, rfl⟩
  rw [hn]
  have h2 := h1 n (by omega)
  generalize Int.tmod (bits .and .i64 a1 65535) n = v at h2 ⊢
  have m1 : may n 1 := ⟨by omega, by omega, by omega, by omega⟩
  have m2 : may n n := ⟨by omega, by omega, by omega, by omega⟩
  have e1 : at_ n 1 v = 0 := by
    unfold at_; rw [Int.mul_one]; exact Int.ediv_eq_zero_of_lt (by omega) (by omega)
  have e2 : at_ n n v = v := by
    have b1 := at_iff m2 h2.1 h2.2 v
    have b2 := at_iff m2 h2.1 h2.2 (v + 1)
    unfold B at b1 b2
    rw [Int.mul_ediv_cancel _ (by omega)] at b1 b2
    omega
  rw [shown_is _ (by omega), of_is m1 h2.1 h2.2, of_is m2 h2.1 h2.2, e1, e2]
  simp only [Option.bind_some]
  rw [if_neg (by omega)]
  simp

end Go.Proofs.Ytkkfhgapfcjpdaa.Pure
