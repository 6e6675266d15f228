/- A greater vertex lies in no lesser interval. No condition. -/
import Derived.Test.YtkkfhgapfcjpdaaPAllx4
import Derived.Test.YtkkfhgapfcjpdaaLib
namespace Go.Proofs.Ytkkfhgapfcjpdaa.Pure
open Go.RowKit Go.Proofs.Ytkkfhgapfcjpdaa.PAll Go.Proofs.YtkkfhgapfcjpdaaW.PrintWords Go.Proofs.YtkkfhgapfcjpdaaW.PrintLast Go.Proofs.YtkkfhgapfcjpdaaW.PrintMore Go.Proofs.Ytkkfhgapfcjpdaa.Lib

theorem PartRises : cartagelaw11_PartRises.Pure := by
  intro a0 a1 a2 a3 _ _ _ _
  refine ⟨10, ?_⟩
  unfold cartagelaw11_PartRises.f
  have h0 := and_mod a0 1048575 (by omega) 1048576 (by omega)
  have h1 := and_mod a1 65535 (by omega) 4096 (by omega)
  have h2 := fun q hq => and_mod a2 16777215 (by omega) q hq
  have h3 := fun q hq => and_mod a3 16777215 (by omega) q hq
  simp only [Int.cast_ofNat_Int] at h0 h1 h2 h3
  generalize Int.tmod (bits .and .i64 a0 1048575) 1048576 = p at h0 ⊢
  generalize Int.tmod (bits .and .i64 a1 65535) 4096 = q at h1 ⊢
  rw [wrap_in (x := 1 + p) (by omega) (by omega), wrap_in (x := 1 + q) (by omega) (by omega)]
  obtain ⟨n, hn⟩ : ∃ s, 1 + p = s := ⟨_, rfl⟩
  obtain ⟨s, hs⟩ : ∃ s, 1 + q = s := ⟨_, rfl⟩
  rw [hn, hs]
  have h4 := h2 n (by omega)
  have h5 := h3 n (by omega)
  generalize Int.tmod (bits .and .i64 a2 16777215) n = a at h4 ⊢
  generalize Int.tmod (bits .and .i64 a3 16777215) n = b at h5 ⊢
  have h : may n s := ⟨by omega, by omega, by omega, by omega⟩
  obtain ⟨u, hu⟩ : ∃ u, mn a b = u := ⟨_, rfl⟩
  obtain ⟨v, hv⟩ : ∃ u, mx a b = u := ⟨_, rfl⟩
  have huv : u ≤ v ∧ 0 ≤ u ∧ v < n := by rw [← hu, ← hv]; unfold mn mx; omega
  rw [hu, hv, shown_is _ (by omega), of_is h huv.2.1 (by omega), of_is h (by omega) huv.2.2]
  have a0 := at_lo h huv.2.1 (show u < n by omega)
  have a1 := at_hi h (show 0 ≤ v by omega) huv.2.2
  have a2 := (at_iff h (show 0 ≤ v by omega) huv.2.2 (at_ n s u)).2 (by
    have := (at_iff h huv.2.1 (show u < n by omega) (at_ n s u)).1 (by omega)
    omega)
  simp only [Option.bind_some]
  rw [if_neg (by omega), if_pos trivial, if_pos trivial, if_pos trivial, if_pos a2, if_pos a0, decide_eq_true a1]

end Go.Proofs.Ytkkfhgapfcjpdaa.Pure
