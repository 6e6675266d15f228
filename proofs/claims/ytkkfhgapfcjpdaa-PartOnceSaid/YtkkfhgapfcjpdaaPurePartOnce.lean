/- Of each vertex of up to two thousand, by up to two hundred shards: it lies in the interval that Of tells. No condition. -/
import Derived.Test.YtkkfhgapfcjpdaaPAllx3
import Derived.Test.YtkkfhgapfcjpdaaLib
namespace Go.Proofs.Ytkkfhgapfcjpdaa.Pure
open Go.RowKit Go.Proofs.Ytkkfhgapfcjpdaa.PAll Go.Proofs.YtkkfhgapfcjpdaaW.PrintWords Go.Proofs.YtkkfhgapfcjpdaaW.PrintLast Go.Proofs.YtkkfhgapfcjpdaaW.PrintMore Go.Proofs.Ytkkfhgapfcjpdaa.Lib

theorem PartOnce.loop {n s : Int} (h : may n s) (d : Nat) : ∀ (k : Nat) (i : Nat), (i : Int) + d = n → d < k →
    cartagelaw11_PartOnce.l0 k n s true (bs n s (s.toNat + 1)) (i : Int) = some true := by
  have hs := h.2.2.1
  have hs2 := h.2.2.2
  have hn2 := h.2.1
  induction d with
  | zero =>
    intro k i hd hk
    obtain ⟨k, rfl⟩ : ∃ m, k = m + 1 := ⟨k - 1, by omega⟩
    simp only [cartagelaw11_PartOnce.l0]
    rw [if_neg (by omega)]
  | succ d ih =>
    intro k i hd hk
    obtain ⟨k, rfl⟩ : ∃ m, k = m + 1 := ⟨k - 1, by omega⟩
    have h0 : (0 : Int) ≤ i := by omega
    have h1 : (i : Int) < n := by omega
    have a0 := at_lo h h0 h1
    have a1 := at_hi h h0 h1
    have b0 := (at_iff h h0 h1 (at_ n s i)).1 (by omega)
    have b1 := mt (at_iff h h0 h1 (at_ n s i + 1)).2 (by omega)
    simp only [cartagelaw11_PartOnce.l0]
    rw [if_pos h1, of_is h h0 h1]
    simp only [Option.bind_some]
    rw [wrap_in (x := at_ n s i + 1) (by omega) (by omega), bs_length, bs_rd n s _ _ a0 (by omega), bs_rd n s _ _ (by omega) (by omega)]
    rw [if_pos trivial, if_neg (by omega), if_neg (by omega), if_pos a0, if_pos (by omega), if_neg (by omega), if_pos (by omega), if_pos (by omega), if_neg (by omega),
      wrap_in (by omega) (by omega), show ((i : Int) + 1) = ((i + 1 : Nat) : Int) by omega]
    exact ih k (i + 1) (by omega) (by omega)

theorem PartOnce : cartagelaw11_PartOnce.Pure := by
  intro a0 a1 _ _
  refine ⟨3000, ?_⟩
  unfold cartagelaw11_PartOnce.f
  have h0 := and_mod a0 65535 (by omega) 2001 (by omega)
  have h1 := and_mod a1 65535 (by omega) 200 (by omega)
  simp only [Int.cast_ofNat_Int] at h0 h1
  generalize Int.tmod (bits .and .i64 a0 65535) 2001 = n at h0 ⊢
  generalize Int.tmod (bits .and .i64 a1 65535) 200 = q at h1 ⊢
  rw [wrap_in (x := 1 + q) (by omega) (by omega)]
  obtain ⟨s, hs⟩ : ∃ s, 1 + q = s := ⟨_, rfl⟩
  rw [hs, wrap_in (x := s + 1) (by omega) (by omega)]
  have h : may n s := ⟨by omega, by omega, by omega, by omega⟩
  rw [shown_is _ (by omega), bounds_is h _ (by omega)]
  simp only [Option.bind_some]
  rw [bs_length, bs_rd n s _ _ (by omega) (by omega), bs_rd n s _ _ (by omega) (by omega), B_zero, B_top h]
  rw [if_pos trivial, if_pos (by omega), if_pos (by omega), if_pos rfl, if_pos (by omega), if_pos (by omega)]
  rw [show (3000 : Nat) = 2999 + 1 from rfl]
  simp only [cartagelaw11_PartOnce.j0]
  rw [if_neg (by simp)]
  exact PartOnce.loop h n.toNat 2999 0 (by omega) (by omega)

end Go.Proofs.Ytkkfhgapfcjpdaa.Pure
