/- By any numbers of vertices and shards that may be: each interval has as many vertices as n by shards tells, or one more. No condition. -/
import Derived.Test.YtkkfhgapfcjpdaaPAllx3
import Derived.Test.YtkkfhgapfcjpdaaLib
namespace Go.Proofs.Ytkkfhgapfcjpdaa.Pure
open Go.RowKit Go.Proofs.Ytkkfhgapfcjpdaa.PAll Go.Proofs.YtkkfhgapfcjpdaaW.PrintWords Go.Proofs.YtkkfhgapfcjpdaaW.PrintLast Go.Proofs.YtkkfhgapfcjpdaaW.PrintMore Go.Proofs.Ytkkfhgapfcjpdaa.Lib

theorem even {n s i : Int} (h : may n s) : n / s ≤ B n s (i + 1) - B n s i ∧ B n s (i + 1) - B n s i ≤ n / s + 1 := by
  have hs := h.2.2.1
  unfold B
  have e : (i + 1) * n = i * n + n := by rw [Int.add_mul, Int.one_mul]
  rw [e]
  generalize i * n = x
  have h1 := Int.mul_ediv_add_emod x s
  have h2 := Int.mul_ediv_add_emod n s
  have h3 := Int.mul_ediv_add_emod (x + n) s
  have r1 := Int.emod_nonneg x (show s ≠ 0 by omega)
  have r2 := Int.emod_nonneg n (show s ≠ 0 by omega)
  have r3 := Int.emod_nonneg (x + n) (show s ≠ 0 by omega)
  have l1 := Int.emod_lt_of_pos x (show 0 < s by omega)
  have l2 := Int.emod_lt_of_pos n (show 0 < s by omega)
  have l3 := Int.emod_lt_of_pos (x + n) (show 0 < s by omega)
  generalize x / s = p at *
  generalize n / s = q at *
  generalize (x + n) / s = t at *
  have e2 : s * (t - p - q) = x % s + n % s - (x + n) % s := by rw [Int.mul_sub, Int.mul_sub]; omega
  have g1 : -1 < t - p - q := by
    apply Int.lt_of_mul_lt_mul_left (a := s) _ (by omega)
    omega
  have g2 : t - p - q < 2 := by
    apply Int.lt_of_mul_lt_mul_left (a := s) _ (by omega)
    omega
  omega

theorem PartEven.loop {n s : Int} (h : may n s) (d : Nat) : ∀ (k : Nat) (i : Nat), (i : Int) + d = s → d < k →
    cartagelaw11_PartEven.l0 k n s true (bs n s (s.toNat + 1)) (i : Int) = some true := by
  have hn := h.1
  have hs := h.2.2.1
  have hs2 := h.2.2.2
  have hn2 := h.2.1
  induction d with
  | zero =>
    intro k i hd hk
    obtain ⟨k, rfl⟩ : ∃ m, k = m + 1 := ⟨k - 1, by omega⟩
    simp only [cartagelaw11_PartEven.l0]
    rw [if_neg (by omega)]
  | succ d ih =>
    intro k i hd hk
    obtain ⟨k, rfl⟩ : ∃ m, k = m + 1 := ⟨k - 1, by omega⟩
    have he := even h (i := (i : Int))
    have l1 := B_lo h (show (0 : Int) ≤ i by omega)
    have l2 := B_lo h (show (0 : Int) ≤ (i : Int) + 1 by omega)
    have l3 := B_mono h (show (i : Int) + 1 ≤ s by omega)
    have l4 := B_mono h (show (i : Int) ≤ s by omega)
    rw [B_top h] at l3 l4
    have q0 : 0 ≤ n / s := Int.ediv_nonneg hn (by omega)
    have q1 : n / s ≤ n := Int.ediv_le_self _ hn
    simp only [cartagelaw11_PartEven.l0]
    rw [wrap_in (x := (i : Int) + 1) (by omega) (by omega), bs_length, bs_rd n s _ _ (by omega) (by omega), bs_rd n s _ _ (by omega) (by omega), Int.tdiv_eq_ediv_of_nonneg hn,
      wrap_in (x := B n s _ - _) (by omega) (by omega), wrap_in (x := n / s) (by omega) (by omega), wrap_in (x := n / s + 1) (by omega) (by omega)]
    rw [if_pos (by omega), if_pos (by omega), if_pos (by omega), if_pos (by omega), if_pos (by omega), if_neg (by omega), if_neg (by omega), if_neg (by omega), show ((i : Int) + 1) = ((i + 1 : Nat) : Int) by omega]
    exact ih k (i + 1) (by omega) (by omega)

theorem PartEven : cartagelaw11_PartEven.Pure := by
  intro a0 a1 _ _
  refine ⟨5000, ?_⟩
  unfold cartagelaw11_PartEven.f
  have h0 := and_i64 a0 1048575 (by omega)
  have h1 := and_mod a1 65535 (by omega) 4096 (by omega)
  simp only [Int.cast_ofNat_Int] at h0 h1
  generalize bits .and .i64 a0 1048575 = n at h0 ⊢
  generalize Int.tmod (bits .and .i64 a1 65535) 4096 = q at h1 ⊢
  rw [Int.tmod_eq_emod_of_nonneg h0.1, Int.emod_eq_of_lt h0.1 (by omega), wrap_in (x := 1 + q) (by omega) (by omega)]
  obtain ⟨s, hs⟩ : ∃ s, 1 + q = s := ⟨_, rfl⟩
  rw [hs, wrap_in (x := s + 1) (by omega) (by omega)]
  have h : may n s := ⟨by omega, by omega, by omega, by omega⟩
  rw [shown_is _ (by omega), bounds_is h _ (by omega)]
  simp only [Option.bind_some]
  rw [bs_length, if_pos trivial]
  rw [show (5000 : Nat) = 4999 + 1 from rfl]
  simp only [cartagelaw11_PartEven.j0]
  rw [if_neg (by simp; omega)]
  exact PartEven.loop h s.toNat 4999 0 (by omega) (by omega)

end Go.Proofs.Ytkkfhgapfcjpdaa.Pure
