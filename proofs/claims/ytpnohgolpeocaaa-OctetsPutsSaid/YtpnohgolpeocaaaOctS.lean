/- What the small case of layer 1 comes to, and cuts to a bound. -/
import Derived.Test.YtpnohgolpeocaaaOctB
import Derived.Test.YtpnohgolpeocaaaPAllx2
namespace Go.Proofs.Ytpnohgolpeocaaa.Oct
open Go.RowKit Go.Proofs.Ytpnohgolpeocaaa.PAll Go.Proofs.YtpnohgolpeocaaaW.PrintWords Go.Proofs.YtpnohgolpeocaaaW.PrintLast Go.Proofs.YtpnohgolpeocaaaW.PrintMore
theorem shown_is (k : Nat) (hk : 120 ≤ k) : cartagelaw01_shown.f k = some true :=
  at_rounds cartagelaw01_shown.mono hk (show cartagelaw01_shown.f 120 = some true by decide +kernel)
theorem mn_lo (l : List Int) (m : Nat) : 0 ≤ mn (l.length : Int) m := by unfold mn; omega
theorem mn_hi (l : List Int) (m : Nat) : mn (l.length : Int) m ≤ (l.length : Int) := by unfold mn; omega
theorem mn_take (l : List Int) (m : Nat) : l.take (mn (l.length : Int) m).toNat = l.take m := by
  by_cases h : l.length ≤ m
  · rw [show (mn (l.length : Int) m).toNat = l.length by unfold mn; omega, List.take_length, List.take_of_length_le h]
  · rw [show (mn (l.length : Int) m).toNat = m by unfold mn; omega]
theorem wf_u64 {x : Int} (h : (Lit.int .u64 x).wf = true) : 0 ≤ x ∧ x < 18446744073709551616 := by
  simp [Lit.wf, IntKind.min, IntKind.max, IntKind.bits, IntKind.signed] at h
  omega
theorem and_i64 (x : Int) (m : Nat) (hm : m < 9223372036854775808) : 0 ≤ bits .and .i64 x m ∧ bits .and .i64 x m ≤ m := by
  have e : bits .and .i64 x m = wrap64 (((BitVec.ofInt 64 x &&& BitVec.ofInt 64 (m : Int)).toNat : Nat) : Int) := by
    rw [← i64_w]; rfl
  have hb : (BitVec.ofInt 64 x &&& BitVec.ofInt 64 (m : Int)).toNat ≤ m := by
    rw [BitVec.toNat_and, BitVec.ofInt_natCast, BitVec.toNat_ofNat]
    exact Nat.le_trans Nat.and_le_right (Nat.mod_le _ _)
  rw [e]
  generalize (BitVec.ofInt 64 x &&& BitVec.ofInt 64 (m : Int)).toNat = q at hb
  rw [wrap_in (by omega) (by omega)]
  omega
/-- 'x & m', counted round. -/
theorem and_mod (x : Int) (m : Nat) (hm : m < 9223372036854775808) (q : Int) (hq : 0 < q) : 0 ≤ Int.tmod (bits .and .i64 x m) q ∧ Int.tmod (bits .and .i64 x m) q < q := by
  have := (and_i64 x m hm).1
  rw [Int.tmod_eq_emod_of_nonneg this]
  exact ⟨Int.emod_nonneg _ (by omega), Int.emod_lt_of_pos _ hq⟩
theorem p8 (s : Nat) : (2 : Int) ^ (8 * s) = 256 ^ s := by rw [Int.pow_mul]; rfl
theorem p8_le {s : Nat} (hs : s ≤ 7) : (1 : Int) ≤ 2 ^ (8 * s) ∧ (2 : Int) ^ (8 * s) ≤ 72057594037927936 := by
  have h := Nat.pow_le_pow_right (show 0 < 2 by decide) (show 8 * s ≤ 56 by omega)
  rw [show (2 : Nat) ^ 56 = 72057594037927936 from rfl] at h
  have h' := Int.ofNat_le.2 h
  rw [Int.natCast_pow] at h'
  have h0 : (0 : Int) < 2 ^ (8 * s) := Int.pow_pos (by omega)
  exact ⟨by omega, h'⟩
theorem mod8 {x : Int} (h0 : 0 ≤ x) (h1 : x < 18446744073709551616) : x % 256 ^ 8 = x := by
  have e : (256 : Int) ^ 8 = 18446744073709551616 := by decide +kernel
  rw [e]; omega
/-- The lowest s bytes of a number, by a mask. -/
theorem mask_is {x : Int} (h0 : 0 ≤ x) (h1 : x < 18446744073709551616) {s : Nat} (hs : s ≤ 7) :
    bits .and .u64 x (IntKind.u64.wrap ((shl .u64 1 (IntKind.u64.wrap (wrap64 (8 * (s : Int))))) - 1)) = x % 256 ^ s := by
  have hp := p8_le hs
  rw [wrap_in (by omega) (by omega), u64_in (x := 8 * (s : Int)) (by omega) (by omega)]
  unfold shl
  rw [show (8 * (s : Int)).toNat = 8 * s by omega, show min (8 * s) IntKind.u64.bits = 8 * s from Nat.min_eq_left (show 8 * s ≤ 64 by omega), Int.one_mul, u64_in (x := 2 ^ (8 * s)) (by omega) (by omega), u64_in (x := 2 ^ (8 * s) - 1) (by omega) (by omega),
    bits_mask .u64 64 (Nat.le_refl _) (fun n a b => u64_in a (by simpa using b)) (8 * s) (by omega) x h0 (by simpa using h1), p8]
end Go.Proofs.Ytpnohgolpeocaaa.Oct
