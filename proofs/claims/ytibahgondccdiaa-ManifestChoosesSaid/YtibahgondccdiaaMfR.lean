/- What the reference's Right and Encode of manifests come to: the same. -/
import Derived.Test.YtibahgondccdiaaMfA
import Derived.Test.YtibahgondccdiaaBlkR
import Derived.Test.YtibahgondccdiaaPAllx4
import Derived.Test.YtibahgondccdiaaPAllx5
import Derived.Test.YtibahgondccdiaaPAllx6
namespace Go.Proofs.Ytibahgondccdiaa.Oct
open Go.RowKit Go.Proofs.Ytibahgondccdiaa.PAll Go.Proofs.YtibahgondccdiaaW.PrintWords Go.Proofs.YtibahgondccdiaaW.PrintLast Go.Proofs.YtibahgondccdiaaW.PrintMore
theorem ref11_is (a b : Int) : cartageref11_Right.f a b = some (decide ((0 ≤ a ∧ a ≤ 1048576) ∧ (1 ≤ b ∧ b ≤ 4096))) := pr_is a b
theorem ref13_is (k p n : Int) (hp : 0 ≤ p ∧ p < 4294967296) : cartageref13_Right.f k p n = some (decide ((1 ≤ k ∧ k ≤ 5) ∧ (0 ≤ n ∧ n ≤ 1048576) ∧ ((k = 1 ∨ k = 3) → p < n))) := by
  unfold cartageref13_Right.f
  rw [wrap_in (x := p) (by omega) (by omega)]
  repeat' split
  all_goals
    apply congrArg some
    rw [Bool.eq_iff_iff]
    simp only [decide_eq_true_eq, Bool.false_eq_true, false_iff, true_iff]
    omega
theorem ref_right_is {m : Mf} (w : m.Wf) (k : Nat) (hk : 5 < k) : cartageref16_Right.f k m.s m.n m.h m.t m.k m.p = some m.right := by
  obtain ⟨k, rfl⟩ : ∃ q, k = q + 1 := ⟨k - 1, by omega⟩
  unfold cartageref16_Right.f Mf.right
  rw [ref11_is, Option.bind_some]
  have ht : ∀ x0 x1 x2 x3 x4 x5, cartageref16_Right.j0 (k + 1) true x0 x1 x2 x3 x4 x5 = some false := fun x0 x1 x2 x3 x4 x5 => by simp [cartageref16_Right.j0]
  by_cases h2 : m.s = 0
  · rw [if_pos h2, ht, decide_eq_false (fun h => h.2.2.1 h2)]
  rw [if_neg h2]
  by_cases h1 : (0 ≤ m.n ∧ m.n ≤ 1048576) ∧ (1 ≤ m.h ∧ m.h ≤ 4096)
  · rw [decide_eq_true h1, if_pos rfl]
    by_cases h0 : m.t < -1
    · rw [if_pos h0, ht, decide_eq_false (fun h => by have := h.2.2.2.1; omega)]
    rw [if_neg h0]
    by_cases h3 : m.t > 1099511627776
    · rw [decide_eq_true h3, ht, decide_eq_false (fun h => by have := h.2.2.2.1; omega)]
    · rw [decide_eq_false h3]
      simp only [cartageref16_Right.j0]
      rw [if_neg (by simp)]
      by_cases h4 : m.t = -1
      · rw [if_pos h4]
        by_cases h5 : m.k = 0
        · rw [if_pos h5]
          congr 1
          by_cases h6 : m.p = 0
          · rw [decide_eq_true (p := m.Right) ⟨h1.1, h1.2, h2, by omega, fun _ => ⟨h5, h6⟩, fun h => absurd h4 h⟩]
            simp [h6]
          · rw [decide_eq_false (fun h => h6 (h.2.2.2.2.1 h4).2)]
            simp [h6]
        · rw [if_neg h5, decide_eq_false (fun h => h5 (h.2.2.2.2.1 h4).1)]
      · rw [if_neg h4, ref13_is _ _ _ w.p, Option.bind_some]
        congr 1
        by_cases h6 : (1 ≤ m.k ∧ m.k ≤ 5) ∧ (0 ≤ m.n ∧ m.n ≤ 1048576) ∧ ((m.k = 1 ∨ m.k = 3) → m.p < m.n)
        · rw [decide_eq_true h6, decide_eq_true (p := m.Right) ⟨h1.1, h1.2, h2, by omega, fun h => absurd h h4, fun _ => ⟨h6.1.1, h6.1.2, h6.2.2⟩⟩]
        · rw [decide_eq_false h6, decide_eq_false (fun h => h6 (by have := h.2.2.2.2.2 h4; exact ⟨⟨this.1, this.2.1⟩, h1.1, this.2.2⟩))]
  · rw [decide_eq_false h1, if_neg (by simp), ht, decide_eq_false (fun h => h1 ⟨h.1, h.2.1⟩)]
theorem ref_mencode_loop (m : Mf) (d : Nat) : ∀ (k j : Nat), j + d = 6 → 100100 + d < k → cartageref16_Encode.l0 k m.vals (texts (m.vals.take j)) (j : Int) = some (Oct.enc m.text) := by
  induction d with
  | zero =>
    intro k j hj hk
    obtain ⟨k, rfl⟩ : ∃ q, k = q + 1 := ⟨k - 1, by omega⟩
    obtain rfl : j = 6 := by omega
    simp only [cartageref16_Encode.l0]
    rw [if_neg (by omega), show texts (m.vals.take 6) = m.text from rfl, ref_encode_is m.text_bytes (by rw [m.text_length]; omega) k (by omega), Option.bind_some]
  | succ d ih =>
    intro k j hj hk
    obtain ⟨k, rfl⟩ : ∃ q, k = q + 1 := ⟨k - 1, by omega⟩
    have hlt : j < m.vals.length := by show j < 6; omega
    have hl : (texts (m.vals.take j)).length ≤ 48 := by rw [texts_length, List.length_take]; show 8 * min j 6 ≤ 48; omega
    have e : rd m.vals (j : Int) = m.vals[j] := by
      unfold rd
      rw [Int.toNat_natCast, List.getD_eq_getElem?_getD, List.getElem?_eq_getElem hlt]; rfl
    simp only [cartageref16_Encode.l0]
    rw [if_pos (by omega), if_pos (by omega), if_pos (by show (j : Int) < ((6 : Nat) : Int); omega), e, ref_put_is k _ 8 _ (by omega) (by omega), sz8, Option.bind_some, ← texts_take m.vals j hlt, wrap_in (by omega) (by omega), show ((j : Int) + 1) = ((j + 1 : Nat) : Int) by omega]
    exact ih k (j + 1) (by omega) (by omega)
theorem ref_mencode_is (m : Mf) (k : Nat) (hk : 100110 < k) : cartageref16_Encode.f k m.s m.n m.h m.t m.k m.p = some (Oct.enc m.text) :=
  ref_mencode_loop m 6 k 0 rfl (by omega)
end Go.Proofs.Ytibahgondccdiaa.Oct
