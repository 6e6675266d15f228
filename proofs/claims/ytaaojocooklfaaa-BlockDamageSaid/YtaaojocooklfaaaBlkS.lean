/- The small case of layer 4, and its cuts. -/
import Derived.Test.YtaaojocooklfaaaBlkB
import Derived.Test.YtaaojocooklfaaaPAllx2
import Derived.Test.YtaaojocooklfaaaPAllx3
namespace Go.Proofs.Ytaaojocooklfaaa.Oct
open Go.RowKit Go.Proofs.Ytaaojocooklfaaa.PAll Go.Proofs.YtaaojocooklfaaaW.PrintWords Go.Proofs.YtaaojocooklfaaaW.PrintLast Go.Proofs.YtaaojocooklfaaaW.PrintMore
theorem shown_is (k : Nat) (hk : 200 ≤ k) : cartagelaw04_shown.f k = some true :=
  at_rounds cartagelaw04_shown.mono hk (show cartagelaw04_shown.f 200 = some true by decide +kernel)
theorem mn_lo (l : List Int) (m : Nat) : 0 ≤ mn (l.length : Int) m := by unfold mn; omega
theorem mn_hi (l : List Int) (m : Nat) : mn (l.length : Int) m ≤ (l.length : Int) := by unfold mn; omega
theorem mn_take (l : List Int) (m : Nat) : l.take (mn (l.length : Int) m).toNat = l.take m := by
  by_cases h : l.length ≤ m
  · rw [show (mn (l.length : Int) m).toNat = l.length by unfold mn; omega, List.take_length, List.take_of_length_le h]
  · rw [show (mn (l.length : Int) m).toNat = m by unfold mn; omega]
/-- Texts, cut: to twenty of 1010 bytes. -/
def few (l : List (List Int)) : List (List Int) := (l.take 20).map (·.take 1010)
theorem few_length (l : List (List Int)) : (few l).length ≤ 20 ∧ (few l).length ≤ l.length := by
  unfold few; simp only [List.length_map, List.length_take]; omega
theorem few_mem {l : List (List Int)} (hb : ∀ t ∈ l, Bytes t) : ∀ t ∈ few l, Bytes t ∧ t.length ≤ 1010 := by
  intro t ht
  unfold few at ht
  obtain ⟨s, hs, rfl⟩ := List.mem_map.1 ht
  exact ⟨(hb s (List.mem_of_mem_take hs)).take _, by simp only [List.length_take]; omega⟩
theorem few_loop (l : List (List Int)) (hl : l.length ≤ 9223372036854775807) (d : Nat) : ∀ (k i : Nat), i + d = min l.length 20 → d < k →
    cartagelaw04_few.l0 k l ((l.take i).map (·.take 1010)) (i : Int) = some (few l) := by
  induction d with
  | zero =>
    intro k i hd hk
    obtain ⟨k, rfl⟩ : ∃ m, k = m + 1 := ⟨k - 1, by omega⟩
    have e : (l.take i).map (·.take 1010) = few l := by
      unfold few
      by_cases g : l.length ≤ 20
      · rw [List.take_of_length_le (by omega), List.take_of_length_le g]
      · rw [show i = 20 by omega]
    simp only [cartagelaw04_few.l0]
    rw [e]
    by_cases g : (i : Int) < l.length
    · rw [if_pos g, if_neg (by omega)]
    · rw [if_neg g]
  | succ d ih =>
    intro k i hd hk
    obtain ⟨k, rfl⟩ : ∃ m, k = m + 1 := ⟨k - 1, by omega⟩
    have hlt : i < l.length := by omega
    have e : rd_L1 l (i : Int) = l[i] := by rw [rd_row, List.getD_eq_getElem?_getD, List.getElem?_eq_getElem hlt]; rfl
    have h9 := ih k (i + 1) (by omega) (by omega)
    rw [List.take_succ_eq_append_getElem hlt, List.map_append] at h9
    simp only [cartagelaw04_few.l0]
    rw [if_pos (by omega), if_pos (by omega), Option.bind_some, if_pos (by omega), e, show (1010 : Int) = ((1010 : Nat) : Int) from rfl, if_pos (mn_lo _ 1010), if_pos (mn_hi _ 1010), List.nil_append, mn_take,
      if_pos (by rw [List.length_nil, List.length_take]; omega), if_pos (by rw [List.length_map, List.length_take]; omega), wrap_in (by omega) (by omega), show ((i : Int) + 1) = ((i + 1 : Nat) : Int) by omega]
    exact h9
theorem few_is (l : List (List Int)) (hl : l.length ≤ 9223372036854775807) (k : Nat) (hk : 21 < k) : cartagelaw04_few.f k l = some (few l) := by
  have := few_loop l hl (min l.length 20) k 0 (by omega) (by omega)
  simpa [cartagelaw04_few.f] using this
end Go.Proofs.Ytaaojocooklfaaa.Oct
