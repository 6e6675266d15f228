/- What the reference's Join comes to. Conditions: bytes; rows within a bound. -/
import Derived.Test.YtaaojocooklfaaaBlkB
import Derived.Test.YtaaojocooklfaaaBlkR
import Derived.Test.YtaaojocooklfaaaPAllx4
namespace Go.Proofs.Ytaaojocooklfaaa.Oct
open Go.RowKit Go.Proofs.Ytaaojocooklfaaa.PAll Go.Proofs.YtaaojocooklfaaaW.PrintWords Go.Proofs.YtaaojocooklfaaaW.PrintLast Go.Proofs.YtaaojocooklfaaaW.PrintMore
theorem ref_join_loop {l : List (List Int)} (hb : ∀ t ∈ l, Bytes t) (hl : l.length ≤ 100000) (d : Nat) : ∀ (k i : Nat), i + d = l.length → 90200 + d < k → (∀ t ∈ l.take i, t.length ≤ 1000) →
    cartageref04_Join.l0 k l (encs (l.take i)) (i : Int) = some (if ∀ t ∈ l.drop i, t.length ≤ 1000 then (encs l, true) else ([], false)) := by
  induction d with
  | zero =>
    intro k i hd hk hi
    obtain ⟨k, rfl⟩ : ∃ m, k = m + 1 := ⟨k - 1, by omega⟩
    simp only [cartageref04_Join.l0]
    rw [if_neg (by omega), List.drop_of_length_le (by omega), List.take_of_length_le (by omega), if_pos (by simp)]
  | succ d ih =>
    intro k i hd hk hi
    obtain ⟨k, rfl⟩ : ∃ m, k = m + 1 := ⟨k - 1, by omega⟩
    have hlt : i < l.length := by omega
    have hx := hb _ (List.getElem_mem hlt)
    have e : rd_L1 l (i : Int) = l[i] := by rw [rd_row, List.getD_eq_getElem?_getD, List.getElem?_eq_getElem hlt]; rfl
    simp only [cartageref04_Join.l0]
    rw [if_pos (by omega), if_pos (by omega), e, List.drop_eq_getElem_cons hlt]
    by_cases g : l[i].length ≤ 1000
    · have hle := encs_length_le hi
      rw [List.length_take] at hle
      have hm : min i l.length ≤ 100000 := by omega
      have h9 := ih k (i + 1) (by omega) (by omega) (fun t ht => by
        rw [List.take_succ_eq_append_getElem hlt] at ht
        rcases List.mem_append.1 ht with ht | ht
        · exact hi t ht
        · rw [List.mem_singleton.1 ht]; exact g)
      rw [if_neg (by omega), ref_encode_is hx (by omega) k (by omega)]
      simp only [Option.bind_some]
      rw [if_pos (by rw [enc_length]; omega), wrap_in (by omega) (by omega), show ((i : Int) + 1) = ((i + 1 : Nat) : Int) by omega]
      have e2 : encs (l.take (i + 1)) = encs (l.take i) ++ enc l[i] := by
        rw [List.take_succ_eq_append_getElem hlt, encs_append]; simp [encs]
      rw [← e2, h9]
      congr 1
      by_cases q : ∀ t ∈ l.drop (i + 1), t.length ≤ 1000
      · rw [if_pos q, if_pos (fun t ht => by
          rcases List.mem_cons.1 ht with rfl | ht
          · exact g
          · exact q t ht)]
      · rw [if_neg q, if_neg (fun h => q fun t ht => h t (List.mem_cons_of_mem _ ht))]
    · rw [if_pos (by omega), if_neg (fun h => g (h _ List.mem_cons_self))]
theorem ref_join_is {l : List (List Int)} (hb : ∀ t ∈ l, Bytes t) (hl : l.length ≤ 100000) (k : Nat) (hk : 90200 + l.length < k) : cartageref04_Join.f k l = some (if ∀ t ∈ l, t.length ≤ 1000 then (encs l, true) else ([], false)) := by
  have := ref_join_loop hb hl l.length k 0 (by omega) hk (by simp)
  simpa [cartageref04_Join.f, encs_nil] using this
end Go.Proofs.Ytaaojocooklfaaa.Oct
