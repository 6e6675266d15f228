/- What the reference's Encode and Decode of blocks come to: the same. Conditions: bytes; rows within the bound. -/
import Derived.Test.YtaohmpblmlkioaaBlkA
import Derived.Test.YtaohmpblmlkioaaOctP
import Derived.Test.YtaohmpblmlkioaaOctR
import Derived.Test.YtaohmpblmlkioaaPAllx5
import Derived.Test.YtaohmpblmlkioaaPAllx7
namespace Go.Proofs.Ytaohmpblmlkioaa.Oct
open Go.RowKit Go.Proofs.Ytaohmpblmlkioaa.PAll Go.Proofs.YtaohmpblmlkioaaW.PrintWords Go.Proofs.YtaohmpblmlkioaaW.PrintLast Go.Proofs.YtaohmpblmlkioaaW.PrintMore

theorem ref_encode_is {l : List Int} (hb : Bytes l) (hl : l.length ≤ 9000) (k : Nat) (hk : 90100 < k) : cartageref04_Encode.f k l = some (enc l) := by
  have hc := crc_lt (hd_bytes hb)
  have hh := hd_length l
  unfold cartageref04_Encode.f
  rw [u64_nat (by omega), ref_put_is k [] 2 _ (by simp) (by omega), sz2]
  simp only [Option.bind_some, List.nil_append, le_length]
  rw [if_pos (by omega)]
  rw [show le 2 (l.length : Int) ++ l = hd l from rfl, ref_crc_is (hd_bytes hb) (by omega) k (by omega)]
  simp only [Option.bind_some]
  rw [u64_nat (by omega), ref_put_is k _ 4 _ (by omega) (by omega), sz4]
  rfl

/-- The sum is right just where the whole text's block stands. -/
theorem enc_sum {b : List Int} (hb : Bytes b) {n : Nat} (hn : n ≤ 1000) (hl : n + 6 ≤ b.length) (h2 : num (b.take 2) = n) :
    enc ((b.drop 2).take n) = b.take (n + 6) ↔ num ((b.drop (n + 2)).take 4) = (crc (b.take (n + 2)) : Int) := by
  have hlen : ((b.drop 2).take n).length = n := by simp only [List.length_take, List.length_drop]; omega
  have h1 : hd ((b.drop 2).take n) = b.take (n + 2) := by
    unfold hd
    rw [hlen, ← h2]
    have := le_num (hb.take 2)
    rw [show (b.take 2).length = 2 by simp only [List.length_take]; omega] at this
    rw [this, Nat.add_comm n 2, List.take_add]
  have hc := crc_lt (hb.take (n + 2))
  have h4 := le_num ((hb.drop (n + 2)).take 4)
  rw [show ((b.drop (n + 2)).take 4).length = 4 by simp only [List.length_take, List.length_drop]; omega] at h4
  unfold enc
  rw [h1, show n + 6 = (n + 2) + 4 from rfl, List.take_add (i := n + 2) (j := 4)]
  constructor
  · intro h
    have h := List.append_cancel_left h
    rw [← h, num_le4 hc]
  · intro h
    rw [← h, h4]

theorem ref_decode_j {b : List Int} (hb : Bytes b) (hl : b.length ≤ 140737488351232) {n : Nat} (hn : n ≤ 1000) (h6 : n + 6 ≤ b.length) (h2 : num (b.take 2) = n) (k : Nat) (hk : 90150 < k) :
    cartageref04_Decode.j0 (k + 1) b (n : Int) false = some (if num ((b.drop (n + 2)).take 4) = (crc (b.take (n + 2)) : Int) then ((b.drop 2).take n, (n : Int) + 6, 0) else ([], 0, 3)) := by
  have hs := enc_sum hb hn h6 h2
  simp only [cartageref04_Decode.j0]
  rw [if_neg (by simp), Option.bind_some]
  rw [wrap_in (x := (n : Int)) (by omega) (by omega), wrap_in (x := 2 + (n : Int)) (by omega) (by omega), wrap_in (x := (n : Int) + 6) (by omega) (by omega)]
  have e : (b.take (2 + (n : Int)).toNat).drop 2 = (b.drop 2).take n := by
    rw [show (2 + (n : Int)).toNat = n + 2 by omega, List.drop_take]; simp
  have hlen : ((b.drop 2).take n).length = n := by simp only [List.length_take, List.length_drop]; omega
  rw [if_pos (by omega), if_pos (by omega), e]
  rw [List.nil_append, if_pos (by rw [List.length_nil]; omega), Option.bind_some, ref_encode_is ((hb.drop 2).take n) (by omega) k (by omega), Option.bind_some]
  rw [if_pos (by omega), if_pos (by omega), show ((n : Int) + 6).toNat = n + 6 by omega]
  have hx : ((strOfNums (enc ((b.drop 2).take n))).toList = (strOfNums (b.take (n + 6))).toList) ↔ num ((b.drop (n + 2)).take 4) = (crc (b.take (n + 2)) : Int) := by
    rw [str_eq (enc_bytes ((hb.drop 2).take n)) (hb.take _)]; exact hs
  by_cases g3 : num ((b.drop (n + 2)).take 4) = (crc (b.take (n + 2)) : Int)
  · rw [if_pos (hx.2 g3), if_pos g3]
  · rw [if_neg (fun h => g3 (hx.1 h)), if_neg g3]
theorem ref_decode_t (k : Nat) (b : List Int) (x : Int) : cartageref04_Decode.j0 (k + 1) b x true = some ([], 0, 2) := by simp [cartageref04_Decode.j0]
theorem ref_decode_is {b : List Int} (hb : Bytes b) (hl : b.length ≤ 140737488351232) (k : Nat) (hk : 90200 < k) : cartageref04_Decode.f k b = some (dec b) := by
  obtain ⟨k, rfl⟩ : ∃ m, k = m + 1 := ⟨k - 1, by omega⟩
  unfold cartageref04_Decode.f dec
  by_cases h2 : b.length < 2
  · rw [if_pos h2, ref_get_not hl (by omega) _ (by omega)]
    simp only [Option.bind_some]
    rw [if_neg (by simp)]
    exact ref_decode_t k b _
  · rw [if_neg h2, ref_get_is hb hl (by omega) (by omega) (by omega) (by omega) _ (by omega)]
    simp only [Option.bind_some, if_true]
    rw [show (0 : Int).toNat = 0 from rfl, List.drop_zero, show (2 : Int).toNat = 2 from rfl]
    have hn0 := num_nonneg (hb.take 2)
    have hn1 := num_lt (hb.take 2)
    have hj := fun n : Nat => @ref_decode_j b hb hl n
    rw [show (b.take 2).length = 2 by simp only [List.length_take]; omega] at hn1
    generalize num (b.take 2) = n at hn0 hn1 hj ⊢
    rw [show (256 : Int) ^ 2 = 65536 from rfl] at hn1
    obtain ⟨n, rfl⟩ := Int.eq_ofNat_of_zero_le hn0
    by_cases g1 : 1000 < (n : Int)
    · rw [if_pos (by omega), if_pos (by omega)]; exact ref_decode_t k b _
    · rw [if_neg (by omega), wrap_in (x := (n : Int)) (by omega) (by omega), wrap_in (x := (n : Int) + 6) (by omega) (by omega)]
      by_cases g2 : (b.length : Int) < (n : Int) + 6
      · rw [if_pos (by omega), decide_eq_true (by omega)]; exact ref_decode_t k b _
      · rw [if_neg (c := 1000 < (n : Int) ∨ _) (by omega), decide_eq_false (by omega)]
        exact hj n (by omega) (by omega) rfl k (by omega)
end Go.Proofs.Ytaohmpblmlkioaa.Oct
