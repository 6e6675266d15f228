/- What the printed functions of block come to: Encode, Decode. Conditions: bytes; rows within the bound. -/
import Derived.Test.YtaohmpblmlkioaaOctB
import Derived.Test.YtaohmpblmlkioaaPAllx1
import Derived.Test.YtaohmpblmlkioaaPAllx3
namespace Go.Proofs.Ytaohmpblmlkioaa.Oct
open Go.RowKit Go.Proofs.Ytaohmpblmlkioaa.PAll Go.Proofs.YtaohmpblmlkioaaW.PrintWords Go.Proofs.YtaohmpblmlkioaaW.PrintLast Go.Proofs.YtaohmpblmlkioaaW.PrintMore

theorem ite_opt {α : Type} {c : Prop} [Decidable c] {a b : Option α} {x y : α} (ha : c → a = some x) (hb : ¬ c → b = some y) : (if c then a else b) = some (if c then x else y) := by
  split
  · exact ha ‹_›
  · exact hb ‹_›
/-- A text's size, and the text. -/
def hd (t : List Int) : List Int := le 2 (t.length : Int) ++ t
/-- A text's block. -/
def enc (t : List Int) : List Int := hd t ++ le 4 (crc (hd t) : Int)
theorem hd_length (t : List Int) : (hd t).length = t.length + 2 := by simp [hd, le_length]; omega
theorem enc_length (t : List Int) : (enc t).length = t.length + 6 := by simp [enc, hd_length, le_length]
theorem hd_bytes {t : List Int} (h : Bytes t) : Bytes (hd t) := (le_bytes 2 _).append h
theorem enc_bytes {t : List Int} (h : Bytes t) : Bytes (enc t) := (hd_bytes h).append (le_bytes 4 _)
theorem sz2 : sz 2 = 2 := rfl
theorem sz4 : sz 4 = 4 := rfl
theorem sz8 : sz 8 = 8 := rfl
theorem u64_nat {n : Nat} (h : n < 18446744073709551616) : IntKind.u64.wrap (n : Int) = (n : Int) := u64_in (by omega) (by omega)
theorem encode_big {l : List Int} (h : 1000 < l.length) (k : Nat) : block_Encode.f k l = some ([], 1) := by
  unfold block_Encode.f
  rw [if_pos (by omega)]
theorem encode_is {l : List Int} (hb : Bytes l) (hl : l.length ≤ 1000) (k : Nat) (hk : 10020 < k) : block_Encode.f k l = some (enc l, 0) := by
  have hc := crc_lt (hd_bytes hb)
  have hh := hd_length l
  unfold block_Encode.f
  rw [if_neg (by omega), u64_nat (by omega), put_is k [] 2 _ (by simp) (by omega), sz2]
  simp only [Option.bind_some, List.nil_append]
  have e : slices_Concat_byte_byte.f [le 2 (l.length : Int), l] = some (hd l) := by
    unfold slices_Concat_byte_byte.f
    have : [le 2 (l.length : Int), l].flatten = hd l := by simp [hd]
    rw [this, if_pos (by omega)]
  rw [e]
  simp only [Option.bind_some]
  rw [crc_is (hd_bytes hb) (by omega) k (by omega)]
  simp only [Option.bind_some]
  rw [u64_nat (by omega), put_is k _ 4 _ (by omega) (by omega), sz4]
  rfl

/-- What bytes begin with: the text, the block's size, the error. -/
def dec (b : List Int) : List Int × Int × Int :=
  if b.length < 2 then ([], 0, 2) else
  if 1000 < num (b.take 2) ∨ (b.length : Int) < num (b.take 2) + 6 then ([], 0, 2) else
  if num ((b.drop ((num (b.take 2)).toNat + 2)).take 4) = (crc (b.take ((num (b.take 2)).toNat + 2)) : Int) then ((b.drop 2).take (num (b.take 2)).toNat, num (b.take 2) + 6, 0) else ([], 0, 3)
theorem dec_err (b : List Int) : (dec b).2.2 = 0 ∨ (dec b = ([], 0, 2) ∨ dec b = ([], 0, 3)) := by
  unfold dec
  split
  · exact .inr (.inl rfl)
  split
  · exact .inr (.inl rfl)
  split
  · exact .inl rfl
  · exact .inr (.inr rfl)
theorem dec_ok {b : List Int} (hb : Bytes b) (h : (dec b).2.2 = 0) : ∃ n : Nat, n ≤ 1000 ∧ n + 6 ≤ b.length ∧ dec b = ((b.drop 2).take n, (n : Int) + 6, 0) ∧ num (b.take 2) = n ∧ num ((b.drop (n + 2)).take 4) = (crc (b.take (n + 2)) : Int) := by
  unfold dec at h ⊢
  split at h
  · exact absurd h (by simp)
  split at h
  · exact absurd h (by simp)
  split at h
  · rename_i h1 h2 h3
    have h0 := num_nonneg (hb.take 2)
    refine ⟨(num (b.take 2)).toNat, by omega, by omega, ?_, by omega, h3⟩
    rw [if_neg h1, if_neg h2, if_pos h3, Int.toNat_of_nonneg h0]
  · exact absurd h (by simp)
theorem dec_text {b : List Int} (hb : Bytes b) : Bytes (dec b).1 ∧ (dec b).1.length ≤ 1000 := by
  rcases dec_err b with h | h | h
  · obtain ⟨n, hn, hl, e, _⟩ := dec_ok hb h
    rw [e]
    exact ⟨(hb.drop 2).take n, by simp only [List.length_take]; omega⟩
  · rw [h]; exact ⟨Bytes.nil, by simp⟩
  · rw [h]; exact ⟨Bytes.nil, by simp⟩
theorem dec_size {b : List Int} (hb : Bytes b) : 0 ≤ (dec b).2.1 ∧ (dec b).2.1 ≤ 1006 ∧ (dec b).2.1 ≤ b.length ∧ ((dec b).2.2 = 0 → 6 ≤ (dec b).2.1 ∧ ((dec b).1.length : Int) + 6 = (dec b).2.1) := by
  rcases dec_err b with h | h | h
  · obtain ⟨n, hn, hl, e, _⟩ := dec_ok hb h
    rw [e]
    refine ⟨by simp only; omega, by simp only; omega, by simp only; omega, fun _ => ⟨by simp only; omega, ?_⟩⟩
    simp only [List.length_take, List.length_drop]; omega
  · rw [h]; exact ⟨by simp, by simp, by simp, fun h => by simp at h⟩
  · rw [h]; exact ⟨by simp, by simp, by simp, fun h => by simp at h⟩

theorem decode_is {b : List Int} (hb : Bytes b) (hl : b.length ≤ 140737488351232) (k : Nat) (hk : 10030 < k) : block_Decode.f k b = some (dec b) := by
  obtain ⟨k, rfl⟩ : ∃ m, k = m + 1 := ⟨k - 1, by omega⟩
  unfold block_Decode.f dec
  by_cases h2 : b.length < 2
  · rw [if_pos h2, get_not (by omega)]
    simp only [Option.bind_some]
    rw [if_neg (by simp)]
    simp [block_Decode.j0]
  · rw [if_neg h2, get_is hb (by omega) (by omega) (by omega) (by omega)]
    simp only [Option.bind_some, if_true]
    rw [show (0 : Int).toNat = 0 from rfl, List.drop_zero, show (2 : Int).toNat = 2 from rfl]
    have hn0 := num_nonneg (hb.take 2)
    have hn1 := num_lt (hb.take 2)
    rw [show (b.take 2).length = 2 by simp only [List.length_take]; omega] at hn1
    generalize num (b.take 2) = n at hn0 hn1 ⊢
    rw [show (256 : Int) ^ 2 = 65536 from rfl] at hn1
    rw [wrap_in (x := n) (by omega) (by omega), wrap_in (x := 2 + n) (by omega) (by omega)]
    by_cases g1 : 1000 < n
    · rw [if_pos (by omega), if_pos (by omega)]; simp [block_Decode.j0]
    · rw [if_neg (by omega), wrap_in (by omega) (by omega)]
      by_cases g2 : (b.length : Int) < n + 6
      · rw [if_pos (by omega), decide_eq_true (by omega)]; simp [block_Decode.j0]
      · rw [if_neg (c := 1000 < n ∨ _) (by omega), decide_eq_false (by omega)]
        simp only [block_Decode.j0]
        rw [if_neg (by simp), get_is hb (by omega) (by omega) (by omega) (by omega)]
        simp only [Option.bind_some]
        rw [if_pos (by omega), if_pos (by omega), show (2 + n).toNat = n.toNat + 2 by omega, show (4 : Int).toNat = 4 from rfl, crc_is (hb.take _) (by simp only [List.length_take]; omega) k (by simp only [List.length_take]; omega)]
        simp only [Option.bind_some]
        have hm0 := num_nonneg ((hb.drop (n.toNat + 2)).take 4)
        have hm1 := num_lt ((hb.drop (n.toNat + 2)).take 4)
        rw [show ((b.drop (n.toNat + 2)).take 4).length = 4 by simp only [List.length_take, List.length_drop]; omega, show (256 : Int) ^ 4 = 4294967296 from rfl] at hm1
        rw [Int.emod_eq_of_lt hm0 hm1]
        refine ite_opt (fun _ => ?_) (fun _ => rfl)
        rw [if_pos (by omega), wrap_in (by omega) (by omega)]
        have e : (b.take (n.toNat + 2)).drop 2 = (b.drop 2).take n.toNat := by
          rw [List.drop_take]; simp
        rw [e, clone_is (by simp only [List.length_take]; omega)]
        simp only [Option.bind_some]
        rw [show 2 + n + 4 = n + 6 by omega]

/-- A block, and what stands behind it, is read as its text. -/
theorem take_left' {α : Type} {a b : List α} {n : Nat} (h : n = a.length) : (a ++ b).take n = a := by rw [h]; exact List.take_left
theorem drop_left' {α : Type} {a b : List α} {n : Nat} (h : n = a.length) : (a ++ b).drop n = b := by rw [h]; exact List.drop_left
theorem num_le2 {n : Nat} (h : n ≤ 1000) : num (le 2 (n : Int)) = (n : Int) := by
  rw [num_le, show (256 : Int) ^ 2 = 65536 from rfl]; omega
theorem num_le4 {c : Nat} (h : c < 4294967296) : num (le 4 (c : Int)) = (c : Int) := by
  rw [num_le, show (256 : Int) ^ 4 = 4294967296 from rfl]; omega
theorem dec_enc {t : List Int} (hb : Bytes t) (hl : t.length ≤ 1000) (r : List Int) : dec (enc t ++ r) = (t, (t.length : Int) + 6, 0) := by
  have hlen : (enc t ++ r).length = t.length + 6 + r.length := by rw [List.length_append, enc_length]
  have e0 : enc t ++ r = le 2 (t.length : Int) ++ (t ++ (le 4 (crc (hd t) : Int) ++ r)) := by simp [enc, hd]
  have e1 : enc t ++ r = hd t ++ (le 4 (crc (hd t) : Int) ++ r) := by simp [enc]
  have t2 : (enc t ++ r).take 2 = le 2 (t.length : Int) := by rw [e0]; exact take_left' (le_length 2 _).symm
  have n2 : num ((enc t ++ r).take 2) = (t.length : Int) := by rw [t2]; exact num_le2 hl
  have d2 : (enc t ++ r).drop 2 = t ++ (le 4 (crc (hd t) : Int) ++ r) := by rw [e0]; exact drop_left' (le_length 2 _).symm
  have tn : (enc t ++ r).take (t.length + 2) = hd t := by rw [e1]; exact take_left' (hd_length t).symm
  have dn : (enc t ++ r).drop (t.length + 2) = le 4 (crc (hd t) : Int) ++ r := by rw [e1]; exact drop_left' (hd_length t).symm
  unfold dec
  rw [if_neg (by omega), n2, if_neg (by omega), Int.toNat_natCast, tn, dn, take_left' (le_length 4 _).symm, num_le4 (crc_lt (hd_bytes hb)), if_pos rfl, d2, take_left' rfl]
/-- Bytes that are read as a text begin with its block. -/
theorem enc_dec {b : List Int} (hb : Bytes b) (h : (dec b).2.2 = 0) : enc (dec b).1 = b.take (dec b).2.1.toNat := by
  obtain ⟨n, hn, hl, e, h2, hs⟩ := dec_ok hb h
  rw [e]
  simp only
  have hlen : ((b.drop 2).take n).length = n := by simp only [List.length_take, List.length_drop]; omega
  have h1 : hd ((b.drop 2).take n) = b.take (n + 2) := by
    unfold hd
    rw [hlen, ← h2]
    have := le_num (hb.take 2)
    rw [show (b.take 2).length = 2 by simp only [List.length_take]; omega] at this
    rw [this, Nat.add_comm n 2, List.take_add]
  unfold enc
  rw [h1, ← hs]
  have := le_num ((hb.drop (n + 2)).take 4)
  rw [show ((b.drop (n + 2)).take 4).length = 4 by simp only [List.length_take, List.length_drop]; omega] at this
  rw [this, show ((n : Int) + 6).toNat = (n + 2) + 4 by omega, List.take_add (i := n + 2) (j := 4)]
end Go.Proofs.Ytaohmpblmlkioaa.Oct
