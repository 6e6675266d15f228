/- BlockDamage, over lists alone: what is cut, and a byte of a sum that is another one. Conditions: bytes. -/
import Derived.Test.YtaaojocooklfaaaPureBlockBack
namespace Go.Proofs.Ytaaojocooklfaaa.Oct
open Go.RowKit Go.Proofs.Ytaaojocooklfaaa.PAll Go.Proofs.Ytaaojocooklfaaa.HX Go.Proofs.YtaaojocooklfaaaW.PrintWords Go.Proofs.YtaaojocooklfaaaW.PrintLast Go.Proofs.YtaaojocooklfaaaW.PrintMore
theorem and_i64 (x : Int) (m : Nat) (hm : m < 9223372036854775808) : 0 ≤ bits .and .i64 x m ∧ bits .and .i64 x m ≤ m := by
  have e : bits .and .i64 x m = wrap64 (((BitVec.ofInt 64 x &&& BitVec.ofInt 64 (m : Int)).toNat : Nat) : Int) := by
    rw [← i64_w]; rfl
  have hb : (BitVec.ofInt 64 x &&& BitVec.ofInt 64 (m : Int)).toNat ≤ m := by
    rw [BitVec.toNat_and, BitVec.ofInt_natCast, BitVec.toNat_ofNat]
    exact Nat.le_trans Nat.and_le_right (Nat.mod_le _ _)
  rw [e]
  generalize (BitVec.ofInt 64 x &&& BitVec.ofInt 64 (m : Int)).toNat = q at hb
  rw [wrap_in (by omega) (by omega)]
  omega
/-- A block that is cut is none. -/
theorem dec_cut {t : List Int} (hl : t.length ≤ 1000) {m : Nat} (hm : m < t.length + 6) : dec ((enc t).take m) = ([], 0, 2) := by
  have hlen : ((enc t).take m).length = m := by rw [List.length_take, enc_length]; omega
  unfold dec
  by_cases h2 : m < 2
  · rw [if_pos (by omega)]
  · have e : ((enc t).take m).take 2 = le 2 (t.length : Int) := by
      rw [List.take_take, Nat.min_eq_left (by omega)]
      have : enc t = le 2 (t.length : Int) ++ (t ++ le 4 (crc (hd t) : Int)) := by simp [enc, hd]
      rw [this]; exact take_left' (le_length 2 _).symm
    rw [if_neg (by omega), e, num_le2 hl, if_pos (by omega)]
/-- A block with another sum. -/
theorem dec_spoilt {t : List Int} (_hb : Bytes t) (hl : t.length ≤ 1000) {s : List Int} (hs : Bytes s) (hs4 : s.length = 4) (hne : s ≠ le 4 (crc (hd t) : Int)) (r : List Int) : dec (hd t ++ s ++ r) = ([], 0, 3) := by
  have hh := hd_length t
  have hlen : (hd t ++ s ++ r).length = t.length + 6 + r.length := by simp only [List.length_append]; omega
  have e0 : hd t ++ s ++ r = le 2 (t.length : Int) ++ (t ++ (s ++ r)) := by simp [hd]
  have e1 : hd t ++ s ++ r = hd t ++ (s ++ r) := by simp
  have n2 : num ((hd t ++ s ++ r).take 2) = (t.length : Int) := by rw [e0, take_left' (le_length 2 _).symm]; exact num_le2 hl
  have tn : (hd t ++ s ++ r).take (t.length + 2) = hd t := by rw [e1]; exact take_left' hh.symm
  have dn : (hd t ++ s ++ r).drop (t.length + 2) = s ++ r := by rw [e1]; exact drop_left' hh.symm
  unfold dec
  rw [if_neg (by omega), n2, if_neg (by omega), Int.toNat_natCast, tn, dn, take_left' hs4.symm, if_neg]
  intro h
  have := le_num hs
  rw [hs4, h] at this
  exact hne this.symm
theorem xor_byte {v b : Int} (h0 : 0 ≤ v) (h1 : v ≤ 255) (b0 : 0 ≤ b) (b1 : b ≤ 255) : 0 ≤ bits .xor .u8 v b ∧ bits .xor .u8 v b ≤ 255 ∧ (bits .xor .u8 v b = v ↔ b = 0) := by
  obtain ⟨a, rfl⟩ := Int.eq_ofNat_of_zero_le h0
  obtain ⟨c, rfl⟩ := Int.eq_ofNat_of_zero_le b0
  have hx : a ^^^ c < 2 ^ 8 := Nat.xor_lt_two_pow (by omega) (by omega)
  have e : bits .xor .u8 (a : Int) c = ((a ^^^ c : Nat) : Int) := by
    have : bits .xor .u8 (a : Int) c = IntKind.u8.wrap (((BitVec.ofInt 8 a ^^^ BitVec.ofInt 8 (c : Int)).toNat : Nat) : Int) := rfl
    rw [this, BitVec.toNat_xor, BitVec.ofInt_natCast, BitVec.ofInt_natCast, BitVec.toNat_ofNat, BitVec.toNat_ofNat, Nat.mod_eq_of_lt (show a < 2 ^ 8 by omega), Nat.mod_eq_of_lt (show c < 2 ^ 8 by omega)]
    generalize a ^^^ c = q at hx
    simp [IntKind.wrap, IntKind.bits, IntKind.signed]; omega
  rw [e]
  refine ⟨by omega, by omega, ?_⟩
  constructor
  · intro h
    have h' : a ^^^ c = a := by omega
    have : c = 0 := by
      have := congrArg (fun z => a ^^^ z) h'
      simpa [← Nat.xor_assoc] using this
    omega
  · intro h
    have : c = 0 := by omega
    subst this
    simp
theorem encs_split (y : List (List Int)) (i : Nat) (hi : i < y.length) : encs y = encs (y.take i) ++ (enc y[i] ++ encs (y.drop (i + 1))) := by
  conv => lhs; rw [← List.take_append_drop i y, Oct.encs_append, List.drop_eq_getElem_cons hi, Oct.encs_cons]
theorem Texts.take {y : List (List Int)} (h : Texts y) (i : Nat) : Texts (y.take i) := fun t ht => h t (List.mem_of_mem_take ht)
theorem Texts.drop {y : List (List Int)} (h : Texts y) (i : Nat) : Texts (y.drop i) := fun t ht => h t (List.mem_of_mem_drop ht)
/-- The blocks, cut in the last. -/
theorem all_cut {y : List (List Int)} (h : Texts y) (h0 : 0 < y.length) {c : Nat} (hc0 : 1 ≤ c) (hc1 : c < (y.getD (y.length - 1) []).length + 6) :
    all ((encs y).take ((encs y).length - c)) = ([], ((encs y).length : Int) - ((y.getD (y.length - 1) []).length + 6), 2) := by
  have hi : y.length - 1 < y.length := by omega
  have e : y.getD (y.length - 1) [] = y[y.length - 1] := by rw [List.getD_eq_getElem?_getD, List.getElem?_eq_getElem hi]; rfl
  rw [e] at hc1 ⊢
  have hs := encs_split y _ hi
  rw [show y.length - 1 + 1 = y.length by omega, List.drop_length, Oct.encs_nil, List.append_nil] at hs
  have ht := h _ (List.getElem_mem hi)
  generalize y[y.length - 1] = t at *
  have hl : (encs y).length = (encs (y.take (y.length - 1))).length + (t.length + 6) := by rw [hs, List.length_append, enc_length]
  have e2 : (encs y).take ((encs y).length - c) = encs (y.take (y.length - 1)) ++ (enc t).take (t.length + 6 - c) := by
    rw [hl]
    conv => lhs; rw [hs]
    rw [List.take_append, List.take_of_length_le (by omega), show (encs (y.take (y.length - 1))).length + (t.length + 6) - c - (encs (y.take (y.length - 1))).length = t.length + 6 - c by omega]
  have hd := dec_cut ht.2 (m := t.length + 6 - c) (by omega)
  rw [e2, all_bad (h.take _) (by rw [hd]; decide) (by rw [List.length_take, enc_length]; omega), hd, hl]
  simp
/-- The blocks, one byte of a sum another one. -/
theorem all_spoilt {y : List (List Int)} (h : Texts y) {i : Nat} (hi : i < y.length) {j : Nat} (hj : j < 4) {b : Int} (b0 : 0 ≤ b) (b1 : b ≤ 255) :
    ∃ v, (encs y).getD ((encs (y.take i)).length + 2 + (y.getD i []).length + j) 0 = v ∧ (encs (y.take i)).length + 2 + (y.getD i []).length + j < (encs y).length ∧ 0 ≤ bits .xor .u8 v b ∧ bits .xor .u8 v b ≤ 255 ∧
      Bytes ((encs y).set ((encs (y.take i)).length + 2 + (y.getD i []).length + j) (bits .xor .u8 v b)) ∧
      all ((encs y).set ((encs (y.take i)).length + 2 + (y.getD i []).length + j) (bits .xor .u8 v b)) = if b = 0 then (y, 0, 0) else ([], ((encs (y.take i)).length : Int), 3) := by
  have e : y.getD i [] = y[i] := by rw [List.getD_eq_getElem?_getD, List.getElem?_eq_getElem hi]; rfl
  rw [e]
  have hs := encs_split y _ hi
  have ht := h _ (List.getElem_mem hi)
  have hall := all_encs h
  have hbs := encs_bytes (fun t ht => (h t ht).1)
  have hrb := encs_bytes (fun t ht => (h.drop (i + 1) t ht).1)
  have hpb := encs_bytes (fun t ht => (h.take i t ht).1)
  have hp := h.take i
  generalize y[i] = t at *
  generalize hrest : encs (y.drop (i + 1)) = r at *
  generalize hpre : y.take i = p at *
  have hyl : (encs y).length = (encs p).length + (t.length + 6 + r.length) := by rw [hs, List.length_append, List.length_append, enc_length]
  have h4 : (le 4 (crc (hd t) : Int)).length = 4 := le_length 4 _
  have b4 : Bytes (le 4 (crc (hd t) : Int)) := le_bytes 4 _
  have hs' : encs y = (encs p ++ hd t) ++ (le 4 (crc (hd t) : Int) ++ r) := by rw [hs]; simp [enc]
  have hpl : (encs p ++ hd t).length = (encs p).length + 2 + t.length := by rw [List.length_append, hd_length]; omega
  have hdb := hd_bytes ht.1
  generalize hsum : le 4 (crc (hd t) : Int) = s at *
  have hgs : s.getD j 0 = s[j] := by rw [List.getD_eq_getElem?_getD, List.getElem?_eq_getElem (by omega)]; rfl
  have hv := b4 _ (List.getElem_mem (show j < s.length by omega))
  have hx := xor_byte hv.1 hv.2 b0 b1
  have hget : (encs y).getD ((encs p).length + 2 + t.length + j) 0 = s[j] := by
    rw [hs', List.getD_eq_getElem?_getD, List.getElem?_append_right (by omega), hpl, show (encs p).length + 2 + t.length + j - ((encs p).length + 2 + t.length) = j by omega, List.getElem?_append_left (by omega), List.getElem?_eq_getElem (by omega)]; rfl
  refine ⟨s[j], hget, by omega, hx.1, hx.2.1, ?_⟩
  have hset : (encs y).set ((encs p).length + 2 + t.length + j) (bits .xor .u8 s[j] b) = encs p ++ (hd t ++ s.set j (bits .xor .u8 s[j] b) ++ r) := by
    rw [hs', List.set_append_right _ _ (by omega), hpl, show (encs p).length + 2 + t.length + j - ((encs p).length + 2 + t.length) = j by omega, List.set_append_left _ _ (by omega)]
    simp
  have hsb : Bytes (s.set j (bits .xor .u8 s[j] b)) := fun c hc => by
    rcases List.mem_or_eq_of_mem_set hc with hc | rfl
    · exact b4 c hc
    · exact ⟨hx.1, hx.2.1⟩
  refine ⟨by rw [hset]; exact hpb.append ((hdb.append hsb).append hrb), ?_⟩
  by_cases hb : b = 0
  · rw [if_pos hb, hx.2.2.2 hb]
    have : (encs y).set ((encs p).length + 2 + t.length + j) s[j] = encs y := by
      rw [← hget, List.getD_eq_getElem?_getD, List.getElem?_eq_getElem (by omega)]
      exact List.set_getElem_self _
    rw [this]; exact hall
  · have hne : s.set j (bits .xor .u8 s[j] b) ≠ le 4 (crc (hd t) : Int) := by
      rw [hsum]
      intro h
      have := congrArg (fun l => l[j]?) h
      simp only [List.getElem?_set_self (show j < s.length by omega), List.getElem?_eq_getElem (show j < s.length by omega), Option.some.injEq] at this
      exact hb (hx.2.2.1 this)
    have hd := dec_spoilt ht.1 ht.2 hsb (by rw [List.length_set]; exact h4) hne r
    rw [if_neg hb, hset, all_bad hp (by rw [hd]; decide) (by simp only [List.length_append, List.length_set]; omega), hd]
end Go.Proofs.Ytaaojocooklfaaa.Oct
