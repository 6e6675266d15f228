/- A config's bytes, spoilt: a byte of the last block's sum another one, or a block less. Conditions: up to two hundred and fifty vertices. -/
import Derived.Test.YtaohmpblmlkioaaStL
namespace Go.Proofs.Ytaohmpblmlkioaa.Oct
open Go.RowKit Go.Proofs.Ytaohmpblmlkioaa.PAll Go.Proofs.Ytaohmpblmlkioaa.HX Go.Proofs.YtaohmpblmlkioaaW.PrintWords Go.Proofs.YtaohmpblmlkioaaW.PrintLast Go.Proofs.YtaohmpblmlkioaaW.PrintMore
theorem dec_spoilt {t : List Int} (_hb : Bytes t) (hl : t.length ≤ 1000) {s : List Int} (hs : Bytes s) (hs4 : s.length = 4) (hne : s ≠ le 4 (crc (hd t) : Int)) (r : List Int) : dec (hd t ++ s ++ r) = ([], 0, 3) := by
  have hh := hd_length t
  have hlen : (hd t ++ s ++ r).length = t.length + 6 + r.length := by simp only [List.length_append]; omega
  have e0 : hd t ++ s ++ r = le 2 (t.length : Int) ++ (t ++ (s ++ r)) := by simp [hd]
  have e1 : hd t ++ s ++ r = hd t ++ (s ++ r) := by simp
  have n2 : num ((hd t ++ s ++ r).take 2) = (t.length : Int) := by rw [e0, take_left' (le_length 2 _).symm]; exact num_le2 hl
  have tn : (hd t ++ s ++ r).take (t.length + 2) = hd t := by rw [e1]; exact take_left' hh.symm
  have dn : (hd t ++ s ++ r).drop (t.length + 2) = s ++ r := by rw [e1]; exact drop_left' hh.symm
  unfold dec
  rw [if_neg (by omega), n2, if_neg (by omega), Int.toNat_natCast, tn, dn, take_left' hs4.symm, if_neg]
  intro h
  have := le_num hs
  rw [hs4, h] at this
  exact hne this.symm
theorem xor_byte {v b : Int} (h0 : 0 ≤ v) (h1 : v ≤ 255) (b0 : 0 ≤ b) (b1 : b ≤ 255) : 0 ≤ bits .xor .u8 v b ∧ bits .xor .u8 v b ≤ 255 ∧ (bits .xor .u8 v b = v ↔ b = 0) := by
  obtain ⟨a, rfl⟩ := Int.eq_ofNat_of_zero_le h0
  obtain ⟨c, rfl⟩ := Int.eq_ofNat_of_zero_le b0
  have hx : a ^^^ c < 2 ^ 8 := Nat.xor_lt_two_pow (by omega) (by omega)
  have e : bits .xor .u8 (a : Int) c = ((a ^^^ c : Nat) : Int) := by
    have : bits .xor .u8 (a : Int) c = IntKind.u8.wrap (((BitVec.ofInt 8 a ^^^ BitVec.ofInt 8 (c : Int)).toNat : Nat) : Int) := rfl
    rw [this, BitVec.toNat_xor, BitVec.ofInt_natCast, BitVec.ofInt_natCast, BitVec.toNat_ofNat, BitVec.toNat_ofNat, Nat.mod_eq_of_lt (show a < 2 ^ 8 by omega), Nat.mod_eq_of_lt (show c < 2 ^ 8 by omega)]
    generalize a ^^^ c = q at hx
    simp [IntKind.wrap, IntKind.bits, IntKind.signed]; omega
  rw [e]
  refine ⟨by omega, by omega, ?_⟩
  constructor
  · intro h
    have h' : a ^^^ c = a := by omega
    have : c = 0 := by
      have := congrArg (fun z => a ^^^ z) h'
      simpa [← Nat.xor_assoc] using this
    omega
  · intro h
    have : c = 0 := by omega
    subst this
    simp
theorem encs_split (y : List (List Int)) (i : Nat) (hi : i < y.length) : encs y = encs (y.take i) ++ (enc y[i] ++ encs (y.drop (i + 1))) := by
  conv => lhs; rw [← List.take_append_drop i y, Oct.encs_append, List.drop_eq_getElem_cons hi, Oct.encs_cons]
theorem Texts.take {y : List (List Int)} (h : Texts y) (i : Nat) : Texts (y.take i) := fun t ht => h t (List.mem_of_mem_take ht)
theorem Texts.drop {y : List (List Int)} (h : Texts y) (i : Nat) : Texts (y.drop i) := fun t ht => h t (List.mem_of_mem_drop ht)
/-- The blocks, one byte of a sum another one. -/
theorem all_spoilt {y : List (List Int)} (h : Texts y) {i : Nat} (hi : i < y.length) {j : Nat} (hj : j < 4) {b : Int} (b0 : 0 ≤ b) (b1 : b ≤ 255) :
    ∃ v, (encs y).getD ((encs (y.take i)).length + 2 + (y.getD i []).length + j) 0 = v ∧ (encs (y.take i)).length + 2 + (y.getD i []).length + j < (encs y).length ∧ 0 ≤ bits .xor .u8 v b ∧ bits .xor .u8 v b ≤ 255 ∧
      Bytes ((encs y).set ((encs (y.take i)).length + 2 + (y.getD i []).length + j) (bits .xor .u8 v b)) ∧
      all ((encs y).set ((encs (y.take i)).length + 2 + (y.getD i []).length + j) (bits .xor .u8 v b)) = (if b = 0 then (y, 0, 0) else ([], ((encs (y.take i)).length : Int), 3)) ∧ (b = 0 → (encs y).set ((encs (y.take i)).length + 2 + (y.getD i []).length + j) (bits .xor .u8 v b) = encs y) := by
  have e : y.getD i [] = y[i] := by rw [List.getD_eq_getElem?_getD, List.getElem?_eq_getElem hi]; rfl
  rw [e]
  have hs := encs_split y _ hi
  have ht := h _ (List.getElem_mem hi)
  have hall := all_encs h
  have hbs := encs_bytes (fun t ht => (h t ht).1)
  have hrb := encs_bytes (fun t ht => (h.drop (i + 1) t ht).1)
  have hpb := encs_bytes (fun t ht => (h.take i t ht).1)
  have hp := h.take i
  generalize y[i] = t at *
  generalize hrest : encs (y.drop (i + 1)) = r at *
  generalize hpre : y.take i = p at *
  have hyl : (encs y).length = (encs p).length + (t.length + 6 + r.length) := by rw [hs, List.length_append, List.length_append, enc_length]
  have h4 : (le 4 (crc (hd t) : Int)).length = 4 := le_length 4 _
  have b4 : Bytes (le 4 (crc (hd t) : Int)) := le_bytes 4 _
  have hs' : encs y = (encs p ++ hd t) ++ (le 4 (crc (hd t) : Int) ++ r) := by rw [hs]; simp [enc]
  have hpl : (encs p ++ hd t).length = (encs p).length + 2 + t.length := by rw [List.length_append, hd_length]; omega
  have hdb := hd_bytes ht.1
  generalize hsum : le 4 (crc (hd t) : Int) = s at *
  have hgs : s.getD j 0 = s[j] := by rw [List.getD_eq_getElem?_getD, List.getElem?_eq_getElem (by omega)]; rfl
  have hv := b4 _ (List.getElem_mem (show j < s.length by omega))
  have hx := xor_byte hv.1 hv.2 b0 b1
  have hget : (encs y).getD ((encs p).length + 2 + t.length + j) 0 = s[j] := by
    rw [hs', List.getD_eq_getElem?_getD, List.getElem?_append_right (by omega), hpl, show (encs p).length + 2 + t.length + j - ((encs p).length + 2 + t.length) = j by omega, List.getElem?_append_left (by omega), List.getElem?_eq_getElem (by omega)]; rfl
  refine ⟨s[j], hget, by omega, hx.1, hx.2.1, ?_⟩
  have hset : (encs y).set ((encs p).length + 2 + t.length + j) (bits .xor .u8 s[j] b) = encs p ++ (hd t ++ s.set j (bits .xor .u8 s[j] b) ++ r) := by
    rw [hs', List.set_append_right _ _ (by omega), hpl, show (encs p).length + 2 + t.length + j - ((encs p).length + 2 + t.length) = j by omega, List.set_append_left _ _ (by omega)]
    simp
  have hsb : Bytes (s.set j (bits .xor .u8 s[j] b)) := fun c hc => by
    rcases List.mem_or_eq_of_mem_set hc with hc | rfl
    · exact b4 c hc
    · exact ⟨hx.1, hx.2.1⟩
  refine ⟨by rw [hset]; exact hpb.append ((hdb.append hsb).append hrb), ?_⟩
  by_cases hb : b = 0
  · rw [if_pos hb, hx.2.2.2 hb]
    have : (encs y).set ((encs p).length + 2 + t.length + j) s[j] = encs y := by
      rw [← hget, List.getD_eq_getElem?_getD, List.getElem?_eq_getElem (by omega)]
      exact List.set_getElem_self _
    rw [this]; exact ⟨hall, fun _ => rfl⟩
  · have hne : s.set j (bits .xor .u8 s[j] b) ≠ le 4 (crc (hd t) : Int) := by
      rw [hsum]
      intro h
      have := congrArg (fun l => l[j]?) h
      simp only [List.getElem?_set_self (show j < s.length by omega), List.getElem?_eq_getElem (show j < s.length by omega), Option.some.injEq] at this
      exact hb (hx.2.2.1 this)
    have hd := dec_spoilt ht.1 ht.2 hsb (by rw [List.length_set]; exact h4) hne r
    refine ⟨?_, fun h => absurd h hb⟩
    rw [if_neg hb, hset, all_bad hp (by rw [hd]; decide) (by simp only [List.length_append, List.length_set]; omega), hd]
theorem tells_last : ∀ (r : List (Int × Bool)) (t : List Int) (k : Nat), t.length = 9 * k → k < 100 → r ≠ [] → ((tells r t).getD ((tells r t).length - 1) []).length = 9 * (1 + (k + r.length - 1) % 100) ∧ 0 < (tells r t).length
  | [], _, _, _, _, h => absurd rfl h
  | x :: r, t, k, ht, hk, _ => by
    have hx : (t ++ vtx x).length = 9 * (k + 1) := by rw [List.length_append, vtx_length, ht]; omega
    unfold tells
    rw [List.length_cons]
    by_cases g : (t ++ vtx x).length = 900 ∨ r = []
    · rw [if_pos g, List.length_cons]
      by_cases hr : r = []
      · subst hr
        simp only [tells, List.length_nil, Nat.zero_add, Nat.sub_self, List.getD_cons_zero]
        refine ⟨?_, by omega⟩
        rw [hx]; omega
      · have hk1 : k + 1 = 100 := by
          rcases g with g | g
          · omega
          · exact absurd g hr
        obtain ⟨h1, h2⟩ := tells_last r [] 0 rfl (by omega) hr
        have hp : 0 < r.length := List.length_pos_iff.2 hr
        rw [show (tells r []).length + 1 - 1 = ((tells r []).length - 1) + 1 by omega, List.getD_cons_succ, h1]
        refine ⟨?_, by omega⟩
        omega
    · have hp : 0 < r.length := List.length_pos_iff.2 (fun h => g (.inr h))
      rw [if_neg g]
      obtain ⟨h1, h2⟩ := tells_last r _ (k + 1) hx (by
        have : ¬ (t ++ vtx x).length = 900 := fun h => g (.inl h)
        omega) (fun h => g (.inr h))
      rw [h1]
      refine ⟨?_, h2⟩
      congr 2; omega
theorem stexts_ok {x : Int} (vs : List Int) (ls : List Bool) : Texts (stexts x vs ls) := by
  intro t ht
  rcases List.mem_cons.1 ht with rfl | ht
  · exact ⟨shead_bytes _ _, by rw [shead_length]; omega⟩
  · exact ⟨tells_bytes _ _ Bytes.nil t ht, by have := tells_le _ [] (by simp) (by simp) t ht; omega⟩
/-- How long the last block's text is. -/
def slast (n : Nat) : Nat := if n = 0 then 16 else 9 * (1 + (n - 1) % 100)
theorem stexts_last {x : Int} {vs : List Int} {ls : List Bool} (hl : vs.length = ls.length) : ((stexts x vs ls).getD ((stexts x vs ls).length - 1) []).length = slast vs.length := by
  have hz : (vs.zip ls).length = vs.length := by rw [List.length_zip]; omega
  unfold stexts slast
  by_cases h : vs.length = 0
  · have h0 : vs.zip ls = [] := List.eq_nil_of_length_eq_zero (by omega)
    rw [if_pos h, h0]; simp [tells, shead_length]
  · obtain ⟨h1, h2⟩ := tells_last (vs.zip ls) [] 0 rfl (by omega) (fun e => h (by rw [← hz, e]; rfl))
    rw [if_neg h, List.length_cons, show (tells (vs.zip ls) []).length + 1 - 1 = ((tells (vs.zip ls) []).length - 1) + 1 by omega, List.getD_cons_succ, h1, hz]
    congr 2; omega
theorem encs_last {y : List (List Int)} (h0 : 0 < y.length) : encs y = encs (y.take (y.length - 1)) ++ enc (y.getD (y.length - 1) []) := by
  have hi : y.length - 1 < y.length := by omega
  have hs := encs_split y _ hi
  rw [show y.length - 1 + 1 = y.length by omega, List.drop_length, Oct.encs_nil, List.append_nil] at hs
  rwa [List.getD_eq_getElem?_getD, List.getElem?_eq_getElem hi]
/-- A block less is none. -/
theorem sdec_less {x : Int} {vs : List Int} {ls : List Bool} (hl : vs.length = ls.length) (hn : vs.length ≤ 1000) :
    (encs (stexts x vs ls)).take ((encs (stexts x vs ls)).length - (slast vs.length + 6)) = encs ((stexts x vs ls).take ((stexts x vs ls).length - 1)) ∧ slast vs.length + 6 ≤ (encs (stexts x vs ls)).length ∧
    sdec (encs ((stexts x vs ls).take ((stexts x vs ls).length - 1))) = (0, [], 2) := by
  have hz : (vs.zip ls).length = vs.length := by rw [List.length_zip]; omega
  have h0 : 0 < (stexts x vs ls).length := by simp [stexts]
  have he := encs_last h0
  have hlen : (encs (stexts x vs ls)).length = (encs ((stexts x vs ls).take ((stexts x vs ls).length - 1))).length + (slast vs.length + 6) := by
    have := congrArg List.length he
    rw [List.length_append, enc_length, stexts_last hl] at this
    exact this
  have hT := (stexts_ok (x := x) vs ls).take ((stexts x vs ls).length - 1)
  have ha := all_encs hT
  refine ⟨?_, by omega, ?_⟩
  · rw [hlen, Nat.add_sub_cancel]
    conv => lhs; rw [he]
    exact take_left' rfl
  · unfold sdec
    rw [if_neg (by rw [ha]; simp), if_neg]
    rintro ⟨_, g1, _, _, _, g5, _⟩
    rw [ha] at g1
    unfold sbody scnt shd at g5
    rw [ha] at g5
    simp only at g1 g5
    by_cases hv : vs.length = 0
    · refine g1 ?_
      have hz0 : vs.zip ls = [] := List.eq_nil_of_length_eq_zero (by omega)
      simp [stexts, hz0, tells]
    · obtain ⟨h1, h2⟩ := tells_last (vs.zip ls) [] 0 rfl (by omega) (fun e => hv (by rw [← hz, e]; rfl))
      rw [hz] at h1
      have hcons : (stexts x vs ls).take ((stexts x vs ls).length - 1) = shead x vs.length :: (tells (vs.zip ls) []).take ((tells (vs.zip ls) []).length - 1) := by
        unfold stexts
        rw [List.length_cons, show (tells (vs.zip ls) []).length + 1 - 1 = ((tells (vs.zip ls) []).length - 1) + 1 by omega, List.take_succ_cons]
      rw [hcons] at g5
      simp only [List.tail_cons, List.headD_cons] at g5
      have e4 : num (((shead x vs.length).drop 8).take 8) = vs.length := by
        rw [shead, drop_left' (by simp [le_length]), List.take_of_length_le (by simp [le_length]), u64_in (by omega) (by omega), num_le, show (256 : Int) ^ 8 = 18446744073709551616 from rfl]; omega
      rw [e4] at g5
      have hfl : (tells (vs.zip ls) []).flatten.length = ((tells (vs.zip ls) []).take ((tells (vs.zip ls) []).length - 1)).flatten.length + 9 * (1 + (0 + vs.length - 1) % 100) := by
        have hi : (tells (vs.zip ls) []).length - 1 < (tells (vs.zip ls) []).length := by omega
        have hsp : tells (vs.zip ls) [] = (tells (vs.zip ls) []).take ((tells (vs.zip ls) []).length - 1) ++ [(tells (vs.zip ls) []).getD ((tells (vs.zip ls) []).length - 1) []] := by
          conv => lhs; rw [← List.take_append_drop ((tells (vs.zip ls) []).length - 1) (tells (vs.zip ls) []), List.drop_eq_getElem_cons hi]
          rw [show (tells (vs.zip ls) []).length - 1 + 1 = (tells (vs.zip ls) []).length by omega, List.drop_length, List.getD_eq_getElem?_getD, List.getElem?_eq_getElem hi]
          rfl
        have := congrArg (fun l => l.flatten.length) hsp
        simp only [List.flatten_append, List.length_append, List.flatten_singleton] at this
        rw [h1] at this
        exact this
      rw [tells_all, flat_length, hz] at hfl
      omega
/-- A byte of the last sum another one. -/
theorem sdec_spoilt {x : Int} {vs : List Int} {ls : List Bool} (h0 : 0 ≤ x) (h1 : x ≤ 9223372036854775807) (hl : vs.length = ls.length) (hn : vs.length ≤ 1000) (hv : ∀ v ∈ vs, 0 ≤ v ∧ v < 18446744073709551616) {a : Nat} (ha : a < 4) {b : Int} (b0 : 0 ≤ b) (b1 : b ≤ 255) :
    ∃ v, (encs (stexts x vs ls)).getD ((encs (stexts x vs ls)).length - 1 - a) 0 = v ∧ (encs (stexts x vs ls)).length - 1 - a < (encs (stexts x vs ls)).length ∧ 1 + a ≤ (encs (stexts x vs ls)).length ∧
      Bytes ((encs (stexts x vs ls)).set ((encs (stexts x vs ls)).length - 1 - a) (bits .xor .u8 v b)) ∧
      sdec ((encs (stexts x vs ls)).set ((encs (stexts x vs ls)).length - 1 - a) (bits .xor .u8 v b)) = if b = 0 then (x, vs.zip ls, 0) else (0, [], 3) := by
  have hp : 0 < (stexts x vs ls).length := by simp [stexts]
  obtain ⟨v, e1, e2, e3, e4, e5, e6, e7⟩ := all_spoilt (stexts_ok (x := x) vs ls) (i := (stexts x vs ls).length - 1) (by omega) (j := 3 - a) (by omega) b0 b1
  have hlen := congrArg List.length (encs_last hp)
  rw [List.length_append, enc_length] at hlen
  have hk : (encs ((stexts x vs ls).take ((stexts x vs ls).length - 1))).length + 2 + ((stexts x vs ls).getD ((stexts x vs ls).length - 1) []).length + (3 - a) = (encs (stexts x vs ls)).length - 1 - a := by omega
  rw [hk] at e1 e2 e5 e6 e7
  refine ⟨v, e1, e2, by omega, e5, ?_⟩
  by_cases hb : b = 0
  · rw [if_pos hb, e7 hb]
    have hz1 : (vs.zip ls).map Prod.fst = vs := List.map_fst_zip (by omega)
    have hz2 : (vs.zip ls).map Prod.snd = ls := List.map_snd_zip (by omega)
    have := (sdec_enc (r := vs.zip ls) (fun y hy => hv _ (List.of_mem_zip (show (y.1, y.2) ∈ vs.zip ls from hy)).1) (by rw [List.length_zip]; omega) h0 h1).2
    rw [hz1, hz2, show senc x vs ls = encs (stexts x vs ls) from if_pos ⟨h0, hl⟩] at this
    exact this
  · rw [if_neg hb] at e6
    rw [if_neg hb]
    unfold sdec
    rw [e6, if_pos (by simp)]
end Go.Proofs.Ytaohmpblmlkioaa.Oct
