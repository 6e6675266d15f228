/- What the printed functions of rows of blocks come to: Join, All. Conditions: bytes; rows within a bound. -/
import Derived.Test.YtaohmpblmlkioaaBlkA
import Derived.Test.YtaohmpblmlkioaaPAllx1
import Derived.Test.YtaohmpblmlkioaaPAllx3
namespace Go.Proofs.Ytaohmpblmlkioaa.Oct
open Go.RowKit Go.Proofs.Ytaohmpblmlkioaa.PAll Go.Proofs.YtaohmpblmlkioaaW.PrintWords Go.Proofs.YtaohmpblmlkioaaW.PrintLast Go.Proofs.YtaohmpblmlkioaaW.PrintMore

/-- Texts of bytes, each of at most a thousand. -/
def Texts (l : List (List Int)) : Prop := ∀ t ∈ l, Bytes t ∧ t.length ≤ 1000
def encs (l : List (List Int)) : List Int := (l.map enc).flatten
theorem encs_nil : encs [] = [] := rfl
theorem encs_cons (t : List Int) (l : List (List Int)) : encs (t :: l) = enc t ++ encs l := by simp [encs]
theorem encs_append (a b : List (List Int)) : encs (a ++ b) = encs a ++ encs b := by simp [encs]
theorem encs_bytes {l : List (List Int)} (h : ∀ t ∈ l, Bytes t) : Bytes (encs l) := by
  induction l with
  | nil => exact Bytes.nil
  | cons t l ih => rw [encs_cons]; exact (enc_bytes (h t (by simp))).append (ih fun x hx => h x (by simp [hx]))
theorem encs_length_le {l : List (List Int)} (h : ∀ t ∈ l, t.length ≤ 1000) : (encs l).length ≤ 1006 * l.length := by
  induction l with
  | nil => simp [encs_nil]
  | cons t l ih =>
    have := ih fun x hx => h x (by simp [hx])
    have := h t (by simp)
    rw [encs_cons, List.length_append, enc_length, List.length_cons]; omega

/-- What is read from 'at' on. -/
def alls : Nat → List Int → List (List Int) → Int → List (List Int) × Int × Int
  | 0, _, acc, _ => (acc, 0, 0)
  | f + 1, b, acc, at_ => if (b.length : Int) ≤ at_ then (acc, 0, 0) else
      if (dec (b.drop at_.toNat)).2.2 = 0 then alls f b (acc ++ [(dec (b.drop at_.toNat)).1]) (at_ + (dec (b.drop at_.toNat)).2.1) else ([], at_, (dec (b.drop at_.toNat)).2.2)
def all (b : List Int) : List (List Int) × Int × Int := alls (b.length + 1) b [] 0
theorem all_loop {b : List Int} (hb : Bytes b) (hl : b.length ≤ 1000000) (f : Nat) : ∀ (k : Nat) (acc : List (List Int)) (at_ : Int), 0 ≤ at_ → (b.length : Int) < at_ + f → 1 ≤ f → (acc.length : Int) ≤ at_ → 10030 + f < k →
    block_All.l0 k b acc at_ = some (alls f b acc at_) := by
  induction f with
  | zero => intro k acc at_ h0 h1 hf; omega
  | succ f ih =>
    intro k acc at_ h0 h1 hf ha hk
    obtain ⟨k, rfl⟩ : ∃ m, k = m + 1 := ⟨k - 1, by omega⟩
    simp only [block_All.l0, alls]
    by_cases g : (b.length : Int) ≤ at_
    · rw [if_neg (by omega), if_pos g]
    · rw [if_pos (by omega), if_neg g, if_pos (by omega), if_pos (by omega), decode_is (hb.drop _) (by simp only [List.length_drop]; omega) k (by omega)]
      simp only [Option.bind_some]
      obtain ⟨s0, s1, s2, s3⟩ := dec_size (hb.drop at_.toNat)
      by_cases e : (dec (b.drop at_.toNat)).2.2 = 0
      · have := (s3 e).1
        rw [if_pos e, if_pos e, if_pos (by omega)]
        simp only [List.length_drop] at s2
        rw [wrap_in (by omega) (by omega)]
        exact ih k _ _ (by omega) (by omega) (by omega) (by simp; omega) (by omega)
      · rw [if_neg e, if_neg e]
theorem all_is {b : List Int} (hb : Bytes b) (hl : b.length ≤ 1000000) (k : Nat) (hk : 10031 + b.length < k) : block_All.f k b = some (all b) :=
  all_loop hb hl (b.length + 1) k [] 0 (by omega) (by omega) (by omega) (by simp) (by omega)

/-- Fuel. -/
theorem alls_more {b : List Int} (hb : Bytes b) (f : Nat) : ∀ (g : Nat) (acc : List (List Int)) (at_ : Int), 0 ≤ at_ → (b.length : Int) < at_ + f → 1 ≤ f → f ≤ g → alls g b acc at_ = alls f b acc at_ := by
  induction f with
  | zero => intro g acc at_ h0 h1 hf; omega
  | succ f ih =>
    intro g acc at_ h0 h1 hf hg
    obtain ⟨g, rfl⟩ : ∃ m, g = m + 1 := ⟨g - 1, by omega⟩
    simp only [alls]
    by_cases h : (b.length : Int) ≤ at_
    · rw [if_pos h, if_pos h]
    · obtain ⟨s0, s1, s2, s3⟩ := dec_size (hb.drop at_.toNat)
      rw [if_neg h, if_neg h]
      by_cases e : (dec (b.drop at_.toNat)).2.2 = 0
      · have := (s3 e).1
        simp only [List.length_drop] at s2
        rw [if_pos e, if_pos e]
        exact ih g _ _ (by omega) (by omega) (by omega) (by omega)
      · rw [if_neg e, if_neg e]
/-- Blocks ahead of what stands behind: the texts are read, and then what stands behind. -/
theorem alls_encs {r : List Int} (l : List (List Int)) : Texts l → ∀ (acc : List (List Int)) (f : Nat) (pre : List Int), alls (f + l.length) (pre ++ (encs l ++ r)) acc (pre.length : Int) = alls f (pre ++ (encs l ++ r)) (acc ++ l) ((pre.length : Int) + (encs l).length) := by
  induction l with
  | nil => intro _ acc f pre; simp [encs]
  | cons t l ih =>
    intro h acc f pre
    have ht := h t (by simp)
    have hd : (pre ++ (encs (t :: l) ++ r)).drop ((pre.length : Int)).toNat = enc t ++ (encs l ++ r) := by
      rw [Int.toNat_natCast, drop_left' rfl, encs_cons, List.append_assoc]
    have hdec := dec_enc ht.1 ht.2 (encs l ++ r)
    rw [List.length_cons, ← Nat.add_assoc]
    conv => lhs; rw [alls]
    have hlen : (pre ++ (encs (t :: l) ++ r)).length = pre.length + (t.length + 6) + (encs l).length + r.length := by
      simp [encs_cons, enc_length]; omega
    rw [if_neg (by omega), hd, hdec]
    simp only [if_true]
    have := ih (fun x hx => h x (by simp [hx])) (acc ++ [t]) f (pre ++ enc t)
    rw [show pre ++ enc t ++ (encs l ++ r) = pre ++ (encs (t :: l) ++ r) by simp [encs_cons]] at this
    rw [show ((pre ++ enc t).length : Int) = (pre.length : Int) + ((t.length : Int) + 6) by simp [enc_length]] at this
    rw [this]
    simp only [List.append_assoc, List.singleton_append]
    congr 1
    simp [encs_cons, enc_length]; omega
theorem all_encs {l : List (List Int)} (h : Texts l) : all (encs l) = (l, 0, 0) := by
  unfold all
  have hb := encs_bytes (fun t ht => (h t ht).1)
  have hge : l.length ≤ (encs l).length := by
    clear hb
    induction l with
    | nil => simp
    | cons t l ih =>
      have := ih fun x hx => h x (by simp [hx])
      simp [encs_cons, enc_length]; omega
  have e := alls_encs (r := []) l h [] ((encs l).length + 1 - l.length) []
  simp only [List.nil_append, List.append_nil, List.length_nil] at e
  rw [show (encs l).length + 1 - l.length + l.length = (encs l).length + 1 by omega] at e
  rw [show (0 : Int) = ((0 : Nat) : Int) from rfl, e]
  obtain ⟨m, hm⟩ : ∃ m, (encs l).length + 1 - l.length = m + 1 := ⟨(encs l).length - l.length, by omega⟩
  rw [hm]
  simp only [alls]
  rw [if_pos (by omega)]; rfl
theorem Texts.tail {t : List Int} {l : List (List Int)} (h : Texts (t :: l)) : Texts l := fun x hx => h x (by simp [hx])
theorem encs_ge {l : List (List Int)} : l.length ≤ (encs l).length := by
  induction l with
  | nil => simp
  | cons t l ih => simp [encs_cons, enc_length]; omega
/-- Blocks, and behind them what is wrong: there it is told. -/
theorem all_bad {l : List (List Int)} (h : Texts l) {r : List Int} (hr : (dec r).2.2 ≠ 0) (h0 : 0 < r.length) : all (encs l ++ r) = ([], ((encs l).length : Int), (dec r).2.2) := by
  unfold all
  have hge := @encs_ge l
  have e := alls_encs (r := r) l h [] ((encs l ++ r).length + 1 - l.length) []
  simp only [List.nil_append, List.length_nil] at e
  rw [show (encs l ++ r).length + 1 - l.length + l.length = (encs l ++ r).length + 1 by simp; omega] at e
  rw [show (0 : Int) = ((0 : Nat) : Int) from rfl, e]
  obtain ⟨m, hm⟩ : ∃ m, (encs l ++ r).length + 1 - l.length = m + 1 := ⟨(encs l ++ r).length - l.length, by simp; omega⟩
  rw [hm]
  simp only [alls]
  rw [if_neg (by simp; omega), show (((0 : Nat) : Int) + ((encs l).length : Int)).toNat = (encs l).length by omega, drop_left' rfl, if_neg hr]
  simp

theorem rd_row (l : List (List Int)) (i : Nat) : rd_L1 l (i : Int) = l.getD i [] := by
  unfold rd_L1
  simp
theorem join_loop {l : List (List Int)} (hb : ∀ t ∈ l, Bytes t) (hl : l.length ≤ 100000) (d : Nat) : ∀ (k i : Nat), i + d = l.length → 10030 + d < k → (∀ t ∈ l.take i, t.length ≤ 1000) →
    block_Join.l0 k (encs (l.take i)) l (l.length : Int) (i : Int) = some (if ∀ t ∈ l.drop i, t.length ≤ 1000 then (encs l, 0) else ([], 1)) := by
  induction d with
  | zero =>
    intro k i hd hk hi
    obtain ⟨k, rfl⟩ : ∃ m, k = m + 1 := ⟨k - 1, by omega⟩
    simp only [block_Join.l0]
    rw [if_neg (by omega), List.drop_of_length_le (by omega), List.take_of_length_le (by omega), if_pos (by simp)]
  | succ d ih =>
    intro k i hd hk hi
    obtain ⟨k, rfl⟩ : ∃ m, k = m + 1 := ⟨k - 1, by omega⟩
    have hlt : i < l.length := by omega
    have hx := hb _ (List.getElem_mem hlt)
    have e : rd_L1 l (i : Int) = l[i] := by rw [rd_row, List.getD_eq_getElem?_getD, List.getElem?_eq_getElem hlt]; rfl
    simp only [block_Join.l0]
    rw [if_pos (by omega), if_pos (by omega), if_pos (by omega), e, List.drop_eq_getElem_cons hlt]
    by_cases g : l[i].length ≤ 1000
    · have hle := encs_length_le hi
      rw [List.length_take] at hle
      have hm : min i l.length ≤ 100000 := by omega
      have h9 := ih k (i + 1) (by omega) (by omega) (fun t ht => by
        rw [List.take_succ_eq_append_getElem hlt] at ht
        rcases List.mem_append.1 ht with ht | ht
        · exact hi t ht
        · rw [List.mem_singleton.1 ht]; exact g)
      rw [encode_is hx g k (by omega)]
      simp only [Option.bind_some]
      rw [if_pos trivial, if_pos (by rw [enc_length]; omega), wrap_in (by omega) (by omega), show ((i : Int) + 1) = ((i + 1 : Nat) : Int) by omega]
      have e2 : encs (l.take (i + 1)) = encs (l.take i) ++ enc l[i] := by
        rw [List.take_succ_eq_append_getElem hlt, encs_append]; simp [encs]
      rw [← e2, h9]
      congr 1
      by_cases q : ∀ t ∈ l.drop (i + 1), t.length ≤ 1000
      · rw [if_pos q, if_pos (fun t ht => by
          rcases List.mem_cons.1 ht with rfl | ht
          · exact g
          · exact q t ht)]
      · rw [if_neg q, if_neg (fun h => q fun t ht => h t (List.mem_cons_of_mem _ ht))]
    · rw [encode_big (by omega) k]
      simp only [Option.bind_some]
      rw [if_neg (by simp), if_neg (fun h => g (h _ List.mem_cons_self))]
theorem join_is {l : List (List Int)} (hb : ∀ t ∈ l, Bytes t) (hl : l.length ≤ 100000) (k : Nat) (hk : 10030 + l.length < k) : block_Join.f k l = some (if ∀ t ∈ l, t.length ≤ 1000 then (encs l, 0) else ([], 1)) := by
  have := join_loop hb hl l.length k 0 (by omega) hk (by simp)
  simpa [block_Join.f, encs_nil] using this
end Go.Proofs.Ytaohmpblmlkioaa.Oct
