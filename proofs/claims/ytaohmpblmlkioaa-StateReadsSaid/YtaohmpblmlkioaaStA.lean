/- What configs are as bytes. Conditions: up to a thousand vertices. -/
import Derived.Test.YtaohmpblmlkioaaBlkB
import Derived.Test.YtaohmpblmlkioaaPAllx2
namespace Go.Proofs.Ytaohmpblmlkioaa.Oct
open Go.RowKit Go.Proofs.Ytaohmpblmlkioaa.PAll Go.Proofs.YtaohmpblmlkioaaW.PrintWords Go.Proofs.YtaohmpblmlkioaaW.PrintLast Go.Proofs.YtaohmpblmlkioaaW.PrintMore
/-- A vertex's nine bytes. -/
def vtx (x : Int × Bool) : List Int := le 8 x.1 ++ [if x.2 = true then 1 else 0]
theorem vtx_length (x : Int × Bool) : (vtx x).length = 9 := by simp [vtx, le_length]
theorem vtx_bytes (x : Int × Bool) : Bytes (vtx x) := (le_bytes 8 _).append (fun y hy => by
  rw [List.mem_singleton.1 hy]; split <;> omega)
/-- The texts to come, of the vertices to come and the text so far. -/
def tells : List (Int × Bool) → List Int → List (List Int)
  | [], _ => []
  | x :: r, t => if (t ++ vtx x).length = 900 ∨ r = [] then (t ++ vtx x) :: tells r [] else tells r (t ++ vtx x)
theorem tells_length : ∀ (r : List (Int × Bool)) (t : List Int), (tells r t).length ≤ r.length
  | [], _ => by simp [tells]
  | x :: r, t => by
    unfold tells
    split
    · have := tells_length r []; simp; omega
    · have := tells_length r (t ++ vtx x); simp; omega
theorem tells_le : ∀ (r : List (Int × Bool)) (t : List Int), t.length % 9 = 0 → t.length < 900 → ∀ x ∈ tells r t, x.length ≤ 900
  | [], _, _, _ => by simp [tells]
  | y :: r, t, h9, hl => by
    have hv := vtx_length y
    have hlen : (t ++ vtx y).length = t.length + 9 := by rw [List.length_append, hv]
    unfold tells
    intro x hx
    split at hx
    · rcases List.mem_cons.1 hx with rfl | hx
      · omega
      · exact tells_le r [] (by simp) (by simp) x hx
    · rename_i hno
      exact tells_le r (t ++ vtx y) (by omega) (by rw [hlen]; have : ¬ (t ++ vtx y).length = 900 := fun h => hno (.inl h); omega) x hx
theorem tells_bytes : ∀ (r : List (Int × Bool)) (t : List Int), Bytes t → ∀ x ∈ tells r t, Bytes x
  | [], _, _ => by simp [tells]
  | y :: r, t, hb => by
    unfold tells
    intro x hx
    split at hx
    · rcases List.mem_cons.1 hx with rfl | hx
      · exact hb.append (vtx_bytes y)
      · exact tells_bytes r [] (fun x hx => by simp at hx) x hx
    · exact tells_bytes r _ (hb.append (vtx_bytes y)) x hx
/-- The head's text. -/
def shead (step : Int) (n : Nat) : List Int := le 8 (IntKind.u64.wrap step) ++ le 8 (IntKind.u64.wrap (n : Int))
theorem shead_length (step : Int) (n : Nat) : (shead step n).length = 16 := by simp [shead, le_length]
theorem shead_bytes (step : Int) (n : Nat) : Bytes (shead step n) := (le_bytes 8 _).append (le_bytes 8 _)
def stexts (step : Int) (vs : List Int) (ls : List Bool) : List (List Int) := shead step vs.length :: tells (vs.zip ls) []
def SRight (step : Int) (vs : List Int) (ls : List Bool) : Prop := 0 ≤ step ∧ vs.length = ls.length
instance (step : Int) (vs : List Int) (ls : List Bool) : Decidable (SRight step vs ls) := inferInstanceAs (Decidable (_ ∧ _))
def senc (step : Int) (vs : List Int) (ls : List Bool) : List Int := if SRight step vs ls then encs (stexts step vs ls) else []
def serr (step : Int) (vs : List Int) (ls : List Bool) : Int := if SRight step vs ls then 0 else 1
theorem pair_is (k : Nat) (hk : 8 < k) (a b : Int) : state_pair.f k a b = some (le 8 (IntKind.u64.wrap a) ++ le 8 (IntKind.u64.wrap b)) := by
  unfold state_pair.f
  rw [put_is k [] 8 _ (by simp) hk]
  simp only [Option.bind_some]
  rw [put_is k _ 8 _ (by simp [le_length, sz8]) hk]
  simp [sz8]
theorem wr_up (i : Nat) (h : i ≤ 1000) : wrap64 ((i : Int) + 1) = ((i + 1 : Nat) : Int) := (wrap_in (by omega) (by omega)).trans (by omega)
theorem wr_dn (n : Nat) (h : n ≤ 1000) : wrap64 ((n : Int) - 1) = (n : Int) - 1 := wrap_in (by omega) (by omega)
theorem sencode_loop {vs : List Int} {ls : List Bool} (hlen : vs.length = ls.length) (hn : vs.length ≤ 1000) (d : Nat) : ∀ (k i : Nat) (texts : List (List Int)) (text : List Int), i + d = vs.length → 30000 + d < k → texts.length ≤ i + 1 → (∀ t ∈ texts, Bytes t ∧ t.length ≤ 1000) → Bytes text → text.length % 9 = 0 → text.length < 900 →
    state_Encode.l0 k (vs.length : Int) texts text vs (vs.length : Int) (i : Int) vs ls = some (encs (texts ++ tells ((vs.zip ls).drop i) text), 0) := by
  induction d with
  | zero =>
    intro k i texts text hd hk hx ht hb h9 hl
    obtain ⟨k, rfl⟩ : ∃ m, k = m + 1 := ⟨k - 1, by omega⟩
    simp only [state_Encode.l0]
    rw [if_neg (by omega), List.drop_of_length_le (by rw [List.length_zip]; omega)]
    have h := join_is (l := texts) (fun t h => (ht t h).1) (by omega) k (by omega)
    rw [if_pos (fun t h => (ht t h).2)] at h
    simp [tells, h]
  | succ d ih =>
    intro k i texts text hd hk hx ht hb h9 hl
    obtain ⟨k, rfl⟩ : ∃ m, k = m + 1 := ⟨k - 1, by omega⟩
    have hi : i < vs.length := by omega
    have hi' : i < ls.length := by omega
    have hz : i < (vs.zip ls).length := by rw [List.length_zip]; omega
    have e1 : rd vs (i : Int) = vs[i] := by unfold rd; rw [List.getD_eq_getElem?_getD, show ((i : Int)).toNat = i by omega, List.getElem?_eq_getElem hi]; rfl
    have e2 : rdOf false ls (i : Int) = ls[i] := by unfold rdOf; rw [List.getD_eq_getElem?_getD, show ((i : Int)).toNat = i by omega, List.getElem?_eq_getElem hi']; rfl
    have c1 : (i : Int) < (vs.length : Int) := by omega
    have c2 : (0 : Int) ≤ (i : Int) := by omega
    have c3 : (i : Int) < (ls.length : Int) := by omega
    have hlp : (text ++ le 8 vs[i]).length < 140737488355328 := by rw [List.length_append, le_length]; omega
    have hput := put_is k text 8 vs[i] (by omega) (by omega)
    rw [sz8] at hput
    have hw := wr_up i (by omega)
    have hw1 := wr_dn vs.length hn
    have hstep : ∀ y : List Int, Bytes y → y.length = text.length + 9 →
        (if (y.length : Int) = 900 then (if texts.length < 5864062014805 then (state_Encode.l0 k (vs.length : Int) (texts ++ [y]) ([] : List Int) vs (vs.length : Int) ((i + 1 : Nat) : Int) vs ls) else (none)) else (if (i : Int) = (vs.length : Int) - 1 then (if texts.length < 5864062014805 then (state_Encode.l0 k (vs.length : Int) (texts ++ [y]) ([] : List Int) vs (vs.length : Int) ((i + 1 : Nat) : Int) vs ls) else (none)) else (state_Encode.l0 k (vs.length : Int) texts y vs (vs.length : Int) ((i + 1 : Nat) : Int) vs ls))) =
        some (encs (texts ++ (if y.length = 900 ∨ (vs.zip ls).drop (i + 1) = [] then y :: tells ((vs.zip ls).drop (i + 1)) [] else tells ((vs.zip ls).drop (i + 1)) y)), 0) := by
      clear hput hw hw1 hlp e1 e2 c1 c2 c3
      intro y hy hyl
      have hnil : (vs.zip ls).drop (i + 1) = [] ↔ i + 1 = vs.length := by
        rw [List.drop_eq_nil_iff, List.length_zip]; omega
      have hend := ih k (i + 1) (texts ++ [y]) [] (by omega) (by omega) (by simp; omega) (fun t h => by
        rcases List.mem_append.1 h with h | h
        · exact ht t h
        · rw [List.mem_singleton.1 h]; exact ⟨hy, by omega⟩) (fun x hx => by simp at hx) (by simp) (by simp)
      have hx5 : texts.length < 5864062014805 := by omega
      by_cases g1 : y.length = 900
      · rw [if_pos (by omega), if_pos hx5, hend, if_pos (.inl g1)]; simp
      · by_cases g2 : i + 1 = vs.length
        · rw [if_neg (by omega), if_pos (by omega), if_pos hx5, hend, if_pos (.inr (hnil.2 g2))]; simp
        · rw [if_neg (by omega), if_neg (by omega), if_neg (fun h => h.elim g1 (fun h => g2 (hnil.1 h)))]
          exact ih k (i + 1) texts y (by omega) (by omega) (by omega) ht hy (by omega) (by omega)
    have hs := hstep _ (hb.append (vtx_bytes (vs[i], ls[i]))) (by rw [List.length_append, vtx_length])
    rw [List.drop_eq_getElem_cons hz, List.getElem_zip, tells, ← hs]
    clear hs hstep ih
    simp only [state_Encode.l0]
    rw [if_pos c1, if_pos c2, if_pos c1, if_pos c3, e1, e2, hput, hw, hw1]
    simp only [Option.bind_some]
    have ev : ∀ b, vtx (vs[i], b) = le 8 vs[i] ++ [if b = true then 1 else 0] := fun b => rfl
    rw [ev]
    cases ls[i] with
    | true => rw [if_pos rfl, if_pos hlp, if_pos rfl, List.append_assoc]
    | false => simp only [Bool.false_eq_true, if_false]; rw [if_pos hlp, List.append_assoc]
theorem sencode_is {vs : List Int} {ls : List Bool} (hn : vs.length ≤ 1000) (step : Int) (k : Nat) (hk : 40000 < k) : state_Encode.f k step vs ls = some (senc step vs ls, serr step vs ls) := by
  unfold state_Encode.f senc serr
  obtain ⟨k, rfl⟩ : ∃ m, k = m + 1 := ⟨k - 1, by omega⟩
  by_cases g1 : step < 0
  · have hno : ¬ SRight step vs ls := fun h => by have := h.1; omega
    rw [if_pos g1, if_neg hno, if_neg hno]; simp [state_Encode.j0]
  · by_cases g2 : vs.length = ls.length
    · have hok : SRight step vs ls := ⟨by omega, g2⟩
      rw [if_neg g1, if_pos (by omega), if_pos hok, if_pos hok, decide_eq_false (by omega)]
      simp only [state_Encode.j0]
      rw [if_neg (by decide), pair_is k (by omega)]
      simp only [Option.bind_some]
      have := sencode_loop g2 hn vs.length k 0 [shead step vs.length] [] (by omega) (by omega) (by simp) (fun t h => by
        rw [List.mem_singleton.1 h]; exact ⟨shead_bytes _ _, by rw [shead_length]; omega⟩) (fun x hx => by simp at hx) (by simp) (by simp)
      simpa [stexts, shead] using this
    · have hno : ¬ SRight step vs ls := fun h => g2 h.2
      rw [if_neg g1, if_neg (by omega), if_neg hno, if_neg hno]; simp [state_Encode.j0]
end Go.Proofs.Ytaohmpblmlkioaa.Oct
