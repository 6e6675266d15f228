/- What is read out of a config's body, and that what was told is read. -/
import Derived.Test.YtaohmpblmlkioaaStA
namespace Go.Proofs.Ytaohmpblmlkioaa.Oct
open Go.RowKit Go.Proofs.Ytaohmpblmlkioaa.PAll Go.Proofs.YtaohmpblmlkioaaW.PrintWords Go.Proofs.YtaohmpblmlkioaaW.PrintLast Go.Proofs.YtaohmpblmlkioaaW.PrintMore
/-- The vertex at the j-th place of a body. -/
def vat (body : List Int) (j : Nat) : Int × Bool := (num ((body.drop (9 * j)).take 8), body.getD (9 * j + 8) 0 == 1)
def vats (body : List Int) (m : Nat) : List (Int × Bool) := (List.range m).map (vat body)
theorem vats_succ (body : List Int) (m : Nat) : vats body (m + 1) = vats body m ++ [vat body m] := by simp [vats, List.range_succ]
theorem vats_length (body : List Int) (m : Nat) : (vats body m).length = m := by simp [vats]
theorem tells_flat : ∀ (r : List (Int × Bool)) (t : List Int), (tells r t).flatten = if r = [] then [] else t ++ r.flatMap vtx
  | [], t => by simp [tells]
  | x :: r, t => by
    have hc : ¬ (x :: r = []) := by simp
    rw [if_neg hc]
    unfold tells
    by_cases h : r = []
    · subst h; simp [tells]
    · by_cases g : (t ++ vtx x).length = 900
      · rw [if_pos (.inl g), List.flatten_cons, tells_flat r [], if_neg h]; simp
      · rw [if_neg (fun k => k.elim g h), tells_flat r _, if_neg h]; simp
theorem tells_all (r : List (Int × Bool)) : (tells r []).flatten = r.flatMap vtx := by
  rw [tells_flat]; split
  · rename_i h; simp [h]
  · simp
theorem flat_length (r : List (Int × Bool)) : (r.flatMap vtx).length = 9 * r.length := by
  induction r with
  | nil => rfl
  | cons x r ih => rw [List.flatMap_cons, List.length_append, vtx_length, ih, List.length_cons]; omega
theorem flat_drop (r : List (Int × Bool)) (j : Nat) : (r.flatMap vtx).drop (9 * j) = (r.drop j).flatMap vtx := by
  induction r generalizing j with
  | nil => simp
  | cons x r ih =>
    cases j with
    | zero => simp
    | succ j =>
      rw [List.flatMap_cons, show 9 * (j + 1) = (vtx x).length + 9 * j by rw [vtx_length]; omega, List.drop_append, List.drop_succ_cons, ← ih j]
      simp
theorem vat_flat {r : List (Int × Bool)} {j : Nat} (hj : j < r.length) (hv : 0 ≤ r[j].1 ∧ r[j].1 < 18446744073709551616) : vat (r.flatMap vtx) j = r[j] := by
  have hd := flat_drop r j
  rw [List.drop_eq_getElem_cons hj, List.flatMap_cons] at hd
  unfold vat
  have h8 : (r.flatMap vtx).getD (9 * j + 8) 0 = if r[j].2 = true then 1 else 0 := by
    have := congrArg (fun l => l.getD 8 0) hd
    simp only [List.getD_eq_getElem?_getD, List.getElem?_drop] at this
    rw [List.getD_eq_getElem?_getD, this, vtx, List.append_assoc, List.getElem?_append_right (by simp [le_length])]
    simp [le_length]
  rw [h8, hd, vtx, List.append_assoc, take_left' (by simp [le_length])]
  clear hd h8
  generalize r[j] = x at hv ⊢
  obtain ⟨v, b⟩ := x
  simp only at hv ⊢
  have hn : num (le 8 v) = v := by
    rw [num_le, show (256 : Int) ^ 8 = 18446744073709551616 from rfl]; omega
  rw [hn]
  cases b <;> rfl
theorem vats_flat {r : List (Int × Bool)} (hv : ∀ x ∈ r, 0 ≤ x.1 ∧ x.1 < 18446744073709551616) : vats (r.flatMap vtx) r.length = r := by
  apply List.ext_getElem
  · rw [vats_length]
  · intro i h1 h2
    simp only [vats, List.getElem_map, List.getElem_range]
    exact vat_flat h2 (hv _ (List.getElem_mem h2))
end Go.Proofs.Ytaohmpblmlkioaa.Oct
