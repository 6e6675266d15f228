/- Bounds and Of answer as the document's reference does, for every number of vertices, of shards, and every vertex; what may not be is ErrArg. No condition. -/
import Derived.Test.YtkkfhgapfcjpdaaPAllx2
import Derived.Test.YtkkfhgapfcjpdaaLib
namespace Go.Proofs.Ytkkfhgapfcjpdaa.Pure
open Go.RowKit Go.Proofs.Ytkkfhgapfcjpdaa.PAll Go.Proofs.YtkkfhgapfcjpdaaW.PrintWords Go.Proofs.YtkkfhgapfcjpdaaW.PrintLast Go.Proofs.Ytkkfhgapfcjpdaa.Lib

theorem PartTells.loop {n s v : Int} (h : may n s) (r1 r2 : Int) (hr : part_Of.f n s v = some (r1, r2)) (l : List Int) (hl : l.length ≤ 5000) (d : Nat) : ∀ (k i : Nat), i + d = l.length → d + s.toNat + 1 < k →
    cartagelaw11_PartTells.l0 k n s v true l r1 r2 l (i : Int) = some true := by
  induction d with
  | zero =>
    intro k i hd hk
    obtain ⟨k, rfl⟩ : ∃ m, k = m + 1 := ⟨k - 1, by omega⟩
    simp only [cartagelaw11_PartTells.l0]
    rw [if_neg (by omega)]
    by_cases hv : 0 ≤ v ∧ v < n
    · rw [of_is h hv.1 hv.2] at hr
      simp only [Option.some.injEq, Prod.mk.injEq] at hr
      obtain ⟨rfl, rfl⟩ := hr
      rw [if_neg (by omega), if_neg (by omega), ref_of_is h hv.1 hv.2 k (by omega)]
      simp
    · rw [of_not (by intro x; exact hv x.2)] at hr
      simp only [Option.some.injEq, Prod.mk.injEq] at hr
      obtain ⟨rfl, rfl⟩ := hr
      by_cases h0 : v < 0
      · rw [if_pos h0]; simp
      · rw [if_neg h0, if_pos (by omega)]; simp
  | succ d ih =>
    intro k i hd hk
    obtain ⟨k, rfl⟩ : ∃ m, k = m + 1 := ⟨k - 1, by omega⟩
    simp only [cartagelaw11_PartTells.l0]
    rw [if_pos (by omega), if_pos (by omega), if_pos (by omega), if_pos trivial, wrap_in (by omega) (by omega), show ((i : Int) + 1) = ((i + 1 : Nat) : Int) by omega]
    exact ih k (i + 1) (by omega) (by omega)

theorem PartTells : cartagelaw11_PartTells.Pure := by
  intro n s v _ _ _
  by_cases h : may n s
  · have hs := h.2.2.2
    refine ⟨2 * s.toNat + 10, ?_⟩
    obtain ⟨r1, r2, hr⟩ : ∃ r1 r2, part_Of.f n s v = some (r1, r2) := by
      unfold part_Of.f; split <;> exact ⟨_, _, rfl⟩
    unfold cartagelaw11_PartTells.f
    rw [shown_is _ (by omega), bounds_is h _ (by omega), hr, ref_right_yes h, ref_bounds_is h _ (by omega)]
    simp only [Option.bind_some, if_true]
    obtain ⟨k, hk⟩ : ∃ k, 2 * s.toNat + 10 = k + 1 := ⟨2 * s.toNat + 9, by omega⟩
    rw [hk]
    simp only [cartagelaw11_PartTells.j0]
    rw [if_neg (by simp)]
    exact PartTells.loop h r1 r2 hr _ (by rw [bs_length]; omega) (bs n s (s.toNat + 1)).length k 0 (by omega) (by rw [bs_length]; omega)
  · refine ⟨10, ?_⟩
    unfold cartagelaw11_PartTells.f
    rw [shown_is _ (by omega), bounds_not h, of_not (fun x => h x.1), ref_right_no h]
    simp

end Go.Proofs.Ytkkfhgapfcjpdaa.Pure
