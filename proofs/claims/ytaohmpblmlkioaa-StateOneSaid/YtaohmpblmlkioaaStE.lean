/- What is read of blocks: its texts are bytes, and no longer than what they were read of; the parts of state.Decode in list form. Conditions: bytes. -/
import Derived.Test.YtaohmpblmlkioaaStC
namespace Go.Proofs.Ytaohmpblmlkioaa.Oct
open Go.RowKit Go.Proofs.Ytaohmpblmlkioaa.PAll Go.Proofs.YtaohmpblmlkioaaW.PrintWords Go.Proofs.YtaohmpblmlkioaaW.PrintLast Go.Proofs.YtaohmpblmlkioaaW.PrintMore
theorem alls_fit {b : List Int} (hb : Bytes b) (f : Nat) : ∀ (acc : List (List Int)) (at_ : Int), 0 ≤ at_ → Texts acc → (acc.flatten.length : Int) ≤ at_ → at_ ≤ b.length → (alls f b acc at_).1.flatten.length ≤ b.length ∧ Texts (alls f b acc at_).1 := by
  induction f with
  | zero => intro acc at_ h0 ht ha hl; exact ⟨by simp only [alls]; omega, ht⟩
  | succ f ih =>
    intro acc at_ h0 ht ha hl
    simp only [alls]
    by_cases g : (b.length : Int) ≤ at_
    · rw [if_pos g]; exact ⟨by simp only; omega, ht⟩
    · rw [if_neg g]
      obtain ⟨s0, s1, s2, s3⟩ := dec_size (hb.drop at_.toNat)
      by_cases e : (dec (b.drop at_.toNat)).2.2 = 0
      · rw [if_pos e]
        obtain ⟨s4, s5⟩ := s3 e
        refine ih _ _ (by omega) (fun t h => ?_) ?_ ?_
        · rcases List.mem_append.1 h with h | h
          · exact ht t h
          · rw [List.mem_singleton.1 h]; exact dec_text (hb.drop _)
        · rw [List.flatten_append, List.length_append, List.flatten_singleton]; omega
        · rw [List.length_drop] at s2; omega
      · rw [if_neg e]
        exact ⟨by simp, fun t h => by cases h⟩
theorem all_fit {b : List Int} (hb : Bytes b) : (all b).1.flatten.length ≤ b.length ∧ Texts (all b).1 := alls_fit hb _ [] 0 (by omega) (fun t h => by cases h) (by simp) (by omega)
theorem flat_bytes {l : List (List Int)} (h : Texts l) : Bytes l.flatten := fun x hx => by
  obtain ⟨t, ht, hx⟩ := List.mem_flatten.1 hx
  exact (h t ht).1 x hx
theorem shd_bytes {b : List Int} (hb : Bytes b) : Bytes (shd b) := by
  have := (all_fit hb).2
  unfold shd
  cases h : (all b).1 with
  | nil => exact Bytes.nil
  | cons t l => rw [h] at this; exact (this t (by simp)).1
theorem sbody_fit {b : List Int} (hb : Bytes b) : Bytes (sbody b) ∧ (sbody b).length ≤ b.length := by
  have := all_fit hb
  unfold sbody
  cases h : (all b).1 with
  | nil => exact ⟨Bytes.nil, by simp⟩
  | cons t l =>
    rw [h] at this
    refine ⟨flat_bytes this.2.tail, ?_⟩
    have h2 := this.1
    rw [List.flatten_cons, List.length_append] at h2
    rw [List.tail_cons]; omega
theorem num8 {l : List Int} (h : Bytes l) (hl : l.length ≤ 8) : 0 ≤ num l ∧ num l < 18446744073709551616 := by
  refine ⟨num_nonneg h, ?_⟩
  have h1 := num_lt h
  have h2 := Nat.pow_le_pow_right (show 0 < 256 by decide) hl
  rw [show (256 : Nat) ^ 8 = 18446744073709551616 from rfl] at h2
  have h' := Int.ofNat_le.2 h2
  rw [Int.natCast_pow] at h'
  exact Int.lt_of_lt_of_le h1 h'
theorem sstep_in {b : List Int} (hb : Bytes b) : 0 ≤ sstep b ∧ sstep b < 18446744073709551616 := num8 ((shd_bytes hb).take _) (by rw [List.length_take]; omega)
theorem scnt_in {b : List Int} (hb : Bytes b) : 0 ≤ scnt b ∧ scnt b < 18446744073709551616 := num8 (((shd_bytes hb).drop _).take _) (by rw [List.length_take]; omega)
theorem vat_in {b : List Int} (hb : Bytes b) (j : Nat) : 0 ≤ (vat b j).1 ∧ (vat b j).1 < 18446744073709551616 := num8 ((hb.drop _).take _) (by rw [List.length_take]; omega)
theorem vats_in {b : List Int} (hb : Bytes b) (m : Nat) : ∀ x ∈ vats b m, 0 ≤ x.1 ∧ x.1 < 18446744073709551616 := fun x hx => by
  obtain ⟨j, _, rfl⟩ := List.mem_map.1 hx
  exact vat_in hb j
end Go.Proofs.Ytaohmpblmlkioaa.Oct
