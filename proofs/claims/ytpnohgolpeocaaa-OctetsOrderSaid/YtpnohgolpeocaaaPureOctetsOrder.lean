/- A number with more digits is the greater one, and each has one digit for each seven bits. No condition. -/
import Derived.Test.YtpnohgolpeocaaaOctS
import Derived.Test.YtpnohgolpeocaaaOctV
import Derived.Test.YtpnohgolpeocaaaPAllx7
namespace Go.Proofs.Ytpnohgolpeocaaa.Pure
open Go.RowKit Go.Proofs.Ytpnohgolpeocaaa.PAll Go.Proofs.YtpnohgolpeocaaaW.PrintWords Go.Proofs.YtpnohgolpeocaaaW.PrintLast Go.Proofs.YtpnohgolpeocaaaW.PrintMore Go.Proofs.Ytpnohgolpeocaaa.Oct

theorem OctetsOrder.loop (f : Nat) : ∀ (k : Nat) (x : Int) (l : List Int) (i : Nat), 0 ≤ x → x < 2 * 128 ^ f → i + f = 10 → l.length + 1 = (vd f x).length + i → f < k →
    cartagelaw01_OctetsOrder.l0 k x true l (i : Int) = some true := by
  induction f with
  | zero =>
    intro k x l i h0 h1 hi hl hk
    obtain ⟨k, rfl⟩ : ∃ m, k = m + 1 := ⟨k - 1, by omega⟩
    have : x < 2 := by simpa using h1
    simp only [cartagelaw01_OctetsOrder.l0]
    rw [if_neg (by omega), if_pos trivial]
    simp only [vd, List.length_singleton] at hl
    simp; omega
  | succ f ih =>
    intro k x l i h0 h1 hi hl hk
    obtain ⟨k, rfl⟩ : ∃ m, k = m + 1 := ⟨k - 1, by omega⟩
    simp only [cartagelaw01_OctetsOrder.l0]
    simp only [vd] at hl
    by_cases hx : x ≥ 128
    · rw [if_pos hx, wrap_in (by omega) (by omega), show ((i : Int) + 1) = ((i + 1 : Nat) : Int) by omega]
      rw [if_pos hx] at hl
      exact ih k (x / 128) l (i + 1) (by omega) (by rw [Int.pow_succ] at h1; omega) (by omega) (by simp only [List.length_cons] at hl; omega) (by omega)
    · rw [if_neg hx, if_pos trivial]
      rw [if_neg hx, List.length_singleton] at hl
      simp; omega
theorem OctetsOrder : cartagelaw01_OctetsOrder.Pure := by
  intro a b ha hb
  have ha := wf_u64 ha
  have hb := wf_u64 hb
  refine ⟨201, ?_⟩
  unfold cartagelaw01_OctetsOrder.f
  rw [shown_is _ (by omega), putvar_is _ _ _ ha.1 ha.2 (by simp) (by omega), putvar_is _ _ _ hb.1 hb.2 (by simp) (by omega)]
  simp only [Option.bind_some, List.nil_append]
  have m1 := fun h => vd_mono 9 a b ha.1 h
  have m2 := fun h => vd_mono 9 b a hb.1 h
  have fin : cartagelaw01_OctetsOrder.j0 201 a true (vd 9 a) false = some true := by
    rw [show (201 : Nat) = 200 + 1 from rfl]
    simp only [cartagelaw01_OctetsOrder.j0]
    rw [if_neg (by simp)]
    exact OctetsOrder.loop 9 200 a _ 1 ha.1 (by rw [show (2 : Int) * 128 ^ 9 = 18446744073709551616 from rfl]; exact ha.2) rfl rfl (by omega)
  by_cases h1 : ((vd 9 a).length : Int) < ((vd 9 b).length : Int)
  · rw [if_pos h1, if_neg (fun h => by have := m2 h; omega), if_neg (by omega)]; exact fin
  · rw [if_neg h1]
    by_cases h2 : ((vd 9 a).length : Int) > ((vd 9 b).length : Int)
    · rw [if_pos h2, decide_eq_false (fun h => by have := m1 h; omega)]; exact fin
    · rw [if_neg h2]; exact fin
end Go.Proofs.Ytpnohgolpeocaaa.Pure
