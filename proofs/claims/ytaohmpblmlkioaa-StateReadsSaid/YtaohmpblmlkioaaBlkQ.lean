/- What the reference's Join and All come to: the same. Conditions: bytes; rows within a bound. -/
import Derived.Test.YtaohmpblmlkioaaBlkB
import Derived.Test.YtaohmpblmlkioaaBlkR
import Derived.Test.YtaohmpblmlkioaaPAllx7
namespace Go.Proofs.Ytaohmpblmlkioaa.Oct
open Go.RowKit Go.Proofs.Ytaohmpblmlkioaa.PAll Go.Proofs.YtaohmpblmlkioaaW.PrintWords Go.Proofs.YtaohmpblmlkioaaW.PrintLast Go.Proofs.YtaohmpblmlkioaaW.PrintMore

theorem ref_all_loop {b : List Int} (hb : Bytes b) (hl : b.length ≤ 1000000) (f : Nat) : ∀ (k : Nat) (acc : List (List Int)) (at_ : Int), 0 ≤ at_ → (b.length : Int) < at_ + f → 1 ≤ f → (acc.length : Int) ≤ at_ → 90200 + f < k →
    cartageref04_All.l0 k b acc at_ = some (alls f b acc at_) := by
  induction f with
  | zero => intro k acc at_ h0 h1 hf; omega
  | succ f ih =>
    intro k acc at_ h0 h1 hf ha hk
    obtain ⟨k, rfl⟩ : ∃ m, k = m + 1 := ⟨k - 1, by omega⟩
    simp only [cartageref04_All.l0, alls]
    by_cases g : (b.length : Int) ≤ at_
    · rw [if_neg (by omega), if_pos g]
    · rw [if_pos (by omega), if_neg g, if_pos (by omega), if_pos (by omega), ref_decode_is (hb.drop _) (by simp only [List.length_drop]; omega) k (by omega)]
      simp only [Option.bind_some]
      obtain ⟨s0, s1, s2, s3⟩ := dec_size (hb.drop at_.toNat)
      by_cases e : (dec (b.drop at_.toNat)).2.2 = 0
      · have := (s3 e).1
        rw [if_pos e, if_pos e, if_pos (by omega)]
        simp only [List.length_drop] at s2
        rw [wrap_in (by omega) (by omega)]
        exact ih k _ _ (by omega) (by omega) (by omega) (by simp; omega) (by omega)
      · rw [if_neg e, if_neg e]
theorem ref_all_is {b : List Int} (hb : Bytes b) (hl : b.length ≤ 1000000) (k : Nat) (hk : 90201 + b.length < k) : cartageref04_All.f k b = some (all b) :=
  ref_all_loop hb hl (b.length + 1) k [] 0 (by omega) (by omega) (by omega) (by simp) (by omega)
end Go.Proofs.Ytaohmpblmlkioaa.Oct
