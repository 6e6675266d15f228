/- BlockRest, over lists alone: a block, and what stands behind it, is read as its text. Conditions: bytes. -/
import Derived.Test.YtaaojocooklfaaaBlkS
import Derived.Test.YtaaojocooklfaaaPAllx2
namespace Go.Proofs.Ytaaojocooklfaaa.Pure
open Go.RowKit Go.Proofs.Ytaaojocooklfaaa.PAll Go.Proofs.YtaaojocooklfaaaW.PrintWords Go.Proofs.YtaaojocooklfaaaW.PrintLast Go.Proofs.Ytaaojocooklfaaa.Oct
theorem BlockRest : cartagelaw04_BlockRest.Pure := by
  intro l0 l1 _ h0 hw0 _ h1 hw1
  refine ⟨20000, ?_⟩
  have hb0 := (bytes_of_wf hw0).take 1000
  have hb1 := (bytes_of_wf hw1).take 100
  have hn0 : (l0.take 1000).length ≤ 1000 := by rw [List.length_take]; omega
  have hn1 : (l1.take 100).length ≤ 100 := by rw [List.length_take]; omega
  unfold cartagelaw04_BlockRest.f
  rw [shown_is _ (by omega), Option.bind_some, show (1000 : Int) = ((1000 : Nat) : Int) from rfl, show (100 : Int) = ((100 : Nat) : Int) from rfl, if_pos (mn_lo _ _), if_pos (mn_hi _ _), if_pos (mn_lo _ _), if_pos (mn_hi _ _), mn_take, mn_take]
  generalize l0.take 1000 = t at hb0 hn0 ⊢
  generalize l1.take 100 = r at hb1 hn1 ⊢
  have hl := enc_length t
  rw [encode_is hb0 hn0 _ (by omega), Option.bind_some, Option.bind_some, if_pos (by rw [List.length_nil]; show 0 + (enc t).length < _; omega), Option.bind_some, List.nil_append, if_pos (by show (enc t).length + _ < _; omega),
    decode_is ((enc_bytes hb0).append hb1) (by rw [List.length_append]; omega) _ (by omega), dec_enc hb0 hn0 r, Option.bind_some]
  simp only [if_true]
  rw [wrap_in (by omega) (by omega), if_pos rfl, hl]
  simp
end Go.Proofs.Ytaaojocooklfaaa.Pure
