/- The contracts of block, over lists alone. Conditions: bytes; rows within a bound. -/
import Derived.Test.YtaohmpblmlkioaaBlkB
import Derived.Test.YtaohmpblmlkioaaHx
import Derived.Test.YtaohmpblmlkioaaPAllx1
import Derived.Test.YtaohmpblmlkioaaPAllx3
namespace Go.Proofs.Ytaohmpblmlkioaa.PAll
open Go.RowKit Go.Proofs.Ytaohmpblmlkioaa.Oct Go.Proofs.Ytaohmpblmlkioaa.HX Go.Proofs.YtaohmpblmlkioaaW.PrintWords Go.Proofs.YtaohmpblmlkioaaW.PrintLast Go.Proofs.YtaohmpblmlkioaaW.PrintMore
set_option linter.unusedVariables false
theorem encode_w {A : Option Addr} {c : Nat} {l : List Int} {w : World} (h : Kd.C (Kd.int .u8) w A l.length l) (hc : l.length ≤ c) (hb : Bytes l) :
    Calls Try.prog 30 #[.slice A l.length c] w fun e w' => ∃ A' c', e = .returned (.tuple #[.slice A' (if l.length ≤ 1000 then enc l else []).length c', .int .i64 (if l.length ≤ 1000 then 0 else 1)]) ∧ (if l.length ≤ 1000 then enc l else []).length ≤ c' ∧ Kd.C (Kd.int .u8) w' A' (if l.length ≤ 1000 then enc l else []).length (if l.length ≤ 1000 then enc l else []) ∧ Below w.heap.size w w' := by
  have he : block_Encode.f 20000 l = some (if l.length ≤ 1000 then enc l else [], if l.length ≤ 1000 then 0 else 1) := by
    by_cases g : l.length ≤ 1000
    · rw [if_pos g, if_pos g]; exact encode_is hb g 20000 (by omega)
    · rw [if_neg g, if_neg g]; exact encode_big (by omega) 20000
  refine (block_Encode.calls 20000 (fun k => k < w.heap.size) _ _ l _ _ _ (Kd.V_mk hc (Kd.C_F (Kd.heap_int .u8) h)) he).mono ?_
  rintro e w3 ⟨v3, rfl, ho3, hb3⟩
  obtain ⟨A3, c3, rfl⟩ := Kd.R_slice ho3
  have O3 := R_C ho3
  exact ⟨A3, c3, rfl, O3.2.1, O3.2.2, hb3⟩
theorem decode_w {A : Option Addr} {c : Nat} {l : List Int} {w : World} (h : Kd.C (Kd.int .u8) w A l.length l) (hc : l.length ≤ c) (hb : Bytes l) (hl : l.length ≤ 1000000) :
    Calls Try.prog 32 #[.slice A l.length c] w fun e w' => ∃ A' c', e = .returned (.tuple #[.slice A' (dec l).1.length c', .int .i64 (dec l).2.1, .int .i64 (dec l).2.2]) ∧ (dec l).1.length ≤ c' ∧ Kd.C (Kd.int .u8) w' A' (dec l).1.length (dec l).1 ∧ Below w.heap.size w w' := by
  refine (block_Decode.calls 20000 _ _ l _ _ _ _ h hc (decode_is hb (by omega) 20000 (by omega))).mono ?_
  rintro e w3 ⟨v3, rfl, ho3, hb3⟩
  obtain ⟨A3, c3, rfl⟩ := Kd.R_slice ho3
  have O3 := R_C ho3
  exact ⟨A3, c3, rfl, O3.2.1, O3.2.2, hb3⟩
theorem all_w {A : Option Addr} {c : Nat} {l : List Int} {w : World} (h : Kd.C (Kd.int .u8) w A l.length l) (hc : l.length ≤ c) (hb : Bytes l) (hl : l.length ≤ 1000000) :
    Calls Try.prog 22 #[.slice A l.length c] w fun e w' => ∃ A' c', e = .returned (.tuple #[.slice A' (all l).1.length c', .int .i64 (all l).2.1, .int .i64 (all l).2.2]) ∧ (all l).1.length ≤ c' ∧ Kd.C (Kd.slice 5 (Kd.int .u8)) w' A' (all l).1.length (all l).1 ∧ Below w.heap.size w w' := by
  refine (block_All.calls 2000000 _ _ l _ _ _ _ h hc (all_is hb hl 2000000 (by omega))).mono ?_
  rintro e w3 ⟨v3, rfl, ho3, hb3⟩
  obtain ⟨A3, c3, rfl⟩ := Kd.S_slice ho3
  have O3 := R_C (Kd.S_R ho3)
  exact ⟨A3, c3, rfl, O3.2.1, O3.2.2, hb3⟩
/-- The texts' blocks, or none. -/
def joined (l : List (List Int)) : List Int := if ∀ t ∈ l, t.length ≤ 1000 then encs l else []
def joinErr (l : List (List Int)) : Int := if ∀ t ∈ l, t.length ≤ 1000 then 0 else 1
theorem join_is' {l : List (List Int)} (hb : ∀ t ∈ l, Bytes t) (hl : l.length ≤ 100000) (k : Nat) (hk : 10030 + l.length < k) : block_Join.f k l = some (joined l, joinErr l) := by
  rw [join_is hb hl k hk]
  unfold joined joinErr
  by_cases g : ∀ t ∈ l, t.length ≤ 1000
  · rw [if_pos g, if_pos g, if_pos g]
  · rw [if_neg g, if_neg g, if_neg g]
theorem joined_ok {l : List (List Int)} (h : ∀ t ∈ l, t.length ≤ 1000) : joined l = encs l ∧ joinErr l = 0 := ⟨if_pos h, if_pos h⟩
theorem joined_no {l : List (List Int)} (h : ¬ ∀ t ∈ l, t.length ≤ 1000) : joined l = [] ∧ joinErr l = 1 := ⟨if_neg h, if_neg h⟩
theorem join_w {A : Option Addr} {c : Nat} {l : List (List Int)} {w : World} (h : Kd.C (Kd.slice 5 (Kd.int .u8)) w A l.length l) (hc : l.length ≤ c) (hb : ∀ t ∈ l, Bytes t) (hl : l.length ≤ 100000) :
    Calls Try.prog 19 #[.slice A l.length c] w fun e w' => ∃ A' c', e = .returned (.tuple #[.slice A' (joined l).length c', .int .i64 (joinErr l)]) ∧ (joined l).length ≤ c' ∧ Kd.C (Kd.int .u8) w' A' (joined l).length (joined l) ∧ Below w.heap.size w w' := by
  refine (block_Join.calls 200000 _ _ l _ _ _ h hc (join_is' hb hl 200000 (by omega))).mono ?_
  rintro e w3 ⟨v3, rfl, ho3, hb3⟩
  obtain ⟨A3, c3, rfl⟩ := Kd.R_slice ho3
  have O3 := R_C ho3
  exact ⟨A3, c3, rfl, O3.2.1, O3.2.2, hb3⟩
end Go.Proofs.Ytaohmpblmlkioaa.PAll
