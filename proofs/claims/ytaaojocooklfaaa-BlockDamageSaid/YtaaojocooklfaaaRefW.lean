/- The contracts of the reference, and of 'same', over lists alone. Conditions: bytes; rows within a bound. -/
import Derived.Test.YtaaojocooklfaaaBlkW
import Derived.Test.YtaaojocooklfaaaBlkS
import Derived.Test.YtaaojocooklfaaaBlkQ
import Derived.Test.YtaaojocooklfaaaBlkJ
import Derived.Test.YtaaojocooklfaaaPAllx6
namespace Go.Proofs.Ytaaojocooklfaaa.PAll
open Go.RowKit Go.Proofs.Ytaaojocooklfaaa.Oct Go.Proofs.Ytaaojocooklfaaa.HX Go.Proofs.YtaaojocooklfaaaW.PrintWords Go.Proofs.YtaaojocooklfaaaW.PrintLast Go.Proofs.YtaaojocooklfaaaW.PrintMore
set_option linter.unusedVariables false
theorem shown_true (w : World) : Calls Try.prog 10 #[] w fun e w' => e = .returned (.bool true) ∧ Below w.heap.size w w' := cartagelaw04_shown.calls 200 true w (shown_is 200 (Nat.le_refl _))
theorem ref_encode_w {A : Option Addr} {c : Nat} {l : List Int} {w : World} (h : Kd.C (Kd.int .u8) w A l.length l) (hc : l.length ≤ c) (hb : Bytes l) (hl : l.length ≤ 9000) :
    Calls Try.prog 14 #[.slice A l.length c] w fun e w' => ∃ A' c', e = .returned (.slice A' (enc l).length c') ∧ (enc l).length ≤ c' ∧ Kd.C (Kd.int .u8) w' A' (enc l).length (enc l) ∧ Below w.heap.size w w' := by
  refine (cartageref04_Encode.calls 100000 _ _ l _ _ h hc (ref_encode_is hb hl 100000 (by omega))).mono ?_
  rintro e w3 ⟨v3, rfl, ho3, hb3⟩
  obtain ⟨A3, c3, rfl⟩ := Kd.R_slice ho3
  have O3 := R_C ho3
  exact ⟨A3, c3, rfl, O3.2.1, O3.2.2, hb3⟩
theorem ref_decode_w {A : Option Addr} {c : Nat} {l : List Int} {w : World} (h : Kd.C (Kd.int .u8) w A l.length l) (hc : l.length ≤ c) (hb : Bytes l) (hl : l.length ≤ 1000000) :
    Calls Try.prog 18 #[.slice A l.length c] w fun e w' => ∃ A' c', e = .returned (.tuple #[.slice A' (dec l).1.length c', .int .i64 (dec l).2.1, .int .i64 (dec l).2.2]) ∧ (dec l).1.length ≤ c' ∧ Kd.C (Kd.int .u8) w' A' (dec l).1.length (dec l).1 ∧ Below w.heap.size w w' := by
  refine (cartageref04_Decode.calls 100000 _ _ l _ _ _ _ h hc (ref_decode_is hb (by omega) 100000 (by omega))).mono ?_
  rintro e w3 ⟨v3, rfl, ho3, hb3⟩
  obtain ⟨A3, c3, rfl⟩ := Kd.R_slice ho3
  have O3 := R_C ho3
  exact ⟨A3, c3, rfl, O3.2.1, O3.2.2, hb3⟩
theorem ref_all_w {A : Option Addr} {c : Nat} {l : List Int} {w : World} (h : Kd.C (Kd.int .u8) w A l.length l) (hc : l.length ≤ c) (hb : Bytes l) (hl : l.length ≤ 1000000) :
    Calls Try.prog 20 #[.slice A l.length c] w fun e w' => ∃ A' c', e = .returned (.tuple #[.slice A' (all l).1.length c', .int .i64 (all l).2.1, .int .i64 (all l).2.2]) ∧ (all l).1.length ≤ c' ∧ Kd.C (Kd.slice 5 (Kd.int .u8)) w' A' (all l).1.length (all l).1 ∧ Below w.heap.size w w' := by
  refine (cartageref04_All.calls 2000000 _ _ l _ _ _ _ h hc (ref_all_is hb hl 2000000 (by omega))).mono ?_
  rintro e w3 ⟨v3, rfl, ho3, hb3⟩
  obtain ⟨A3, c3, rfl⟩ := Kd.S_slice ho3
  have O3 := R_C (Kd.S_R ho3)
  exact ⟨A3, c3, rfl, O3.2.1, O3.2.2, hb3⟩
def joinOk (l : List (List Int)) : Bool := decide (∀ t ∈ l, t.length ≤ 1000)
theorem ref_join_w {A : Option Addr} {c : Nat} {l : List (List Int)} {w : World} (h : Kd.C (Kd.slice 5 (Kd.int .u8)) w A l.length l) (hc : l.length ≤ c) (hb : ∀ t ∈ l, Bytes t) (hl : l.length ≤ 100000) :
    Calls Try.prog 16 #[.slice A l.length c] w fun e w' => ∃ A' c', e = .returned (.tuple #[.slice A' (joined l).length c', .bool (joinOk l)]) ∧ (joined l).length ≤ c' ∧ Kd.C (Kd.int .u8) w' A' (joined l).length (joined l) ∧ Below w.heap.size w w' := by
  have hj : cartageref04_Join.f 200000 l = some (joined l, joinOk l) := by
    rw [ref_join_is hb hl 200000 (by omega)]
    unfold joined joinOk
    by_cases g : ∀ t ∈ l, t.length ≤ 1000
    · rw [if_pos g, if_pos g, decide_eq_true g]
    · rw [if_neg g, if_neg g, decide_eq_false g]
  refine (cartageref04_Join.calls 200000 _ _ l _ _ _ h hc hj).mono ?_
  rintro e w3 ⟨v3, rfl, ho3, hb3⟩
  obtain ⟨A3, c3, rfl⟩ := Kd.R_slice ho3
  have O3 := R_C ho3
  exact ⟨A3, c3, rfl, O3.2.1, O3.2.2, hb3⟩
theorem few_w {A : Option Addr} {c : Nat} {l : List (List Int)} {w : World} (h : Kd.C (Kd.slice 5 (Kd.int .u8)) w A l.length l) (hc : l.length ≤ c) :
    Calls Try.prog 13 #[.slice A l.length c] w fun e w' => ∃ A' c', e = .returned (.slice A' (few l).length c') ∧ (few l).length ≤ c' ∧ Kd.S (Kd.slice 5 (Kd.int .u8)) 22 w' w.heap.size (fun _ => True) (.slice A' (few l).length c') (few l) ∧ Below w.heap.size w w' := by
  refine (cartagelaw04_few.calls 30 _ _ l _ _ h hc (few_is l h.2.1 30 (by omega))).mono ?_
  rintro e w3 ⟨v3, rfl, ho3, hb3⟩
  obtain ⟨A3, c3, rfl⟩ := Kd.S_slice ho3
  have O3 := R_C (Kd.S_R ho3)
  exact ⟨A3, c3, rfl, O3.2.1, ho3, hb3⟩
theorem same_w {A : Option Addr} {c : Nat} {l : List (List Int)} {w : World} (h : Kd.C (Kd.slice 5 (Kd.int .u8)) w A l.length l) (hc : l.length ≤ c) {A1 : Option Addr} {c1 : Nat} (h1 : Kd.C (Kd.slice 5 (Kd.int .u8)) w A1 l.length l) (hc1 : l.length ≤ c1) (n : Nat) :
    Calls Try.prog 17 #[.slice A l.length c, .slice A1 l.length c1] (w.drewN n) fun e w' => e = .returned (.bool true) ∧ ∃ m, w' = w.drewN m := by
  refine Calls.quiet_of ((cartagelaw04_same.calls _ _ l _ _ l true _ (Kd.C_drewN h n) hc (Kd.C_drewN h1 n) hc1 (by simp [cartagelaw04_same.f, cartagelaw04_same.eqv])).mono ?_)
  rintro e w3 ⟨rfl, ⟨m, rfl⟩⟩
  exact ⟨rfl, m, rfl⟩
theorem same_w0 {A : Option Addr} {c : Nat} {l : List (List Int)} {w : World} (h : Kd.C (Kd.slice 5 (Kd.int .u8)) w A l.length l) (hc : l.length ≤ c) {A1 : Option Addr} {c1 : Nat} (h1 : Kd.C (Kd.slice 5 (Kd.int .u8)) w A1 l.length l) (hc1 : l.length ≤ c1) :
    Calls Try.prog 17 #[.slice A l.length c, .slice A1 l.length c1] w fun e w' => e = .returned (.bool true) ∧ ∃ m, w' = w.drewN m := by
  refine ((cartagelaw04_same.calls _ _ l _ _ l true _ h hc h1 hc1 (by simp [cartagelaw04_same.f, cartagelaw04_same.eqv])).mono ?_)
  rintro e w3 ⟨rfl, ⟨m, rfl⟩⟩
  exact ⟨rfl, m, rfl⟩
end Go.Proofs.Ytaaojocooklfaaa.PAll
