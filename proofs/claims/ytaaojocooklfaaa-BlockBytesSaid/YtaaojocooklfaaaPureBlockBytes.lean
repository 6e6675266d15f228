/- BlockBytes: bytes that are a block are the block of their text. Conditions: none. -/
import Derived.Test.YtaaojocooklfaaaBlkS
import Derived.Test.YtaaojocooklfaaaHx
import Derived.Test.YtaaojocooklfaaaPAllx2
namespace Go.Proofs.Ytaaojocooklfaaa.PAll
open Go.RowKit Go.Proofs.Ytaaojocooklfaaa.Oct Go.Proofs.Ytaaojocooklfaaa.HX Go.Proofs.YtaaojocooklfaaaW.PrintWords Go.Proofs.YtaaojocooklfaaaW.PrintLast Go.Proofs.YtaaojocooklfaaaW.PrintMore
attribute [local go_sem] max2_int min2_int max_two min_two max_three min_three max_four min_four   -- for this text's walks alone
set_option linter.unusedVariables false
set_option linter.unusedSimpArgs false

theorem shown_true (w : World) : Calls Try.prog 10 #[] w fun e w' => e = .returned (.bool true) ∧ Below w.heap.size w w' := cartagelaw04_shown.calls 200 true w (shown_is 200 (Nat.le_refl _))

set_option maxHeartbeats 4000000 in
set_option maxRecDepth 100000 in
theorem cartagelaw04_BlockBytes.calls (A0 : Option Addr) (c0 : Nat) (l0 : List Int) (w : World) (hr0 : Kd.C (Kd.int .u8) w A0 l0.length l0) (hc0 : l0.length ≤ c0) (hb0 : Bytes l0) :
    Calls Try.prog 4 #[.slice A0 l0.length c0] w fun e w' => e = .returned (.bool true) ∧ Below w.heap.size w w' := by
  obtain ⟨t, ht, hmin, hcut, hC, hle, hm⟩ := cut_min 22 5 Try.underlying22 info5 hr0 hc0 2000
  have hbt : Bytes t := ht ▸ hb0.take 2000
  have hd := decode_is hbt (by omega) 20000 (by omega)
  have hds := dec_size hbt
  have hdt := dec_text hbt
  have hok := enc_dec hbt
  have herr := dec_err t
  generalize dec t = r at hd hds hdt hok herr
  obtain ⟨r1, r2, r3⟩ := r
  simp only at hds hdt hok herr
  have HC := Aside0.mk hC
  have HT := Aside0.mk ht
  have HD := Aside0.mk hd
  have HX := Aside0.mk hok
  have HR0 := Aside0.mk hr0
  have HDS := Aside0.mk hds
  have HDT := Aside0.mk hdt
  have HBT := Aside0.mk hbt
  have HLE := Aside0.mk hle
  have hm0 := hr0.2.1
  rw [show ((2000 : Nat) : Int) = 2000 from rfl] at hmin
  clear hC ht hd hok hr0 hds hdt hbt hb0 hle hc0
  by_cases he : r3 = 0
  · subst he
    clear herr
    go_enter Try.func4, Try.ntmps4
    go_wp2_with fail
    refine (shown_true _).mono ?_
    rintro e w1 ⟨rfl, hb1⟩
    have B1 := Aside0.mk hb1
    clear hb1
    go_wp2_with fail
    refine (block_Decode.calls 20000 _ _ t r1 r2 0 _ (Kd.C_below HC.out B1.out) HLE.out HD.out).mono ?_
    rintro e w2 ⟨v2, rfl, ho2, hb2⟩
    obtain ⟨A2, c2, rfl⟩ := Kd.R_slice ho2
    have O2 := Aside0.mk (R_C ho2)
    have B2 := Aside0.mk (below_step B1.out hb2)
    clear ho2 hb2
    have he3 := encode_is HDT.out.1 HDT.out.2 20000 (by omega)
    have HE3 := Aside0.mk he3
    clear he3
    go_wp2_with fail
    refine (block_Encode.calls 20000 (fun k => k < w2.heap.size) _ _ r1 (enc r1) 0 _ (Kd.V_mk O2.out.2.1 (Kd.C_F (Kd.heap_int .u8) O2.out.2.2)) HE3.out).mono ?_
    rintro e w3 ⟨v3, rfl, ho3, hb3⟩
    obtain ⟨A3, c3, rfl⟩ := Kd.R_slice ho3
    have O3 := Aside0.mk (R_C ho3)
    have B3 := Aside0.mk (below_step B2.out hb3)
    clear ho3 hb3
    obtain ⟨q, hq, hj, hcut2, hCq, hleq⟩ := cut_at 22 5 Try.underlying22 info5 (Kd.C_below HC.out B3.out) HLE.out r2 HDS.out.1 HDS.out.2.2.1
    have hv3 := fun n => Kd.C_string (P := Try.prog) (A := A3) (c := c3) Try.underlying22 Try.underlying5 Try.underlying9 (Kd.C_drewN O3.out.2.2 n)
    have hvq := fun n => Kd.C_string (P := Try.prog) (A := A0) (c := c0) Try.underlying22 Try.underlying5 Try.underlying9 (Kd.C_drewN hCq n)
    have hs : ((strOfNums (enc r1)).toList == (strOfNums q).toList) = true := by
      rw [HX.out trivial, hq]; simp
    have hl : (r2 == ((enc r1).length : Int)) = true := by
      rw [enc_length, (HDS.out.2.2.2 trivial).2.symm]; simp
    have h2 : r2 ≤ (t.length : Int) := HDS.out.2.2.1
    have h2d : decide (r2 ≤ (t.length : Int)) = true := decide_eq_true h2
    have hmin2 : (if (t.length : Int) < r2 then (t.length : Int) else r2) = r2 := if_neg (by omega)
    clear hq hj hCq hleq
    go_wp2
    go_quiet (fail)
    go_wp2
    go_ret
    exact ⟨rfl, pw_below_drewN B3.out _⟩
  · have h3 : r1 = [] ∧ r2 = 0 ∧ (r3 = 2 ∨ r3 = 3) := by
      rcases herr with h | h | h
      · exact absurd h he
      · injection h with h1 h2; injection h2 with h2 h3; exact ⟨h1, h2, .inl h3⟩
      · injection h with h1 h2; injection h2 with h2 h3; exact ⟨h1, h2, .inr h3⟩
    clear herr he
    obtain ⟨rfl, rfl, h3⟩ := h3
    rcases h3 with rfl | rfl
    all_goals
      go_enter Try.func4, Try.ntmps4
      go_wp2_with fail
      refine (shown_true _).mono ?_
      rintro e w1 ⟨rfl, hb1⟩
      have B1 := Aside0.mk hb1
      clear hb1
      go_wp2_with fail
      refine (block_Decode.calls 20000 _ _ t [] 0 _ _ (Kd.C_below HC.out B1.out) HLE.out HD.out).mono ?_
      rintro e w2 ⟨v2, rfl, ho2, hb2⟩
      obtain ⟨A2, c2, rfl⟩ := Kd.R_slice ho2
      have B2 := Aside0.mk (below_step B1.out hb2)
      clear ho2 hb2
      simp only [List.length_nil]
      go_wp2
      repeat (go_quiet (fail); try go_wp2)
      go_ret
      exact ⟨rfl, by first | exact B2.out | exact pw_below_drewN B2.out _⟩
theorem cartagelaw04_BlockBytes.walk (a0 : Option Addr) (len0 cap0 : Nat) (z0 : List Int) (w : World) (w0 : (a0 = none ∧ len0 = 0 ∧ cap0 = 0 ∧ z0 = []) ∨ ∃ x, a0 = some x ∧ len0 ≤ cap0 ∧ cap0 ≤ maxLen ∧ z0.length = cap0 ∧ (∀ i, i < z0.length → w.cell? (x.add i) = some (.int .u8 (z0.getD i 0))) ∧ ∀ n ∈ z0, (Lit.int .u8 n).wf = true) (y0 : len0 * 1 ≤ 140737488351232) :
    Calls Try.prog 4 #[.slice a0 len0 cap0] w fun e w' => e = .returned (.bool true) ∧ Below w.heap.size w w' := by
  obtain ⟨l0, rfl, hr0, hm0, hw0, hc0⟩ := ReadsInt.ofRowC w0
  exact cartagelaw04_BlockBytes.calls _ _ l0 w (Kd.C_of_reads (d := (0 : Int)) (h1 := fun _ => rfl) hr0) hc0 (bytes_of_wf hw0)
end Go.Proofs.Ytaaojocooklfaaa.PAll
