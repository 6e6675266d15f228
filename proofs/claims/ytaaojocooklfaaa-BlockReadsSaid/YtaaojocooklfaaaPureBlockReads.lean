/- BlockReads: bytes are blocks, or wrong, as the document says. Conditions: none. -/
import Derived.Test.YtaaojocooklfaaaRefW
namespace Go.Proofs.Ytaaojocooklfaaa.PAll
open Go.RowKit Go.Proofs.Ytaaojocooklfaaa.Oct Go.Proofs.Ytaaojocooklfaaa.HX Go.Proofs.YtaaojocooklfaaaW.PrintWords Go.Proofs.YtaaojocooklfaaaW.PrintLast Go.Proofs.YtaaojocooklfaaaW.PrintMore
attribute [local go_sem] max2_int min2_int max_two min_two max_three min_three max_four min_four   -- for this text's walks alone
set_option linter.unusedVariables false
set_option linter.unusedSimpArgs false

set_option maxHeartbeats 4000000 in
set_option maxRecDepth 100000 in
theorem cartagelaw04_BlockReads.calls (A0 : Option Addr) (c0 : Nat) (l0 : List Int) (w : World) (hr0 : Kd.C (Kd.int .u8) w A0 l0.length l0) (hc0 : l0.length ≤ c0) (hb0 : Bytes l0) :
    Calls Try.prog 6 #[.slice A0 l0.length c0] w fun e w' => e = .returned (.bool true) ∧ Below w.heap.size w w' := by
  obtain ⟨t, ht, hmin, hcut, hC, hle, hm⟩ := cut_min 22 5 Try.underlying22 info5 hr0 hc0 3000
  have hbt : Bytes t := ht ▸ hb0.take 3000
  have hm0 := hr0.2.1
  rw [show ((3000 : Nat) : Int) = 3000 from rfl] at hmin
  clear ht hb0 hr0 hc0
  have HC := Aside0.mk hC
  have HBT := Aside0.mk hbt
  have HLE := Aside0.mk hle
  clear hC hbt hle
  go_enter Try.func6, Try.ntmps6
  go_wp2_with fail
  refine (shown_true _).mono ?_
  rintro e w1 ⟨rfl, hb1⟩
  have C1 := Aside0.mk (Kd.C_below HC.out hb1)
  have B1 := Aside0.mk hb1
  clear hb1 HC
  have hv1 := Kd.C_string (P := Try.prog) (A := A0) (c := c0) Try.underlying22 Try.underlying5 Try.underlying9 C1.out
  go_wp2_with fail
  clear hv1
  refine (decode_w C1.out HLE.out HBT.out (by omega)).mono ?_
  rintro e w2 ⟨A2, c2, rfl, hle2, hC2, hb2⟩
  have C2 := Aside0.mk (Kd.C_below C1.out hb2)
  have B2 := Aside0.mk (below_step B1.out hb2)
  have D2 := Aside0.mk hC2
  clear hb2 hle2 hC2 C1 B1
  go_wp2_with fail
  refine (ref_decode_w C2.out HLE.out HBT.out (by omega)).mono ?_
  rintro e w3 ⟨A3, c3, rfl, hle3, hC3, hb3⟩
  have C3 := Aside0.mk (Kd.C_below C2.out hb3)
  have B3 := Aside0.mk (below_step B2.out hb3)
  have E3 := Aside0.mk (Kd.C_below D2.out hb3)
  have D3 := Aside0.mk hC3
  clear hb3 hle3 hC3 C2 B2 D2
  go_wp2_with fail
  refine (all_w C3.out HLE.out HBT.out (by omega)).mono ?_
  rintro e w4 ⟨A4, c4, rfl, hle4, hC4, hb4⟩
  have C4 := Aside0.mk (Kd.C_below C3.out hb4)
  have B4 := Aside0.mk (below_step B3.out hb4)
  have E4 := Aside0.mk (Kd.C_below E3.out hb4)
  have D4 := Aside0.mk (Kd.C_below D3.out hb4)
  have F4 := Aside0.mk hC4
  have L4 := Aside0.mk hle4
  clear hb4 hle4 hC4 C3 B3 D3 E3
  go_wp2_with fail
  refine (ref_all_w C4.out HLE.out HBT.out (by omega)).mono ?_
  rintro e w5 ⟨A5, c5, rfl, hle5, hC5, hb5⟩
  have C5 := Aside0.mk (Kd.C_below C4.out hb5)
  have B5 := Aside0.mk (below_step B4.out hb5)
  have E5 := Aside0.mk (Kd.C_below E4.out hb5)
  have D5 := Aside0.mk (Kd.C_below D4.out hb5)
  have F5 := Aside0.mk (Kd.C_below F4.out hb5)
  have G5 := Aside0.mk hC5
  have L5 := Aside0.mk hle5
  clear hb5 hle5 hC5 C4 B4 D4 E4 F4
  have hv1 := Kd.C_string (P := Try.prog) (A := A0) (c := c0) Try.underlying22 Try.underlying5 Try.underlying9 C5.out
  have hv2 := Kd.C_string (P := Try.prog) (A := A2) (c := c2) Try.underlying22 Try.underlying5 Try.underlying9 E5.out
  have hv3 := Kd.C_string (P := Try.prog) (A := A3) (c := c3) Try.underlying22 Try.underlying5 Try.underlying9 D5.out
  clear E5 D5 HBT
  generalize dec t = r at *
  generalize all t = s at *
  obtain ⟨r1, r2, r3⟩ := r
  obtain ⟨s1, s2, s3⟩ := s
  simp only at *
  go_wp2_with fail
  refine (same_w0 F5.out L4.out G5.out L5.out).mono ?_
  rintro e w6 ⟨rfl, m6, rfl⟩
  clear hv2 hv3 hv1
  have hv1 := fun n => Kd.C_string (P := Try.prog) (A := A0) (c := c0) Try.underlying22 Try.underlying5 Try.underlying9 (Kd.C_drewN C5.out n)
  go_wp2
  go_ret
  exact ⟨rfl, pw_below_drewN B5.out _⟩
theorem cartagelaw04_BlockReads.walk (a0 : Option Addr) (len0 cap0 : Nat) (z0 : List Int) (w : World) (w0 : (a0 = none ∧ len0 = 0 ∧ cap0 = 0 ∧ z0 = []) ∨ ∃ x, a0 = some x ∧ len0 ≤ cap0 ∧ cap0 ≤ maxLen ∧ z0.length = cap0 ∧ (∀ i, i < z0.length → w.cell? (x.add i) = some (.int .u8 (z0.getD i 0))) ∧ ∀ n ∈ z0, (Lit.int .u8 n).wf = true) (y0 : len0 * 1 ≤ 140737488351232) :
    Calls Try.prog 6 #[.slice a0 len0 cap0] w fun e w' => e = .returned (.bool true) ∧ Below w.heap.size w w' := by
  obtain ⟨l0, rfl, hr0, hm0, hw0, hc0⟩ := ReadsInt.ofRowC w0
  exact cartagelaw04_BlockReads.calls _ _ l0 w (Kd.C_of_reads (d := (0 : Int)) (h1 := fun _ => rfl) hr0) hc0 (bytes_of_wf hw0)
end Go.Proofs.Ytaaojocooklfaaa.PAll
