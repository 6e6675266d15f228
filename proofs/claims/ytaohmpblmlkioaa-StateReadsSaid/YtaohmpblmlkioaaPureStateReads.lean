/- StateReads' walk: bytes are configs, or wrong, as the document says. Conditions: bytes. -/
import Derived.Test.YtaohmpblmlkioaaStQ
namespace Go.Proofs.Ytaohmpblmlkioaa.PAll
open Go.RowKit Go.Proofs.Ytaohmpblmlkioaa.Oct Go.Proofs.Ytaohmpblmlkioaa.HX Go.Proofs.YtaohmpblmlkioaaW.PrintWords Go.Proofs.YtaohmpblmlkioaaW.PrintLast Go.Proofs.YtaohmpblmlkioaaW.PrintMore
attribute [local go_sem] max2_int min2_int max_two min_two max_three min_three max_four min_four   -- for this text's walks alone
set_option linter.unusedVariables false
set_option linter.unusedSimpArgs false
theorem rdecode_w {A : Option Addr} {c : Nat} {l : List Int} {w : World} (h : Kd.C (Kd.int .u8) w A l.length l) (hc : l.length ≤ c) (hb : Bytes l) (hl : l.length ≤ 8000) :
    Calls Try.prog 16 #[.slice A l.length c] w (SPost (sdec l) w) := by
  refine (cartageref15_Decode.calls 2000000 A c l _ _ _ _ w h hc (rdec_is hb hl 2000000 (by omega))).mono ?_
  rintro e w3 ⟨v3, v4, rfl, ho3, ho4, hb3⟩
  obtain ⟨A3, c3, rfl⟩ := Kd.R_slice ho3
  obtain ⟨A4, c4, rfl⟩ := Kd.R_slice ho4
  exact ⟨A3, c3, A4, c4, rfl, (R_C ho3).2.1, (R_C ho3).2.2, (R_C ho4).2.1, (R_C ho4).2.2, hb3⟩
theorem sdec_small {b : List Int} (hb : Bytes b) (hl : b.length ≤ 8000) : (sdec b).2.1.length ≤ 1000 := by
  unfold sdec
  by_cases h : (all b).2.2 ≠ 0
  · rw [if_pos h]; simp
  · rw [if_neg h]
    by_cases g : OkS b
    · rw [if_pos g]
      have h1 := g.2.2.2.2.2.1
      have h2 := (sbody_fit hb).2
      have h3 := (scnt_in hb).1
      simp only
      unfold svs
      rw [vats_length]; omega
    · rw [if_neg g]; simp
set_option maxHeartbeats 8000000 in
set_option maxRecDepth 100000 in
theorem cartagelaw15_StateReads.calls (A0 : Option Addr) (c0 : Nat) (l0 : List Int) (w : World) (hr0 : Kd.C (Kd.int .u8) w A0 l0.length l0) (hc0 : l0.length ≤ c0) (hb0 : Bytes l0) :
    Calls Try.prog 4 #[.slice A0 l0.length c0] w fun e w' => e = .returned (.bool true) ∧ Below w.heap.size w w' := by
  obtain ⟨bb, ht, hmin, hcut, hC, hle, hlm⟩ := cut_min 28 5 Try.underlying28 info5 hr0 hc0 3000
  have hbt : Bytes bb := ht ▸ hb0.take 3000
  have hm0 := hr0.2.1
  rw [show ((3000 : Nat) : Int) = 3000 from rfl] at hmin
  have HB := Aside0.mk hC
  have LB := Aside0.mk hle
  have YB := Aside0.mk hbt
  have LM := Aside0.mk hlm
  have SM := Aside0.mk (sdec_small hbt (by omega))
  clear ht hb0 hr0 hc0 hC hle hbt hlm
  go_enter Try.func4, Try.ntmps4
  go_wp2_with fail
  refine (shown_w _).mono ?_
  rintro e w1 ⟨rfl, hb1⟩
  have B1 := Aside0.mk hb1
  have C1 := Aside0.mk (Kd.C_below HB.out hb1)
  have hcv1 := Kd.C_string (P := Try.prog) (A := A0) (c := c0) Try.underlying28 Try.underlying5 Try.underlying9 C1.out
  clear hb1
  go_wp2_with fail
  have D1 := Aside0.mk (sdecode_w C1.out LB.out YB.out (by have := LM.out; omega))
  have D2 := Aside0.mk (fun w' h => rdecode_w (w := w') (A := A0) (c := c0) (l := bb) h LB.out YB.out (by have := LM.out; omega))
  generalize sdec bb = d at *
  obtain ⟨n, r, er⟩ := d
  refine D1.out.mono ?_
  unfold SPost at D2 ⊢
  dsimp only at SM D2 ⊢
  have hl1 : (r.map Prod.fst).length ≤ 1000 := by rw [List.length_map]; exact SM.out
  have hl2 : (r.map Prod.snd).length ≤ 1000 := by rw [List.length_map]; exact SM.out
  generalize r.map Prod.fst = vs at *
  generalize r.map Prod.snd = ls at *
  rintro e w2 ⟨A4, c4, A5, c5, rfl, h41, h42, h51, h52, hb2⟩
  have hbA := below_alloc (Below.refl w2.heap.size w2) (.cells #[.slice A4 vs.length c4, .slice A5 ls.length c5] 25)
  have B2 := Aside0.mk (below_step (below_step B1.out hb2) hbA)
  have BK := Aside0.mk (blk_new w2 (.cells #[.slice A4 vs.length c4, .slice A5 ls.length c5] 25))
  have X2 := Aside0.mk (And.intro (Kd.C_below h42 hbA) (Kd.C_below h52 hbA))
  have L2 := Aside0.mk (And.intro h41 h51)
  have C2 := Aside0.mk (Kd.C_below (Kd.C_below C1.out hb2) hbA)
  clear h41 h42 h51 h52 hb2 hbA B1 C1 D1 hcv1 SM
  go_wp2_with fail
  generalize w2.heap.size = g2 at *
  generalize w2.alloc (.cells #[.slice A4 vs.length c4, .slice A5 ls.length c5] 25) = w3 at *
  refine (D2.out w3 C2.out).mono ?_
  rintro e w4 ⟨A6, c6, A7, c7, rfl, h61, h62, h71, h72, hb4⟩
  have hbA := below_alloc (Below.refl w4.heap.size w4) (.cells #[.slice A6 vs.length c6, .slice A7 ls.length c7] 25)
  have B4 := Aside0.mk (below_step (below_step B2.out hb4) hbA)
  obtain ⟨k0, k1⟩ := two_cells (blk_below (blk_below BK.out hb4) hbA)
  have X := Aside0.mk (same_w (Kd.C_below (Kd.C_below X2.out.1 hb4) hbA) L2.out.1 (Kd.C_below (Kd.C_below X2.out.2 hb4) hbA) L2.out.2 (Kd.C_below h62 hbA) h61 (Kd.C_below h72 hbA) h71 hl1 hl2)
  have C4 := Aside0.mk (Kd.C_below (Kd.C_below C2.out hb4) hbA)
  have e0 : (n == n) = true := beq_self_eq_true _
  have e1 : (er == er) = true := beq_self_eq_true _
  clear h61 h62 h71 h72 hb4 hbA B2 BK X2 L2 C2 D2
  go_wp2_with fail
  refine X.out.mono ?_
  rintro e w5 ⟨rfl, hb5⟩
  have B5 := Aside0.mk (below_step B4.out hb5)
  have hcv5 := Kd.C_string (P := Try.prog) (A := A0) (c := c0) Try.underlying28 Try.underlying5 Try.underlying9 (Kd.C_below C4.out hb5)
  clear hb5 X B4 C4 k0 k1
  go_wp2
  go_ret
  exact ⟨rfl, B5.out⟩
theorem cartagelaw15_StateReads.walk (a0 : Option Addr) (len0 cap0 : Nat) (z0 : List Int) (w : World) (w0 : (a0 = none ∧ len0 = 0 ∧ cap0 = 0 ∧ z0 = []) ∨ ∃ x, a0 = some x ∧ len0 ≤ cap0 ∧ cap0 ≤ maxLen ∧ z0.length = cap0 ∧ (∀ i, i < z0.length → w.cell? (x.add i) = some (.int .u8 (z0.getD i 0))) ∧ ∀ n ∈ z0, (Lit.int .u8 n).wf = true) (y0 : len0 * 1 ≤ 140737488351232) :
    Calls Try.prog 4 #[.slice a0 len0 cap0] w fun e w' => e = .returned (.bool true) ∧ Below w.heap.size w w' := by
  obtain ⟨l0, rfl, hr0, hm0, hw0, hc0⟩ := ReadsInt.ofRowC w0
  exact cartagelaw15_StateReads.calls _ _ l0 w (Kd.C_of_reads (d := (0 : Int)) (h1 := fun _ => rfl) hr0) hc0 (bytes_of_wf hw0)
end Go.Proofs.Ytaohmpblmlkioaa.PAll
