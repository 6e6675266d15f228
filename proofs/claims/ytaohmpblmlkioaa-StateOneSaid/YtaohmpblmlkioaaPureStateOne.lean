/- StateOne's walk: bytes that are a config are told so again. Conditions: bytes. -/
import Derived.Test.YtaohmpblmlkioaaStS
namespace Go.Proofs.Ytaohmpblmlkioaa.PAll
open Go.RowKit Go.Proofs.Ytaohmpblmlkioaa.Oct Go.Proofs.Ytaohmpblmlkioaa.HX Go.Proofs.YtaohmpblmlkioaaW.PrintWords Go.Proofs.YtaohmpblmlkioaaW.PrintLast Go.Proofs.YtaohmpblmlkioaaW.PrintMore
attribute [local go_sem] max2_int min2_int max_two min_two max_three min_three max_four min_four   -- for this text's walks alone
set_option linter.unusedVariables false
set_option linter.unusedSimpArgs false
theorem u8info5 : (Try.prog.info? 5).map (fun i => (i.zero, i.size, i.bytes)) = some (some (.int .u8 0), 1, 1) := by kernel_rfl
theorem sdec_cases (b : List Int) : (OkS b ∧ sdec b = (sstep b, svs b, 0)) ∨ ∃ e, e ≠ 0 ∧ sdec b = (0, [], e) := by
  unfold sdec
  by_cases h : (all b).2.2 ≠ 0
  · rw [if_pos h]; exact .inr ⟨_, h, rfl⟩
  · rw [if_neg h]
    by_cases g : OkS b
    · rw [if_pos g]; exact .inl ⟨g, rfl⟩
    · rw [if_neg g]; exact .inr ⟨2, by decide, rfl⟩
theorem svs_len {b : List Int} (h : OkS b) (hb : Bytes b) (hl : b.length ≤ 8000) : (svs b).length ≤ 1000 := by
  have h1 := h.2.2.2.2.2.1
  have h2 := (sbody_fit hb).2
  have h3 := (scnt_in hb).1
  unfold svs
  rw [vats_length]
  omega
set_option maxHeartbeats 8000000 in
set_option maxRecDepth 100000 in
theorem cartagelaw15_StateOne.calls (A0 : Option Addr) (c0 : Nat) (l0 : List Int) (w : World) (hr0 : Kd.C (Kd.int .u8) w A0 l0.length l0) (hc0 : l0.length ≤ c0) (hb0 : Bytes l0) :
    Calls Try.prog 7 #[.slice A0 l0.length c0] w fun e w' => e = .returned (.bool true) ∧ Below w.heap.size w w' := by
  obtain ⟨bb, ht, hmin, hcut, hC, hle, hlm⟩ := cut_min 28 5 Try.underlying28 u8info5 hr0 hc0 3000
  have hbt : Bytes bb := ht ▸ hb0.take 3000
  have hm0 := hr0.2.1
  rw [show ((3000 : Nat) : Int) = 3000 from rfl] at hmin
  have HB := Aside0.mk hC
  have LB := Aside0.mk hle
  have YB := Aside0.mk hbt
  have LM := Aside0.mk hlm
  clear ht hb0 hr0 hc0 hC hle hbt hlm
  go_enter Try.func7, Try.ntmps7
  go_wp2_with fail
  refine (shown_w _).mono ?_
  rintro e w1 ⟨rfl, hb1⟩
  have B1 := Aside0.mk hb1
  have C1 := Aside0.mk (Kd.C_below HB.out hb1)
  clear hb1
  go_wp2_with fail
  refine (sdecode_w C1.out LB.out YB.out (by have := LM.out; omega)).mono ?_
  rcases sdec_cases bb with ⟨hok, hd⟩ | ⟨er, her, hd⟩
  · rw [hd]
    have hen := hok.2.2.2.2.2.2
    have hlv := svs_len hok YB.out (by have := LM.out; omega)
    have h0 := (sstep_in YB.out).1
    have hlm : ((svs bb).map Prod.fst).length ≤ 1000 := by rw [List.length_map]; exact hlv
    have hle : ((svs bb).map Prod.fst).length = ((svs bb).map Prod.snd).length := by simp
    have hse : serr (sstep bb) ((svs bb).map Prod.fst) ((svs bb).map Prod.snd) = 0 := if_pos ⟨h0, hle⟩
    rintro e w2 ⟨A4, c4, A5, c5, rfl, h41, h42, h51, h52, hb2⟩
    dsimp only at h41 h42 h51 h52 ⊢
    have B2 := Aside0.mk (below_step B1.out hb2)
    have X := Aside0.mk (fun w3 (hb : Below w2.heap.size w2 w3) => sencode_w (w := w3) (Kd.C_below h42 hb) h41 (Kd.C_below h52 hb) h51 hlm (sstep bb))
    rw [hen, hse] at X
    have C2 := Aside0.mk (Kd.C_below C1.out hb2)
    clear hb2 hd hok hlv hse hlm h41 h42 h51 h52 hen B1 C1
    generalize (svs bb).map Prod.fst = vs at *
    generalize (svs bb).map Prod.snd = bs at *
    generalize sstep bb = x at *
    have eln : ((vs.length : Int) == (bs.length : Int)) = true := by rw [hle]; exact beq_self_eq_true _
    have e0 : ((0 : Int) != 0) = false := rfl
    clear hle
    go_wp2_with fail
    refine (X.out _ (below_alloc (Below.refl _ _) _)).mono ?_
    rintro e w4 ⟨A6, c6, rfl, h61, h62, hb4⟩
    have B4 := Aside0.mk (below_step (below_alloc B2.out _) hb4)
    have hcv1 := Kd.C_string (P := Try.prog) (A := A6) (c := c6) Try.underlying28 Try.underlying5 Try.underlying9 h62
    have hcv2 := Kd.C_string (P := Try.prog) (A := A0) (c := c0) Try.underlying28 Try.underlying5 Try.underlying9 (Kd.C_below C2.out (below_step (below_alloc (Below.refl _ _) _) hb4))
    obtain ⟨k0, k1⟩ := two_cells (blk_below (blk_new w2 (.cells #[.slice A4 vs.length c4, .slice A5 bs.length c5] 25)) hb4)
    have d0 : decide (x ≥ 0) = true := decide_eq_true h0
    have d0' : decide (0 ≤ x) = true := decide_eq_true h0
    clear h61 h62 hb4 X C2 B2
    go_wp2
    go_ret
    exact ⟨rfl, B4.out⟩
  · rw [hd]
    rintro e w2 ⟨A4, c4, A5, c5, rfl, h41, h42, h51, h52, hb2⟩
    have B2 := Aside0.mk (below_step B1.out hb2)
    clear hb2 hd h41 h42 h51 h52 B1 C1
    simp only [List.map_nil, List.length_nil]
    have e1 : (er != 0) = true := bne_iff_ne.mpr her
    go_wp2
    go_ret
    exact ⟨rfl, below_alloc B2.out _⟩
theorem cartagelaw15_StateOne.walk (a0 : Option Addr) (len0 cap0 : Nat) (z0 : List Int) (w : World) (w0 : (a0 = none ∧ len0 = 0 ∧ cap0 = 0 ∧ z0 = []) ∨ ∃ x, a0 = some x ∧ len0 ≤ cap0 ∧ cap0 ≤ maxLen ∧ z0.length = cap0 ∧ (∀ i, i < z0.length → w.cell? (x.add i) = some (.int .u8 (z0.getD i 0))) ∧ ∀ n ∈ z0, (Lit.int .u8 n).wf = true) (y0 : len0 * 1 ≤ 140737488351232) :
    Calls Try.prog 7 #[.slice a0 len0 cap0] w fun e w' => e = .returned (.bool true) ∧ Below w.heap.size w w' := by
  obtain ⟨l0, rfl, hr0, hm0, hw0, hc0⟩ := ReadsInt.ofRowC w0
  exact cartagelaw15_StateOne.calls _ _ l0 w (Kd.C_of_reads (d := (0 : Int)) (h1 := fun _ => rfl) hr0) hc0 (bytes_of_wf hw0)
end Go.Proofs.Ytaohmpblmlkioaa.PAll
