/- The small case of layer 16. -/
import Derived.Test.YtibahgondccdiaaMfC
namespace Go.Proofs.Ytibahgondccdiaa.PAll
open Go.RowKit Go.Proofs.Ytibahgondccdiaa.Oct Go.Proofs.Ytibahgondccdiaa.HX Go.Proofs.YtibahgondccdiaaW.PrintWords Go.Proofs.YtibahgondccdiaaW.PrintLast Go.Proofs.YtibahgondccdiaaW.PrintMore
attribute [local go_sem] max2_int min2_int max_two min_two max_three min_three max_four min_four   -- for this text's walks alone
set_option linter.unusedVariables false
set_option linter.unusedSimpArgs false
theorem ch_right {m n : Mf} (wm : m.Wf) (hm : m.Right) (wn : n.Wf) (hn : n.Right) : chAt (Oct.enc m.text) (Oct.enc n.text) 2 = if n.s > m.s then ⟨n, 1, true⟩ else ⟨m, 0, true⟩ := by
  obtain ⟨_, a1, a2⟩ := mdec_enc wm hm
  obtain ⟨_, b1, b2⟩ := mdec_enc wn hn
  show chStep _ 1 (chStep _ 0 _) = _
  have h1 : chStep (Oct.enc m.text) 0 ⟨Mf.zero, 0, false⟩ = ⟨m, 0, true⟩ := by
    unfold chStep
    rw [if_pos ⟨a2, Or.inl rfl⟩, a1]
  rw [h1]
  unfold chStep
  rw [b1, b2]
  by_cases h : n.s > m.s
  · rw [if_pos ⟨rfl, Or.inr h⟩, if_pos h]
  · rw [if_neg (fun x => x.2.elim (fun x => by cases x) h), if_neg h]
theorem menc_right {m : Mf} (h : m.Right) : m.enc = Oct.enc m.text ∧ m.err = 0 := ⟨if_pos h, if_pos h⟩
theorem menc_wrong {m : Mf} (h : ¬ m.Right) : m.enc = [] ∧ m.err = 1 := ⟨if_neg h, if_neg h⟩
theorem enc54 (m : Mf) : (Oct.enc m.text).length = 54 := by rw [enc_length, m.text_length]
def sa : Mf := ⟨2, 3, 1, -1, 0, 0⟩
def sb : Mf := ⟨5, 3, 1, 4, 2, 0⟩
theorem sa_right : sa.Right := by decide
theorem sb_right : sb.Right := by decide
theorem sz_wrong : ¬ Mf.zero.Right := by decide
theorem sa_wf : sa.Wf := ⟨by decide, by decide, by decide, by decide, by decide, by decide⟩
theorem sb_wf : sb.Wf := ⟨by decide, by decide, by decide, by decide, by decide, by decide⟩
theorem sz_wf : Mf.zero.Wf := ⟨by decide, by decide, by decide, by decide, by decide, by decide⟩
theorem nil_err : mderr [] = 2 := by
  have h : ¬ OkM [] := fun h => by have := h.1; simp [dec] at this
  unfold mderr
  rw [if_neg h]
  simp [dec]

set_option maxHeartbeats 4000000 in
set_option maxRecDepth 100000 in
theorem shown_true (w : World) : Calls Try.prog 9 #[] w fun e w' => e = .returned (.bool true) ∧ Below w.heap.size w w' := by
  have e1 := fun w => mencode_w sa sa_wf w
  rw [(menc_right sa_right).1, (menc_right sa_right).2] at e1
  have e2 := fun w => mencode_w sb sb_wf w
  rw [(menc_right sb_right).1, (menc_right sb_right).2] at e2
  have e3 := fun w => mencode_w Mf.zero sz_wf w
  rw [(menc_wrong sz_wrong).1, (menc_wrong sz_wrong).2] at e3
  have l1 := enc54 sa
  have l2 := enc54 sb
  have b1 := Aside0.mk (enc_bytes sa.text_bytes)
  have b2 := Aside0.mk (enc_bytes sb.text_bytes)
  have hch := ch_right sa_wf sa_right sb_wf sb_right
  rw [if_pos (by decide)] at hch
  have hc := fun (w : World) (A0 A1 : Option Addr) (c0 c1 : Nat) (h0 : Kd.C (Kd.int .u8) w A0 (Oct.enc sa.text).length (Oct.enc sa.text)) (hc0 : (Oct.enc sa.text).length ≤ c0) (h1 : Kd.C (Kd.int .u8) w A1 (Oct.enc sb.text).length (Oct.enc sb.text)) (hc1 : (Oct.enc sb.text).length ≤ c1) => mchoose_w h0 hc0 b1.out (by omega) h1 hc1 b2.out (by omega)
  rw [hch] at hc
  have hd := fun w => mdecode_w (A := none) (c := 0) (l := []) (w := w) (Kd.C_nil _ _) (Nat.le_refl _) Bytes.nil (by simp)
  rw [nil_err] at hd
  have E1 := Aside0.mk e1
  have E2 := Aside0.mk e2
  have E3 := Aside0.mk e3
  have HC := Aside0.mk hc
  have HD := Aside0.mk hd
  have l1' : (((Oct.enc sa.text).length : Int) == 54) = true := by rw [l1]; rfl
  clear e1 e2 e3 hc hd hch b1 b2 l1 l2
  generalize Oct.enc sa.text = xa at *
  generalize Oct.enc sb.text = xb at *
  go_enter Try.func9, Try.ntmps9
  go_wp2_with fail
  refine (E1.out _).mono ?_
  rintro e w1 ⟨A1, c1, rfl, hle1, hC1, hb1⟩
  have C1 := Aside0.mk (And.intro hle1 hC1)
  have B1 := Aside0.mk hb1
  clear hle1 hC1 hb1
  go_wp2_with fail
  refine (E2.out _).mono ?_
  rintro e w2 ⟨A2, c2, rfl, hle2, hC2, hb2⟩
  have B2 := Aside0.mk (below_step B1.out hb2)
  have C2 := Aside0.mk (Kd.C_below C1.out.2 hb2)
  have D2 := Aside0.mk (And.intro hle2 hC2)
  clear hle2 hC2 hb2
  go_wp2_with fail
  refine (HC.out _ _ _ _ _ C2.out C1.out.1 D2.out.2 D2.out.1).mono ?_
  rintro e w3 ⟨rfl, hb3⟩
  have B3 := Aside0.mk (below_step B2.out hb3)
  clear hb3 C1 C2 D2 E1 E2 HC B1 B2
  go_wp2_with fail
  refine (E3.out _).mono ?_
  rintro e w4 ⟨A4, c4, rfl, hle4, hC4, hb4⟩
  have B4 := Aside0.mk (below_step (B3.out.alloc (below_size B3.out) _) hb4)
  have BK4 := Aside0.mk (blk_below (blk_new w3 _) hb4)
  clear hb4 hC4 hle4 B3
  simp only [List.length_nil]
  go_wp2_with fail
  refine (HD.out _).mono ?_
  rintro e w5 ⟨rfl, hb5⟩
  have B5 := Aside0.mk (below_step B4.out hb5)
  have BK5 := Aside0.mk (blk_below BK4.out hb5)
  have hc3 : w5.cell? ⟨w3.heap.size, 3, none⟩ = some (.int .i64 4) := (blk_cell BK5.out 3).trans rfl
  have hc3' : ∀ o, (w5.alloc o).cell? ⟨w3.heap.size, 3, none⟩ = some (.int .i64 4) := fun o => (blk_cell (blk_alloc BK5.out o) 3).trans rfl
  clear hb5 B4 BK4 BK5 HD E3
  go_wp2
  go_ret
  exact ⟨rfl, B5.out.alloc (below_size B5.out) _⟩
end Go.Proofs.Ytibahgondccdiaa.PAll
