/- ManifestNewer: the one with the greater number is chosen, from either place; what is no manifest never is. Conditions: none. -/
import Derived.Test.YtibahgondccdiaaMfS
import Derived.Test.YtibahgondccdiaaMfO
namespace Go.Proofs.Ytibahgondccdiaa.PAll
open Go.RowKit Go.Proofs.Ytibahgondccdiaa.Oct Go.Proofs.Ytibahgondccdiaa.HX Go.Proofs.YtibahgondccdiaaW.PrintWords Go.Proofs.YtibahgondccdiaaW.PrintLast Go.Proofs.YtibahgondccdiaaW.PrintMore
attribute [local go_sem] max2_int min2_int max_two min_two max_three min_three max_four min_four   -- for this text's walks alone
set_option linter.unusedVariables false
set_option linter.unusedSimpArgs false
theorem ch_left {m : Mf} (wm : m.Wf) (hm : m.Right) {b : List Int} (hb : mderr b ≠ 0) : chAt (Oct.enc m.text) b 2 = ⟨m, 0, true⟩ := by
  obtain ⟨_, a1, a2⟩ := mdec_enc wm hm
  show chStep _ 1 (chStep _ 0 _) = _
  have h1 : chStep (Oct.enc m.text) 0 ⟨Mf.zero, 0, false⟩ = ⟨m, 0, true⟩ := by
    unfold chStep
    rw [if_pos ⟨a2, Or.inl rfl⟩, a1]
  rw [h1]
  unfold chStep
  rw [if_neg (fun h => hb h.1)]
theorem ch_back {n : Mf} (wn : n.Wf) (hn : n.Right) {b : List Int} (hb : mderr b ≠ 0) : chAt b (Oct.enc n.text) 2 = ⟨n, 1, true⟩ := by
  obtain ⟨_, a1, a2⟩ := mdec_enc wn hn
  show chStep _ 1 (chStep _ 0 _) = _
  have h1 : chStep b 0 ⟨Mf.zero, 0, false⟩ = ⟨Mf.zero, 0, false⟩ := by
    unfold chStep
    rw [if_neg (fun h => hb h.1)]
  rw [h1]
  unfold chStep
  rw [if_pos ⟨a2, Or.inl rfl⟩, a1]
theorem ch_none {b : List Int} (hb : mderr b ≠ 0) : chAt b b 2 = ⟨Mf.zero, 0, false⟩ := by
  show chStep _ 1 (chStep _ 0 _) = _
  have h1 : ∀ j, chStep b j ⟨Mf.zero, 0, false⟩ = ⟨Mf.zero, 0, false⟩ := fun j => by
    unfold chStep
    rw [if_neg (fun h => hb h.1)]
  rw [h1, h1]

set_option maxHeartbeats 16000000 in
set_option maxRecDepth 100000 in
theorem cartagelaw16_ManifestNewer.calls (m n : Mf) (wm : m.Wf) (wn : n.Wf) (A0 : Option Addr) (c0 : Nat) (l0 : List Int) (w : World) (hr0 : Kd.C (Kd.int .u8) w A0 l0.length l0) (hc0 : l0.length ≤ c0) (hb0 : Bytes l0) :
    Calls Try.prog 6 #[.agg #[.int .u64 m.s, .int .i64 m.n, .int .i64 m.h, .int .i64 m.t, .int .i64 m.k, .int .u32 m.p], .agg #[.int .u64 n.s, .int .i64 n.n, .int .i64 n.h, .int .i64 n.t, .int .i64 n.k, .int .u32 n.p], .slice A0 l0.length c0] w fun e w' => e = .returned (.bool true) ∧ Below w.heap.size w w' := by
  obtain ⟨bb, ht, hmin, hcut, hC, hle, hlm⟩ := cut_min 29 5 Try.underlying29 u8info5 hr0 hc0 200
  have hbt : Bytes bb := ht ▸ hb0.take 200
  have hm0 := hr0.2.1
  rw [show ((200 : Nat) : Int) = 200 from rfl] at hmin
  have HB := Aside0.mk hC
  have LB := Aside0.mk hle
  have YB := Aside0.mk hbt
  clear ht hb0 hr0 hc0 hC hle hbt
  have e1 := fun w => mencode_w m wm w
  have e2 := fun w => mencode_w n wn w
  by_cases hm : m.Right
  · rw [(menc_right hm).1, (menc_right hm).2] at e1
    by_cases hn : n.Right
    · rw [(menc_right hn).1, (menc_right hn).2] at e2
      by_cases he : mderr bb = 0
      · have E1 := Aside0.mk e1
        have E2 := Aside0.mk e2
        clear e1 e2 hm hn wm wn
        have HE := Aside0.mk he
        clear he
        go_enter Try.func6, Try.ntmps6
        go_wp2_with (first | ((with_reducible refine gate_dst (N := 3) rfl ?_); refine box_event ?hg (N := 3) ?hd (cs := #[.int .u64 m.s, .int .i64 m.n, .int .i64 m.h, .int .i64 m.t, .int .i64 m.k, .int .u32 m.p]) (t := 27) ?hr ?_; (case hd => rfl); (case hg => rfl); (case hr => first | (go_simp; done) | (go_simp; rfl)); intro g3 hg w0 hbox hb; have B0 := Aside0.mk hb; have BM := Aside0.mk hbox; have HB0 := Aside0.mk (Kd.C_below HB.out hb); clear hb hg hbox) | ((with_reducible refine gate_dst (N := 4) rfl ?_); refine box_event ?hg (N := 4) ?hd (cs := #[.int .u64 n.s, .int .i64 n.n, .int .i64 n.h, .int .i64 n.t, .int .i64 n.k, .int .u32 n.p]) (t := 27) ?hr ?_; (case hd => rfl); (case hg => rfl); (case hr => first | (go_simp; done) | (go_simp; rfl)); intro g4 hg w0' hbox hb; have B0' := Aside0.mk (below_step B0.out hb); have BN := Aside0.mk hbox; have BM' := Aside0.mk (blk_below BM.out hb); have HB0' := Aside0.mk (Kd.C_below HB0.out hb); clear hb hg hbox))
        refine (shown_true _).mono ?_
        rintro e w1 ⟨rfl, hb1⟩
        have B1 := Aside0.mk (below_step B0'.out hb1)
        have BM1 := Aside0.mk (blk_below BM'.out hb1)
        have BN1 := Aside0.mk (blk_below BN.out hb1)
        have HB1 := Aside0.mk (Kd.C_below HB0'.out hb1)
        clear hb1 B0 B0' BM BM' BN HB HB0 HB0'
        obtain ⟨h0, h1, h2, h3, h4, h5⟩ := six_cells BM1.out
        go_wp2_with fail
        clear hcut hmin
        refine (E1.out _).mono ?_
        rintro e w2 ⟨A2, c2, rfl, hle2, hC2, hb2⟩
        have B2 := Aside0.mk (below_step B1.out hb2)
        have BM2 := Aside0.mk (blk_below BM1.out hb2)
        have BN2 := Aside0.mk (blk_below BN1.out hb2)
        have HB2 := Aside0.mk (Kd.C_below HB1.out hb2)
        have C2 := Aside0.mk hC2
        have L2 := Aside0.mk hle2
        clear hb2 hle2 hC2 B1 BM1 BN1 HB1 h0 h1 h2 h3 h4 h5 E1
        obtain ⟨h0, h1, h2, h3, h4, h5⟩ := six_cells BN2.out
        go_wp2_with fail
        refine (E2.out _).mono ?_
        rintro e w3 ⟨A3, c3, rfl, hle3, hC3, hb3⟩
        have B3 := Aside0.mk (below_step B2.out hb3)
        have BM3 := Aside0.mk (blk_below BM2.out hb3)
        have BN3 := Aside0.mk (blk_below BN2.out hb3)
        have HB3 := Aside0.mk (Kd.C_below HB2.out hb3)
        have C3 := Aside0.mk (Kd.C_below C2.out hb3)
        have D3 := Aside0.mk hC3
        have M3 := Aside0.mk hle3
        clear hb3 hle3 hC3 B2 BM2 BN2 HB2 C2 h0 h1 h2 h3 h4 h5 E2
        go_wp2_with fail
        have hdw := mdecode_w HB3.out LB.out YB.out (by omega)
        rw [HE.out] at hdw
        refine hdw.mono ?_
        clear hdw
        rintro e w4 ⟨rfl, hb4⟩
        have B4 := Aside0.mk (below_step B3.out hb4)
        clear hb4 B3 BM3 BN3 HB3 C3 D3 L2 M3
        go_wp2
        go_ret
        exact ⟨rfl, B4.out.alloc (below_size B4.out) _⟩
      · have x1 := fun (w : World) (A B : Option Addr) (c d : Nat) (h0 : Kd.C (Kd.int .u8) w A (Oct.enc m.text).length (Oct.enc m.text)) (hc0 : (Oct.enc m.text).length ≤ c) (h1 : Kd.C (Kd.int .u8) w B (Oct.enc n.text).length (Oct.enc n.text)) (hc1 : (Oct.enc n.text).length ≤ d) => mchoose_w h0 hc0 (enc_bytes m.text_bytes) (by rw [enc54]; omega) h1 hc1 (enc_bytes n.text_bytes) (by rw [enc54]; omega)
        have x2 := fun (w : World) (A B : Option Addr) (c d : Nat) (h0 : Kd.C (Kd.int .u8) w A (Oct.enc m.text).length (Oct.enc m.text)) (hc0 : (Oct.enc m.text).length ≤ c) (h1 : Kd.C (Kd.int .u8) w B bb.length bb) (hc1 : bb.length ≤ d) => mchoose_w h0 hc0 (enc_bytes m.text_bytes) (by rw [enc54]; omega) h1 hc1 YB.out (by omega)
        have x3 := fun (w : World) (A B : Option Addr) (c d : Nat) (h0 : Kd.C (Kd.int .u8) w A bb.length bb) (hc0 : bb.length ≤ c) (h1 : Kd.C (Kd.int .u8) w B (Oct.enc n.text).length (Oct.enc n.text)) (hc1 : (Oct.enc n.text).length ≤ d) => mchoose_w h0 hc0 YB.out (by omega) h1 hc1 (enc_bytes n.text_bytes) (by rw [enc54]; omega)
        have x4 := fun (w : World) (A B : Option Addr) (c d : Nat) (h0 : Kd.C (Kd.int .u8) w A bb.length bb) (hc0 : bb.length ≤ c) (h1 : Kd.C (Kd.int .u8) w B bb.length bb) (hc1 : bb.length ≤ d) => mchoose_w h0 hc0 YB.out (by omega) h1 hc1 YB.out (by omega)
        rw [ch_right wm hm wn hn] at x1
        rw [ch_left wm hm he] at x2
        rw [ch_back wn hn he] at x3
        rw [ch_none he] at x4
        have X2 := Aside0.mk x2
        have X3 := Aside0.mk x3
        have X4 := Aside0.mk x4
        have E1 := Aside0.mk e1
        have E2 := Aside0.mk e2
        have ee : (mderr bb == 0) = false := beq_eq_false_iff_ne.mpr he
        clear e1 e2 hm hn wm wn x2 x3 x4 he
        by_cases hs : n.s > m.s
        · rw [if_pos hs] at x1
          have X1 := Aside0.mk x1
          have d1 : decide (m.s < n.s) = true := decide_eq_true hs
          clear x1 hs
          go_enter Try.func6, Try.ntmps6
          go_wp2_with (first | ((with_reducible refine gate_dst (N := 3) rfl ?_); refine box_event ?hg (N := 3) ?hd (cs := #[.int .u64 m.s, .int .i64 m.n, .int .i64 m.h, .int .i64 m.t, .int .i64 m.k, .int .u32 m.p]) (t := 27) ?hr ?_; (case hd => rfl); (case hg => rfl); (case hr => first | (go_simp; done) | (go_simp; rfl)); intro g3 hg w0 hbox hb; have B0 := Aside0.mk hb; have BM := Aside0.mk hbox; have HB0 := Aside0.mk (Kd.C_below HB.out hb); clear hb hg hbox) | ((with_reducible refine gate_dst (N := 4) rfl ?_); refine box_event ?hg (N := 4) ?hd (cs := #[.int .u64 n.s, .int .i64 n.n, .int .i64 n.h, .int .i64 n.t, .int .i64 n.k, .int .u32 n.p]) (t := 27) ?hr ?_; (case hd => rfl); (case hg => rfl); (case hr => first | (go_simp; done) | (go_simp; rfl)); intro g4 hg w0' hbox hb; have B0' := Aside0.mk (below_step B0.out hb); have BN := Aside0.mk hbox; have BM' := Aside0.mk (blk_below BM.out hb); have HB0' := Aside0.mk (Kd.C_below HB0.out hb); clear hb hg hbox))
          refine (shown_true _).mono ?_
          rintro e w1 ⟨rfl, hb1⟩
          have B1 := Aside0.mk (below_step B0'.out hb1)
          have BM1 := Aside0.mk (blk_below BM'.out hb1)
          have BN1 := Aside0.mk (blk_below BN.out hb1)
          have HB1 := Aside0.mk (Kd.C_below HB0'.out hb1)
          clear hb1 B0 B0' BM BM' BN HB HB0 HB0'
          obtain ⟨h0, h1, h2, h3, h4, h5⟩ := six_cells BM1.out
          go_wp2_with fail
          clear hcut hmin
          refine (E1.out _).mono ?_
          rintro e w2 ⟨A2, c2, rfl, hle2, hC2, hb2⟩
          have B2 := Aside0.mk (below_step B1.out hb2)
          have BM2 := Aside0.mk (blk_below BM1.out hb2)
          have BN2 := Aside0.mk (blk_below BN1.out hb2)
          have HB2 := Aside0.mk (Kd.C_below HB1.out hb2)
          have C2 := Aside0.mk hC2
          have L2 := Aside0.mk hle2
          clear hb2 hle2 hC2 B1 BM1 BN1 HB1 h0 h1 h2 h3 h4 h5 E1
          obtain ⟨h0, h1, h2, h3, h4, h5⟩ := six_cells BN2.out
          go_wp2_with fail
          refine (E2.out _).mono ?_
          rintro e w3 ⟨A3, c3, rfl, hle3, hC3, hb3⟩
          have B3 := Aside0.mk (below_step B2.out hb3)
          have BM3 := Aside0.mk (blk_below BM2.out hb3)
          have BN3 := Aside0.mk (blk_below BN2.out hb3)
          have HB3 := Aside0.mk (Kd.C_below HB2.out hb3)
          have C3 := Aside0.mk (Kd.C_below C2.out hb3)
          have D3 := Aside0.mk hC3
          have M3 := Aside0.mk hle3
          clear hb3 hle3 hC3 B2 BM2 BN2 HB2 C2 h0 h1 h2 h3 h4 h5 E2
          go_wp2_with fail
          refine (mdecode_w HB3.out LB.out YB.out (by omega)).mono ?_
          rintro e w4 ⟨rfl, hb4⟩
          generalize mdec bb = q at *
          have B5 := Aside0.mk ((below_step B3.out hb4).alloc (below_size (below_step B3.out hb4)) (.cells #[.int .u64 q.s, .int .i64 q.n, .int .i64 q.h, .int .i64 q.t, .int .i64 q.k, .int .u32 q.p] 27))
          have BM5 := Aside0.mk (blk_alloc (blk_below BM3.out hb4) (.cells #[.int .u64 q.s, .int .i64 q.n, .int .i64 q.h, .int .i64 q.t, .int .i64 q.k, .int .u32 q.p] 27))
          have BN5 := Aside0.mk (blk_alloc (blk_below BN3.out hb4) (.cells #[.int .u64 q.s, .int .i64 q.n, .int .i64 q.h, .int .i64 q.t, .int .i64 q.k, .int .u32 q.p] 27))
          have HB5 := Aside0.mk (Kd.C_alloc (Kd.C_below HB3.out hb4) (.cells #[.int .u64 q.s, .int .i64 q.n, .int .i64 q.h, .int .i64 q.t, .int .i64 q.k, .int .u32 q.p] 27))
          have C5 := Aside0.mk (Kd.C_alloc (Kd.C_below C3.out hb4) (.cells #[.int .u64 q.s, .int .i64 q.n, .int .i64 q.h, .int .i64 q.t, .int .i64 q.k, .int .u32 q.p] 27))
          have D5 := Aside0.mk (Kd.C_alloc (Kd.C_below D3.out hb4) (.cells #[.int .u64 q.s, .int .i64 q.n, .int .i64 q.h, .int .i64 q.t, .int .i64 q.k, .int .u32 q.p] 27))
          clear hb4 B3 BM3 BN3 HB3 C3 D3
          go_wp2_with fail
          generalize w4.alloc (.cells #[.int .u64 q.s, .int .i64 q.n, .int .i64 q.h, .int .i64 q.t, .int .i64 q.k, .int .u32 q.p] 27) = u5 at *
          refine (X1.out _ _ _ _ _ C5.out L2.out D5.out M3.out).mono ?_
          rintro e v6 ⟨rfl, hb⟩
          have B6 := Aside0.mk ((below_step B5.out hb).alloc (below_size (below_step B5.out hb)) (.cells #[.int .u64 n.s, .int .i64 n.n, .int .i64 n.h, .int .i64 n.t, .int .i64 n.k, .int .u32 n.p] 27))
          have BM6 := Aside0.mk (blk_alloc (blk_below BM5.out hb) (.cells #[.int .u64 n.s, .int .i64 n.n, .int .i64 n.h, .int .i64 n.t, .int .i64 n.k, .int .u32 n.p] 27))
          have BN6 := Aside0.mk (blk_alloc (blk_below BN5.out hb) (.cells #[.int .u64 n.s, .int .i64 n.n, .int .i64 n.h, .int .i64 n.t, .int .i64 n.k, .int .u32 n.p] 27))
          have HB6 := Aside0.mk (Kd.C_alloc (Kd.C_below HB5.out hb) (.cells #[.int .u64 n.s, .int .i64 n.n, .int .i64 n.h, .int .i64 n.t, .int .i64 n.k, .int .u32 n.p] 27))
          have C6 := Aside0.mk (Kd.C_alloc (Kd.C_below C5.out hb) (.cells #[.int .u64 n.s, .int .i64 n.n, .int .i64 n.h, .int .i64 n.t, .int .i64 n.k, .int .u32 n.p] 27))
          have D6 := Aside0.mk (Kd.C_alloc (Kd.C_below D5.out hb) (.cells #[.int .u64 n.s, .int .i64 n.n, .int .i64 n.h, .int .i64 n.t, .int .i64 n.k, .int .u32 n.p] 27))
          have R6_6 := Aside0.mk (blk_new v6 (.cells #[.int .u64 n.s, .int .i64 n.n, .int .i64 n.h, .int .i64 n.t, .int .i64 n.k, .int .u32 n.p] 27))
          clear hb B5 BM5 BN5 HB5 C5 D5
          go_wp2_with fail
          generalize v6.alloc (.cells #[.int .u64 n.s, .int .i64 n.n, .int .i64 n.h, .int .i64 n.t, .int .i64 n.k, .int .u32 n.p] 27) = u6 at *
          generalize v6.heap.size = g6 at *
          have R66 := R6_6
          clear R6_6
          refine (X2.out _ _ _ _ _ C6.out L2.out HB6.out LB.out).mono ?_
          rintro e v7 ⟨rfl, hb⟩
          have B7 := Aside0.mk ((below_step B6.out hb).alloc (below_size (below_step B6.out hb)) (.cells #[.int .u64 m.s, .int .i64 m.n, .int .i64 m.h, .int .i64 m.t, .int .i64 m.k, .int .u32 m.p] 27))
          have BM7 := Aside0.mk (blk_alloc (blk_below BM6.out hb) (.cells #[.int .u64 m.s, .int .i64 m.n, .int .i64 m.h, .int .i64 m.t, .int .i64 m.k, .int .u32 m.p] 27))
          have BN7 := Aside0.mk (blk_alloc (blk_below BN6.out hb) (.cells #[.int .u64 m.s, .int .i64 m.n, .int .i64 m.h, .int .i64 m.t, .int .i64 m.k, .int .u32 m.p] 27))
          have R67 := Aside0.mk (blk_alloc (blk_below R66.out hb) (.cells #[.int .u64 m.s, .int .i64 m.n, .int .i64 m.h, .int .i64 m.t, .int .i64 m.k, .int .u32 m.p] 27))
          have HB7 := Aside0.mk (Kd.C_alloc (Kd.C_below HB6.out hb) (.cells #[.int .u64 m.s, .int .i64 m.n, .int .i64 m.h, .int .i64 m.t, .int .i64 m.k, .int .u32 m.p] 27))
          have C7 := Aside0.mk (Kd.C_alloc (Kd.C_below C6.out hb) (.cells #[.int .u64 m.s, .int .i64 m.n, .int .i64 m.h, .int .i64 m.t, .int .i64 m.k, .int .u32 m.p] 27))
          have D7 := Aside0.mk (Kd.C_alloc (Kd.C_below D6.out hb) (.cells #[.int .u64 m.s, .int .i64 m.n, .int .i64 m.h, .int .i64 m.t, .int .i64 m.k, .int .u32 m.p] 27))
          have R7_7 := Aside0.mk (blk_new v7 (.cells #[.int .u64 m.s, .int .i64 m.n, .int .i64 m.h, .int .i64 m.t, .int .i64 m.k, .int .u32 m.p] 27))
          clear hb B6 BM6 BN6 R66 HB6 C6 D6
          go_wp2_with fail
          generalize v7.alloc (.cells #[.int .u64 m.s, .int .i64 m.n, .int .i64 m.h, .int .i64 m.t, .int .i64 m.k, .int .u32 m.p] 27) = u7 at *
          generalize v7.heap.size = g7 at *
          have R77 := R7_7
          clear R7_7
          refine (X3.out _ _ _ _ _ HB7.out LB.out D7.out M3.out).mono ?_
          rintro e v8 ⟨rfl, hb⟩
          have B8 := Aside0.mk ((below_step B7.out hb).alloc (below_size (below_step B7.out hb)) (.cells #[.int .u64 n.s, .int .i64 n.n, .int .i64 n.h, .int .i64 n.t, .int .i64 n.k, .int .u32 n.p] 27))
          have BM8 := Aside0.mk (blk_alloc (blk_below BM7.out hb) (.cells #[.int .u64 n.s, .int .i64 n.n, .int .i64 n.h, .int .i64 n.t, .int .i64 n.k, .int .u32 n.p] 27))
          have BN8 := Aside0.mk (blk_alloc (blk_below BN7.out hb) (.cells #[.int .u64 n.s, .int .i64 n.n, .int .i64 n.h, .int .i64 n.t, .int .i64 n.k, .int .u32 n.p] 27))
          have R68 := Aside0.mk (blk_alloc (blk_below R67.out hb) (.cells #[.int .u64 n.s, .int .i64 n.n, .int .i64 n.h, .int .i64 n.t, .int .i64 n.k, .int .u32 n.p] 27))
          have R78 := Aside0.mk (blk_alloc (blk_below R77.out hb) (.cells #[.int .u64 n.s, .int .i64 n.n, .int .i64 n.h, .int .i64 n.t, .int .i64 n.k, .int .u32 n.p] 27))
          have HB8 := Aside0.mk (Kd.C_alloc (Kd.C_below HB7.out hb) (.cells #[.int .u64 n.s, .int .i64 n.n, .int .i64 n.h, .int .i64 n.t, .int .i64 n.k, .int .u32 n.p] 27))
          have C8 := Aside0.mk (Kd.C_alloc (Kd.C_below C7.out hb) (.cells #[.int .u64 n.s, .int .i64 n.n, .int .i64 n.h, .int .i64 n.t, .int .i64 n.k, .int .u32 n.p] 27))
          have D8 := Aside0.mk (Kd.C_alloc (Kd.C_below D7.out hb) (.cells #[.int .u64 n.s, .int .i64 n.n, .int .i64 n.h, .int .i64 n.t, .int .i64 n.k, .int .u32 n.p] 27))
          have R8_8 := Aside0.mk (blk_new v8 (.cells #[.int .u64 n.s, .int .i64 n.n, .int .i64 n.h, .int .i64 n.t, .int .i64 n.k, .int .u32 n.p] 27))
          clear hb B7 BM7 BN7 R67 R77 HB7 C7 D7
          go_wp2_with fail
          generalize v8.alloc (.cells #[.int .u64 n.s, .int .i64 n.n, .int .i64 n.h, .int .i64 n.t, .int .i64 n.k, .int .u32 n.p] 27) = u8 at *
          generalize v8.heap.size = g8 at *
          have R88 := R8_8
          clear R8_8
          refine (X4.out _ _ _ _ _ HB8.out LB.out HB8.out LB.out).mono ?_
          rintro e v9 ⟨rfl, hb⟩
          have B9 := Aside0.mk (below_step B8.out hb)
          have BM9 := Aside0.mk (blk_below BM8.out hb)
          have BN9 := Aside0.mk (blk_below BN8.out hb)
          have R69 := Aside0.mk (blk_below R68.out hb)
          have R79 := Aside0.mk (blk_below R78.out hb)
          have R89 := Aside0.mk (blk_below R88.out hb)
          clear hb B8 BM8 BN8 R68 R78 R88 HB8 C8 D8 X1 X2 X3 X4
          have BZ := Aside0.mk (B9.out.alloc (below_size B9.out) (.cells #[.int .u64 Mf.zero.s, .int .i64 Mf.zero.n, .int .i64 Mf.zero.h, .int .i64 Mf.zero.t, .int .i64 Mf.zero.k, .int .u32 Mf.zero.p] 27))
          have BMz := Aside0.mk (blk_alloc BM9.out (.cells #[.int .u64 Mf.zero.s, .int .i64 Mf.zero.n, .int .i64 Mf.zero.h, .int .i64 Mf.zero.t, .int .i64 Mf.zero.k, .int .u32 Mf.zero.p] 27))
          have BNz := Aside0.mk (blk_alloc BN9.out (.cells #[.int .u64 Mf.zero.s, .int .i64 Mf.zero.n, .int .i64 Mf.zero.h, .int .i64 Mf.zero.t, .int .i64 Mf.zero.k, .int .u32 Mf.zero.p] 27))
          have R6z := Aside0.mk (blk_alloc R69.out (.cells #[.int .u64 Mf.zero.s, .int .i64 Mf.zero.n, .int .i64 Mf.zero.h, .int .i64 Mf.zero.t, .int .i64 Mf.zero.k, .int .u32 Mf.zero.p] 27))
          have R7z := Aside0.mk (blk_alloc R79.out (.cells #[.int .u64 Mf.zero.s, .int .i64 Mf.zero.n, .int .i64 Mf.zero.h, .int .i64 Mf.zero.t, .int .i64 Mf.zero.k, .int .u32 Mf.zero.p] 27))
          have R8z := Aside0.mk (blk_alloc R89.out (.cells #[.int .u64 Mf.zero.s, .int .i64 Mf.zero.n, .int .i64 Mf.zero.h, .int .i64 Mf.zero.t, .int .i64 Mf.zero.k, .int .u32 Mf.zero.p] 27))
          clear B9 BM9 BN9 R69 R79 R89
          go_upto_region 12 with (fail)
          generalize v9.alloc (.cells #[.int .u64 Mf.zero.s, .int .i64 Mf.zero.n, .int .i64 Mf.zero.h, .int .i64 Mf.zero.t, .int .i64 Mf.zero.k, .int .u32 Mf.zero.p] 27) = u9 at *
          obtain ⟨h0, h1, h2, h3, h4, h5⟩ := six_cells BMz.out
          obtain ⟨k0, k1, k2, k3, k4, k5⟩ := six_cells BNz.out
          obtain ⟨ha0, ha1, ha2, ha3, ha4, ha5⟩ := six_alloc BMz.out
          obtain ⟨ka0, ka1, ka2, ka3, ka4, ka5⟩ := six_alloc BNz.out
          obtain ⟨p0, p1, p2, p3, p4, p5⟩ := six_alloc R6z.out
          obtain ⟨q0, q1, q2, q3, q4, q5⟩ := six_alloc R7z.out
          obtain ⟨r0, r1, r2, r3, r4, r5⟩ := six_alloc R8z.out
          go_wp2
          go_ret
          exact ⟨rfl, BZ.out.alloc (below_size BZ.out) _⟩
        · rw [if_neg hs] at x1
          have X1 := Aside0.mk x1
          have d1 : decide (m.s < n.s) = false := decide_eq_false hs
          clear x1 hs
          go_enter Try.func6, Try.ntmps6
          go_wp2_with (first | ((with_reducible refine gate_dst (N := 3) rfl ?_); refine box_event ?hg (N := 3) ?hd (cs := #[.int .u64 m.s, .int .i64 m.n, .int .i64 m.h, .int .i64 m.t, .int .i64 m.k, .int .u32 m.p]) (t := 27) ?hr ?_; (case hd => rfl); (case hg => rfl); (case hr => first | (go_simp; done) | (go_simp; rfl)); intro g3 hg w0 hbox hb; have B0 := Aside0.mk hb; have BM := Aside0.mk hbox; have HB0 := Aside0.mk (Kd.C_below HB.out hb); clear hb hg hbox) | ((with_reducible refine gate_dst (N := 4) rfl ?_); refine box_event ?hg (N := 4) ?hd (cs := #[.int .u64 n.s, .int .i64 n.n, .int .i64 n.h, .int .i64 n.t, .int .i64 n.k, .int .u32 n.p]) (t := 27) ?hr ?_; (case hd => rfl); (case hg => rfl); (case hr => first | (go_simp; done) | (go_simp; rfl)); intro g4 hg w0' hbox hb; have B0' := Aside0.mk (below_step B0.out hb); have BN := Aside0.mk hbox; have BM' := Aside0.mk (blk_below BM.out hb); have HB0' := Aside0.mk (Kd.C_below HB0.out hb); clear hb hg hbox))
          refine (shown_true _).mono ?_
          rintro e w1 ⟨rfl, hb1⟩
          have B1 := Aside0.mk (below_step B0'.out hb1)
          have BM1 := Aside0.mk (blk_below BM'.out hb1)
          have BN1 := Aside0.mk (blk_below BN.out hb1)
          have HB1 := Aside0.mk (Kd.C_below HB0'.out hb1)
          clear hb1 B0 B0' BM BM' BN HB HB0 HB0'
          obtain ⟨h0, h1, h2, h3, h4, h5⟩ := six_cells BM1.out
          go_wp2_with fail
          clear hcut hmin
          refine (E1.out _).mono ?_
          rintro e w2 ⟨A2, c2, rfl, hle2, hC2, hb2⟩
          have B2 := Aside0.mk (below_step B1.out hb2)
          have BM2 := Aside0.mk (blk_below BM1.out hb2)
          have BN2 := Aside0.mk (blk_below BN1.out hb2)
          have HB2 := Aside0.mk (Kd.C_below HB1.out hb2)
          have C2 := Aside0.mk hC2
          have L2 := Aside0.mk hle2
          clear hb2 hle2 hC2 B1 BM1 BN1 HB1 h0 h1 h2 h3 h4 h5 E1
          obtain ⟨h0, h1, h2, h3, h4, h5⟩ := six_cells BN2.out
          go_wp2_with fail
          refine (E2.out _).mono ?_
          rintro e w3 ⟨A3, c3, rfl, hle3, hC3, hb3⟩
          have B3 := Aside0.mk (below_step B2.out hb3)
          have BM3 := Aside0.mk (blk_below BM2.out hb3)
          have BN3 := Aside0.mk (blk_below BN2.out hb3)
          have HB3 := Aside0.mk (Kd.C_below HB2.out hb3)
          have C3 := Aside0.mk (Kd.C_below C2.out hb3)
          have D3 := Aside0.mk hC3
          have M3 := Aside0.mk hle3
          clear hb3 hle3 hC3 B2 BM2 BN2 HB2 C2 h0 h1 h2 h3 h4 h5 E2
          go_wp2_with fail
          refine (mdecode_w HB3.out LB.out YB.out (by omega)).mono ?_
          rintro e w4 ⟨rfl, hb4⟩
          generalize mdec bb = q at *
          have B5 := Aside0.mk ((below_step B3.out hb4).alloc (below_size (below_step B3.out hb4)) (.cells #[.int .u64 q.s, .int .i64 q.n, .int .i64 q.h, .int .i64 q.t, .int .i64 q.k, .int .u32 q.p] 27))
          have BM5 := Aside0.mk (blk_alloc (blk_below BM3.out hb4) (.cells #[.int .u64 q.s, .int .i64 q.n, .int .i64 q.h, .int .i64 q.t, .int .i64 q.k, .int .u32 q.p] 27))
          have BN5 := Aside0.mk (blk_alloc (blk_below BN3.out hb4) (.cells #[.int .u64 q.s, .int .i64 q.n, .int .i64 q.h, .int .i64 q.t, .int .i64 q.k, .int .u32 q.p] 27))
          have HB5 := Aside0.mk (Kd.C_alloc (Kd.C_below HB3.out hb4) (.cells #[.int .u64 q.s, .int .i64 q.n, .int .i64 q.h, .int .i64 q.t, .int .i64 q.k, .int .u32 q.p] 27))
          have C5 := Aside0.mk (Kd.C_alloc (Kd.C_below C3.out hb4) (.cells #[.int .u64 q.s, .int .i64 q.n, .int .i64 q.h, .int .i64 q.t, .int .i64 q.k, .int .u32 q.p] 27))
          have D5 := Aside0.mk (Kd.C_alloc (Kd.C_below D3.out hb4) (.cells #[.int .u64 q.s, .int .i64 q.n, .int .i64 q.h, .int .i64 q.t, .int .i64 q.k, .int .u32 q.p] 27))
          clear hb4 B3 BM3 BN3 HB3 C3 D3
          go_wp2_with fail
          generalize w4.alloc (.cells #[.int .u64 q.s, .int .i64 q.n, .int .i64 q.h, .int .i64 q.t, .int .i64 q.k, .int .u32 q.p] 27) = u5 at *
          refine (X1.out _ _ _ _ _ C5.out L2.out D5.out M3.out).mono ?_
          rintro e v6 ⟨rfl, hb⟩
          have B6 := Aside0.mk ((below_step B5.out hb).alloc (below_size (below_step B5.out hb)) (.cells #[.int .u64 m.s, .int .i64 m.n, .int .i64 m.h, .int .i64 m.t, .int .i64 m.k, .int .u32 m.p] 27))
          have BM6 := Aside0.mk (blk_alloc (blk_below BM5.out hb) (.cells #[.int .u64 m.s, .int .i64 m.n, .int .i64 m.h, .int .i64 m.t, .int .i64 m.k, .int .u32 m.p] 27))
          have BN6 := Aside0.mk (blk_alloc (blk_below BN5.out hb) (.cells #[.int .u64 m.s, .int .i64 m.n, .int .i64 m.h, .int .i64 m.t, .int .i64 m.k, .int .u32 m.p] 27))
          have HB6 := Aside0.mk (Kd.C_alloc (Kd.C_below HB5.out hb) (.cells #[.int .u64 m.s, .int .i64 m.n, .int .i64 m.h, .int .i64 m.t, .int .i64 m.k, .int .u32 m.p] 27))
          have C6 := Aside0.mk (Kd.C_alloc (Kd.C_below C5.out hb) (.cells #[.int .u64 m.s, .int .i64 m.n, .int .i64 m.h, .int .i64 m.t, .int .i64 m.k, .int .u32 m.p] 27))
          have D6 := Aside0.mk (Kd.C_alloc (Kd.C_below D5.out hb) (.cells #[.int .u64 m.s, .int .i64 m.n, .int .i64 m.h, .int .i64 m.t, .int .i64 m.k, .int .u32 m.p] 27))
          have R6_6 := Aside0.mk (blk_new v6 (.cells #[.int .u64 m.s, .int .i64 m.n, .int .i64 m.h, .int .i64 m.t, .int .i64 m.k, .int .u32 m.p] 27))
          clear hb B5 BM5 BN5 HB5 C5 D5
          go_wp2_with fail
          generalize v6.alloc (.cells #[.int .u64 m.s, .int .i64 m.n, .int .i64 m.h, .int .i64 m.t, .int .i64 m.k, .int .u32 m.p] 27) = u6 at *
          generalize v6.heap.size = g6 at *
          have R66 := R6_6
          clear R6_6
          refine (X2.out _ _ _ _ _ C6.out L2.out HB6.out LB.out).mono ?_
          rintro e v7 ⟨rfl, hb⟩
          have B7 := Aside0.mk ((below_step B6.out hb).alloc (below_size (below_step B6.out hb)) (.cells #[.int .u64 m.s, .int .i64 m.n, .int .i64 m.h, .int .i64 m.t, .int .i64 m.k, .int .u32 m.p] 27))
          have BM7 := Aside0.mk (blk_alloc (blk_below BM6.out hb) (.cells #[.int .u64 m.s, .int .i64 m.n, .int .i64 m.h, .int .i64 m.t, .int .i64 m.k, .int .u32 m.p] 27))
          have BN7 := Aside0.mk (blk_alloc (blk_below BN6.out hb) (.cells #[.int .u64 m.s, .int .i64 m.n, .int .i64 m.h, .int .i64 m.t, .int .i64 m.k, .int .u32 m.p] 27))
          have R67 := Aside0.mk (blk_alloc (blk_below R66.out hb) (.cells #[.int .u64 m.s, .int .i64 m.n, .int .i64 m.h, .int .i64 m.t, .int .i64 m.k, .int .u32 m.p] 27))
          have HB7 := Aside0.mk (Kd.C_alloc (Kd.C_below HB6.out hb) (.cells #[.int .u64 m.s, .int .i64 m.n, .int .i64 m.h, .int .i64 m.t, .int .i64 m.k, .int .u32 m.p] 27))
          have C7 := Aside0.mk (Kd.C_alloc (Kd.C_below C6.out hb) (.cells #[.int .u64 m.s, .int .i64 m.n, .int .i64 m.h, .int .i64 m.t, .int .i64 m.k, .int .u32 m.p] 27))
          have D7 := Aside0.mk (Kd.C_alloc (Kd.C_below D6.out hb) (.cells #[.int .u64 m.s, .int .i64 m.n, .int .i64 m.h, .int .i64 m.t, .int .i64 m.k, .int .u32 m.p] 27))
          have R7_7 := Aside0.mk (blk_new v7 (.cells #[.int .u64 m.s, .int .i64 m.n, .int .i64 m.h, .int .i64 m.t, .int .i64 m.k, .int .u32 m.p] 27))
          clear hb B6 BM6 BN6 R66 HB6 C6 D6
          go_wp2_with fail
          generalize v7.alloc (.cells #[.int .u64 m.s, .int .i64 m.n, .int .i64 m.h, .int .i64 m.t, .int .i64 m.k, .int .u32 m.p] 27) = u7 at *
          generalize v7.heap.size = g7 at *
          have R77 := R7_7
          clear R7_7
          refine (X3.out _ _ _ _ _ HB7.out LB.out D7.out M3.out).mono ?_
          rintro e v8 ⟨rfl, hb⟩
          have B8 := Aside0.mk ((below_step B7.out hb).alloc (below_size (below_step B7.out hb)) (.cells #[.int .u64 n.s, .int .i64 n.n, .int .i64 n.h, .int .i64 n.t, .int .i64 n.k, .int .u32 n.p] 27))
          have BM8 := Aside0.mk (blk_alloc (blk_below BM7.out hb) (.cells #[.int .u64 n.s, .int .i64 n.n, .int .i64 n.h, .int .i64 n.t, .int .i64 n.k, .int .u32 n.p] 27))
          have BN8 := Aside0.mk (blk_alloc (blk_below BN7.out hb) (.cells #[.int .u64 n.s, .int .i64 n.n, .int .i64 n.h, .int .i64 n.t, .int .i64 n.k, .int .u32 n.p] 27))
          have R68 := Aside0.mk (blk_alloc (blk_below R67.out hb) (.cells #[.int .u64 n.s, .int .i64 n.n, .int .i64 n.h, .int .i64 n.t, .int .i64 n.k, .int .u32 n.p] 27))
          have R78 := Aside0.mk (blk_alloc (blk_below R77.out hb) (.cells #[.int .u64 n.s, .int .i64 n.n, .int .i64 n.h, .int .i64 n.t, .int .i64 n.k, .int .u32 n.p] 27))
          have HB8 := Aside0.mk (Kd.C_alloc (Kd.C_below HB7.out hb) (.cells #[.int .u64 n.s, .int .i64 n.n, .int .i64 n.h, .int .i64 n.t, .int .i64 n.k, .int .u32 n.p] 27))
          have C8 := Aside0.mk (Kd.C_alloc (Kd.C_below C7.out hb) (.cells #[.int .u64 n.s, .int .i64 n.n, .int .i64 n.h, .int .i64 n.t, .int .i64 n.k, .int .u32 n.p] 27))
          have D8 := Aside0.mk (Kd.C_alloc (Kd.C_below D7.out hb) (.cells #[.int .u64 n.s, .int .i64 n.n, .int .i64 n.h, .int .i64 n.t, .int .i64 n.k, .int .u32 n.p] 27))
          have R8_8 := Aside0.mk (blk_new v8 (.cells #[.int .u64 n.s, .int .i64 n.n, .int .i64 n.h, .int .i64 n.t, .int .i64 n.k, .int .u32 n.p] 27))
          clear hb B7 BM7 BN7 R67 R77 HB7 C7 D7
          go_wp2_with fail
          generalize v8.alloc (.cells #[.int .u64 n.s, .int .i64 n.n, .int .i64 n.h, .int .i64 n.t, .int .i64 n.k, .int .u32 n.p] 27) = u8 at *
          generalize v8.heap.size = g8 at *
          have R88 := R8_8
          clear R8_8
          refine (X4.out _ _ _ _ _ HB8.out LB.out HB8.out LB.out).mono ?_
          rintro e v9 ⟨rfl, hb⟩
          have B9 := Aside0.mk (below_step B8.out hb)
          have BM9 := Aside0.mk (blk_below BM8.out hb)
          have BN9 := Aside0.mk (blk_below BN8.out hb)
          have R69 := Aside0.mk (blk_below R68.out hb)
          have R79 := Aside0.mk (blk_below R78.out hb)
          have R89 := Aside0.mk (blk_below R88.out hb)
          clear hb B8 BM8 BN8 R68 R78 R88 HB8 C8 D8 X1 X2 X3 X4
          have BZ := Aside0.mk (B9.out.alloc (below_size B9.out) (.cells #[.int .u64 Mf.zero.s, .int .i64 Mf.zero.n, .int .i64 Mf.zero.h, .int .i64 Mf.zero.t, .int .i64 Mf.zero.k, .int .u32 Mf.zero.p] 27))
          have BMz := Aside0.mk (blk_alloc BM9.out (.cells #[.int .u64 Mf.zero.s, .int .i64 Mf.zero.n, .int .i64 Mf.zero.h, .int .i64 Mf.zero.t, .int .i64 Mf.zero.k, .int .u32 Mf.zero.p] 27))
          have BNz := Aside0.mk (blk_alloc BN9.out (.cells #[.int .u64 Mf.zero.s, .int .i64 Mf.zero.n, .int .i64 Mf.zero.h, .int .i64 Mf.zero.t, .int .i64 Mf.zero.k, .int .u32 Mf.zero.p] 27))
          have R6z := Aside0.mk (blk_alloc R69.out (.cells #[.int .u64 Mf.zero.s, .int .i64 Mf.zero.n, .int .i64 Mf.zero.h, .int .i64 Mf.zero.t, .int .i64 Mf.zero.k, .int .u32 Mf.zero.p] 27))
          have R7z := Aside0.mk (blk_alloc R79.out (.cells #[.int .u64 Mf.zero.s, .int .i64 Mf.zero.n, .int .i64 Mf.zero.h, .int .i64 Mf.zero.t, .int .i64 Mf.zero.k, .int .u32 Mf.zero.p] 27))
          have R8z := Aside0.mk (blk_alloc R89.out (.cells #[.int .u64 Mf.zero.s, .int .i64 Mf.zero.n, .int .i64 Mf.zero.h, .int .i64 Mf.zero.t, .int .i64 Mf.zero.k, .int .u32 Mf.zero.p] 27))
          clear B9 BM9 BN9 R69 R79 R89
          go_upto_region 12 with (fail)
          generalize v9.alloc (.cells #[.int .u64 Mf.zero.s, .int .i64 Mf.zero.n, .int .i64 Mf.zero.h, .int .i64 Mf.zero.t, .int .i64 Mf.zero.k, .int .u32 Mf.zero.p] 27) = u9 at *
          obtain ⟨h0, h1, h2, h3, h4, h5⟩ := six_cells BMz.out
          obtain ⟨k0, k1, k2, k3, k4, k5⟩ := six_cells BNz.out
          obtain ⟨ha0, ha1, ha2, ha3, ha4, ha5⟩ := six_alloc BMz.out
          obtain ⟨ka0, ka1, ka2, ka3, ka4, ka5⟩ := six_alloc BNz.out
          obtain ⟨p0, p1, p2, p3, p4, p5⟩ := six_alloc R6z.out
          obtain ⟨q0, q1, q2, q3, q4, q5⟩ := six_alloc R7z.out
          obtain ⟨r0, r1, r2, r3, r4, r5⟩ := six_alloc R8z.out
          go_wp2
          go_ret
          exact ⟨rfl, BZ.out.alloc (below_size BZ.out) _⟩
    · rw [(menc_wrong hn).1, (menc_wrong hn).2] at e2
      have E1 := Aside0.mk e1
      have E2 := Aside0.mk e2
      clear e1 e2 hm hn wm wn
      go_enter Try.func6, Try.ntmps6
      go_wp2_with (first | ((with_reducible refine gate_dst (N := 3) rfl ?_); refine box_event ?hg (N := 3) ?hd (cs := #[.int .u64 m.s, .int .i64 m.n, .int .i64 m.h, .int .i64 m.t, .int .i64 m.k, .int .u32 m.p]) (t := 27) ?hr ?_; (case hd => rfl); (case hg => rfl); (case hr => first | (go_simp; done) | (go_simp; rfl)); intro g3 hg w0 hbox hb; have B0 := Aside0.mk hb; have BM := Aside0.mk hbox; have HB0 := Aside0.mk (Kd.C_below HB.out hb); clear hb hg hbox) | ((with_reducible refine gate_dst (N := 4) rfl ?_); refine box_event ?hg (N := 4) ?hd (cs := #[.int .u64 n.s, .int .i64 n.n, .int .i64 n.h, .int .i64 n.t, .int .i64 n.k, .int .u32 n.p]) (t := 27) ?hr ?_; (case hd => rfl); (case hg => rfl); (case hr => first | (go_simp; done) | (go_simp; rfl)); intro g4 hg w0' hbox hb; have B0' := Aside0.mk (below_step B0.out hb); have BN := Aside0.mk hbox; have BM' := Aside0.mk (blk_below BM.out hb); have HB0' := Aside0.mk (Kd.C_below HB0.out hb); clear hb hg hbox))
      refine (shown_true _).mono ?_
      rintro e w1 ⟨rfl, hb1⟩
      have B1 := Aside0.mk (below_step B0'.out hb1)
      have BM1 := Aside0.mk (blk_below BM'.out hb1)
      have BN1 := Aside0.mk (blk_below BN.out hb1)
      have HB1 := Aside0.mk (Kd.C_below HB0'.out hb1)
      clear hb1 B0 B0' BM BM' BN HB HB0 HB0'
      obtain ⟨h0, h1, h2, h3, h4, h5⟩ := six_cells BM1.out
      go_wp2_with fail
      clear hcut hmin
      refine (E1.out _).mono ?_
      rintro e w2 ⟨A2, c2, rfl, hle2, hC2, hb2⟩
      have B2 := Aside0.mk (below_step B1.out hb2)
      have BM2 := Aside0.mk (blk_below BM1.out hb2)
      have BN2 := Aside0.mk (blk_below BN1.out hb2)
      have HB2 := Aside0.mk (Kd.C_below HB1.out hb2)
      have C2 := Aside0.mk hC2
      have L2 := Aside0.mk hle2
      clear hb2 hle2 hC2 B1 BM1 BN1 HB1 h0 h1 h2 h3 h4 h5 E1
      obtain ⟨h0, h1, h2, h3, h4, h5⟩ := six_cells BN2.out
      go_wp2_with fail
      refine (E2.out _).mono ?_
      rintro e w3 ⟨A3, c3, rfl, hle3, hC3, hb3⟩
      have B3 := Aside0.mk (below_step B2.out hb3)
      have BM3 := Aside0.mk (blk_below BM2.out hb3)
      have BN3 := Aside0.mk (blk_below BN2.out hb3)
      have HB3 := Aside0.mk (Kd.C_below HB2.out hb3)
      have C3 := Aside0.mk (Kd.C_below C2.out hb3)
      have D3 := Aside0.mk hC3
      have M3 := Aside0.mk hle3
      clear hb3 hle3 hC3 B2 BM2 BN2 HB2 C2 h0 h1 h2 h3 h4 h5 E2
      go_wp2_with fail
      refine (mdecode_w HB3.out LB.out YB.out (by omega)).mono ?_
      rintro e w4 ⟨rfl, hb4⟩
      have B4 := Aside0.mk (below_step B3.out hb4)
      clear hb4 B3 BM3 BN3 HB3 C3 D3 L2 M3
      go_wp2
      go_ret
      exact ⟨rfl, B4.out.alloc (below_size B4.out) _⟩
  · rw [(menc_wrong hm).1, (menc_wrong hm).2] at e1
    have E1 := Aside0.mk e1
    have E2 := Aside0.mk e2
    clear e1 e2 hm wm wn
    go_enter Try.func6, Try.ntmps6
    go_wp2_with (first | ((with_reducible refine gate_dst (N := 3) rfl ?_); refine box_event ?hg (N := 3) ?hd (cs := #[.int .u64 m.s, .int .i64 m.n, .int .i64 m.h, .int .i64 m.t, .int .i64 m.k, .int .u32 m.p]) (t := 27) ?hr ?_; (case hd => rfl); (case hg => rfl); (case hr => first | (go_simp; done) | (go_simp; rfl)); intro g3 hg w0 hbox hb; have B0 := Aside0.mk hb; have BM := Aside0.mk hbox; have HB0 := Aside0.mk (Kd.C_below HB.out hb); clear hb hg hbox) | ((with_reducible refine gate_dst (N := 4) rfl ?_); refine box_event ?hg (N := 4) ?hd (cs := #[.int .u64 n.s, .int .i64 n.n, .int .i64 n.h, .int .i64 n.t, .int .i64 n.k, .int .u32 n.p]) (t := 27) ?hr ?_; (case hd => rfl); (case hg => rfl); (case hr => first | (go_simp; done) | (go_simp; rfl)); intro g4 hg w0' hbox hb; have B0' := Aside0.mk (below_step B0.out hb); have BN := Aside0.mk hbox; have BM' := Aside0.mk (blk_below BM.out hb); have HB0' := Aside0.mk (Kd.C_below HB0.out hb); clear hb hg hbox))
    refine (shown_true _).mono ?_
    rintro e w1 ⟨rfl, hb1⟩
    have B1 := Aside0.mk (below_step B0'.out hb1)
    have BM1 := Aside0.mk (blk_below BM'.out hb1)
    have BN1 := Aside0.mk (blk_below BN.out hb1)
    have HB1 := Aside0.mk (Kd.C_below HB0'.out hb1)
    clear hb1 B0 B0' BM BM' BN HB HB0 HB0'
    obtain ⟨h0, h1, h2, h3, h4, h5⟩ := six_cells BM1.out
    go_wp2_with fail
    clear hcut hmin
    refine (E1.out _).mono ?_
    rintro e w2 ⟨A2, c2, rfl, hle2, hC2, hb2⟩
    have B2 := Aside0.mk (below_step B1.out hb2)
    have BM2 := Aside0.mk (blk_below BM1.out hb2)
    have BN2 := Aside0.mk (blk_below BN1.out hb2)
    have HB2 := Aside0.mk (Kd.C_below HB1.out hb2)
    have C2 := Aside0.mk hC2
    have L2 := Aside0.mk hle2
    clear hb2 hle2 hC2 B1 BM1 BN1 HB1 h0 h1 h2 h3 h4 h5 E1
    obtain ⟨h0, h1, h2, h3, h4, h5⟩ := six_cells BN2.out
    go_wp2_with fail
    refine (E2.out _).mono ?_
    rintro e w3 ⟨A3, c3, rfl, hle3, hC3, hb3⟩
    have B3 := Aside0.mk (below_step B2.out hb3)
    have BM3 := Aside0.mk (blk_below BM2.out hb3)
    have BN3 := Aside0.mk (blk_below BN2.out hb3)
    have HB3 := Aside0.mk (Kd.C_below HB2.out hb3)
    have C3 := Aside0.mk (Kd.C_below C2.out hb3)
    have D3 := Aside0.mk hC3
    have M3 := Aside0.mk hle3
    clear hb3 hle3 hC3 B2 BM2 BN2 HB2 C2 h0 h1 h2 h3 h4 h5 E2
    go_wp2_with fail
    refine (mdecode_w HB3.out LB.out YB.out (by omega)).mono ?_
    rintro e w4 ⟨rfl, hb4⟩
    have B4 := Aside0.mk (below_step B3.out hb4)
    clear hb4 B3 BM3 BN3 HB3 C3 D3 L2 M3
    go_wp2
    go_ret
    exact ⟨rfl, B4.out.alloc (below_size B4.out) _⟩
theorem cartagelaw16_ManifestNewer.walk (m n : Mf) (a0 : Option Addr) (len0 cap0 : Nat) (z0 : List Int) (w : World) (wm : m.Wf) (wn : n.Wf) (w0 : (a0 = none ∧ len0 = 0 ∧ cap0 = 0 ∧ z0 = []) ∨ ∃ x, a0 = some x ∧ len0 ≤ cap0 ∧ cap0 ≤ maxLen ∧ z0.length = cap0 ∧ (∀ i, i < z0.length → w.cell? (x.add i) = some (.int .u8 (z0.getD i 0))) ∧ ∀ n ∈ z0, (Lit.int .u8 n).wf = true) (y0 : len0 * 1 ≤ 140737488351232) :
    Calls Try.prog 6 #[.agg #[.int .u64 m.s, .int .i64 m.n, .int .i64 m.h, .int .i64 m.t, .int .i64 m.k, .int .u32 m.p], .agg #[.int .u64 n.s, .int .i64 n.n, .int .i64 n.h, .int .i64 n.t, .int .i64 n.k, .int .u32 n.p], .slice a0 len0 cap0] w fun e w' => e = .returned (.bool true) ∧ Below w.heap.size w w' := by
  obtain ⟨l0, rfl, hr0, hm0, hw0, hc0⟩ := ReadsInt.ofRowC w0
  exact cartagelaw16_ManifestNewer.calls m n wm wn _ _ l0 w (Kd.C_of_reads (d := (0 : Int)) (h1 := fun _ => rfl) hr0) hc0 (bytes_of_wf hw0)
end Go.Proofs.Ytibahgondccdiaa.PAll
