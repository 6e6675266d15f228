/- The contract of the reference's Choose of manifests. -/
import Derived.Test.YtibahgondccdiaaMfRD
namespace Go.Proofs.Ytibahgondccdiaa.PAll
open Go.RowKit Go.Proofs.Ytibahgondccdiaa.Oct Go.Proofs.Ytibahgondccdiaa.HX Go.Proofs.YtibahgondccdiaaW.PrintWords Go.Proofs.YtibahgondccdiaaW.PrintLast Go.Proofs.YtibahgondccdiaaW.PrintMore
attribute [local go_sem] max2_int min2_int max_two min_two max_three min_three max_four min_four   -- for this text's walks alone
set_option linter.unusedVariables false
set_option linter.unusedSimpArgs false

theorem ch_two (a b : List Int) : chAt a b 2 = if mderr a = 0 ∧ (mderr b ≠ 0 ∨ (mdec b).s ≤ (mdec a).s) then ⟨mdec a, 0, true⟩ else if mderr b = 0 then ⟨mdec b, 1, true⟩ else ⟨Mf.zero, 0, false⟩ := by
  show chStep b 1 (chStep a 0 _) = _
  unfold chStep
  by_cases ha : mderr a = 0 <;> by_cases hb : mderr b = 0 <;> by_cases hs : (mdec b).s ≤ (mdec a).s <;> simp [ha, hb, hs] <;> first | omega | (intro h; omega) | rfl | skip
set_option maxHeartbeats 8000000 in
set_option maxRecDepth 100000 in
theorem rchoose_w {A0 : Option Addr} {c0 : Nat} {a : List Int} {A1 : Option Addr} {c1 : Nat} {b : List Int} {w : World} (h0 : Kd.C (Kd.int .u8) w A0 a.length a) (hc0 : a.length ≤ c0) (hb0 : Bytes a) (hl0 : a.length ≤ 1000000)
    (h1 : Kd.C (Kd.int .u8) w A1 b.length b) (hc1 : b.length ≤ c1) (hb1 : Bytes b) (hl1 : b.length ≤ 1000000) :
    Calls Try.prog 18 #[.slice A0 a.length c0, .slice A1 b.length c1] w fun e w' => e = .returned (.tuple #[.agg #[.int .u64 (chAt a b 2).m.s, .int .i64 (chAt a b 2).m.n, .int .i64 (chAt a b 2).m.h, .int .i64 (chAt a b 2).m.t, .int .i64 (chAt a b 2).m.k, .int .u32 (chAt a b 2).m.p], .int .i64 (chAt a b 2).w, .bool (chAt a b 2).b]) ∧ Below w.heap.size w w' := by
  have hv := ch_two a b
  generalize chAt a b 2 = v at *
  have HB := Aside0.mk (Below.refl w.heap.size w)
  have H0 := Aside0.mk h0
  have H1 := Aside0.mk h1
  have R0 := Aside0.mk (fun w h => rdecode_w (w := w) (A := A0) (c := c0) (l := a) h hc0 hb0 hl0)
  have R1 := Aside0.mk (fun w h => rdecode_w (w := w) (A := A1) (c := c1) (l := b) h hc1 hb1 hl1)
  have HVV := Aside0.mk hv
  clear h0 h1 hc0 hc1 hb0 hb1 hv
  generalize mdec a = x at *
  generalize mdec b = y at *
  generalize mderr a = ra at *
  generalize mderr b = rb at *
  go_enter Try.func18, Try.ntmps18
  go_wp2_with ((with_reducible refine gate_dst (N := 4) rfl ?_); refine box_event ?hg (N := 4) ?hd (cs := #[.int .u64 0, .int .i64 0, .int .i64 0, .int .i64 0, .int .i64 0, .int .u32 0]) (t := 34) ?hr ?_; (case hd => rfl); (case hg => rfl); (case hr => first | (go_simp; done) | (go_simp; rfl)); intro g hg w0 hbox hb; have B0 := Aside0.mk hb; have BK := Aside0.mk hbox; clear hb hbox; have GE := Aside0.mk (show w.heap.size ≤ g from by rw [hg]; exact Nat.le_refl _); clear hg)
  refine (R0.out _ (Kd.C_below H0.out B0.out)).mono ?_
  rintro e w1 ⟨rfl, hb1⟩
  have B1 := Aside0.mk ((below_step B0.out hb1).alloc (below_size (below_step B0.out hb1)) (.cells #[.int .u64 x.s, .int .i64 x.n, .int .i64 x.h, .int .i64 x.t, .int .i64 x.k, .int .u32 x.p] 34))
  have BK1 := Aside0.mk (blk_alloc (blk_below BK.out hb1) (.cells #[.int .u64 x.s, .int .i64 x.n, .int .i64 x.h, .int .i64 x.t, .int .i64 x.k, .int .u32 x.p] 34))
  have M1 := Aside0.mk (blk_new w1 (.cells #[.int .u64 x.s, .int .i64 x.n, .int .i64 x.h, .int .i64 x.t, .int .i64 x.k, .int .u32 x.p] 34))
  have C1 := Aside0.mk (Kd.C_alloc (Kd.C_below H1.out (below_step B0.out hb1)) (.cells #[.int .u64 x.s, .int .i64 x.n, .int .i64 x.h, .int .i64 x.t, .int .i64 x.k, .int .u32 x.p] 34))
  clear hb1 B0 BK H0 H1 R0 HB
  go_wp2_with fail
  generalize w1.alloc (.cells #[.int .u64 x.s, .int .i64 x.n, .int .i64 x.h, .int .i64 x.t, .int .i64 x.k, .int .u32 x.p] 34) = u1 at *
  generalize w1.heap.size = g1 at *
  refine (R1.out _ C1.out).mono ?_
  rintro e w2 ⟨rfl, hb2⟩
  have B3 := Aside0.mk ((below_step B1.out hb2).alloc (below_size (below_step B1.out hb2)) (.cells #[.int .u64 y.s, .int .i64 y.n, .int .i64 y.h, .int .i64 y.t, .int .i64 y.k, .int .u32 y.p] 34))
  have BK3 := Aside0.mk (blk_alloc (blk_below BK1.out hb2) (.cells #[.int .u64 y.s, .int .i64 y.n, .int .i64 y.h, .int .i64 y.t, .int .i64 y.k, .int .u32 y.p] 34))
  have MX := Aside0.mk (blk_alloc (blk_below M1.out hb2) (.cells #[.int .u64 y.s, .int .i64 y.n, .int .i64 y.h, .int .i64 y.t, .int .i64 y.k, .int .u32 y.p] 34))
  have MY := Aside0.mk (blk_new w2 (.cells #[.int .u64 y.s, .int .i64 y.n, .int .i64 y.h, .int .i64 y.t, .int .i64 y.k, .int .u32 y.p] 34))
  clear hb2 B1 BK1 M1 C1 R1
  go_upto_region 3 with (fail)
  generalize w2.alloc (.cells #[.int .u64 y.s, .int .i64 y.n, .int .i64 y.h, .int .i64 y.t, .int .i64 y.k, .int .u32 y.p] 34) = u2 at *
  generalize w2.heap.size = g2 at *
  by_cases ha : ra = 0
  · subst ha
    by_cases hb : rb = 0
    · subst hb
      by_cases hs : y.s ≤ x.s
      · have HV := Aside0.mk (HVV.out.trans (if_pos ⟨rfl, .inr hs⟩))
        have d1 : decide (y.s ≤ x.s) = true := decide_eq_true hs
        clear HVV hs
        obtain ⟨h0, h1, h2, h3, h4, h5⟩ := six_cells MX.out
        obtain ⟨k0, k1, k2, k3, k4, k5⟩ := six_cells MY.out
        obtain ⟨i0, i1, i2, i3, i4, i5⟩ := six_cells BK3.out
        obtain ⟨f0, f1, f2, f3, f4, f5⟩ := six_free BK3.out
        go_wp2
        refine bodyPost_ret (results_ctt rfl _ _ g 34 #[.int .u64 x.s, .int .i64 x.n, .int .i64 x.h, .int .i64 x.t, .int .i64 x.k, .int .u32 x.p] (0, 0) _ rfl (six_put BK3.out _ _ _ _ _ _) Try.underlying34 rfl (by kernel_rfl)) rfl ?_
        exact ⟨by rw [HV.out]; rfl, six_below B3.out GE.out _ _ _ _ _ _⟩
      · have HV := Aside0.mk ((HVV.out.trans (if_neg (fun h => h.2.elim (fun h => h rfl) hs))).trans (if_pos rfl))
        have d1 : decide (y.s ≤ x.s) = false := decide_eq_false hs
        clear HVV hs
        obtain ⟨h0, h1, h2, h3, h4, h5⟩ := six_cells MX.out
        obtain ⟨k0, k1, k2, k3, k4, k5⟩ := six_cells MY.out
        obtain ⟨i0, i1, i2, i3, i4, i5⟩ := six_cells BK3.out
        obtain ⟨f0, f1, f2, f3, f4, f5⟩ := six_free BK3.out
        go_wp2
        refine bodyPost_ret (results_ctt rfl _ _ g 34 #[.int .u64 y.s, .int .i64 y.n, .int .i64 y.h, .int .i64 y.t, .int .i64 y.k, .int .u32 y.p] (0, 0) _ rfl (six_put BK3.out _ _ _ _ _ _) Try.underlying34 rfl (by kernel_rfl)) rfl ?_
        exact ⟨by rw [HV.out]; rfl, six_below B3.out GE.out _ _ _ _ _ _⟩
    · have HV := Aside0.mk (HVV.out.trans (if_pos ⟨rfl, .inl hb⟩))
      have e1 : (rb == 0) = false := beq_eq_false_iff_ne.mpr hb
      have e2 : (rb != 0) = true := bne_iff_ne.mpr hb
      clear HVV hb
      obtain ⟨h0, h1, h2, h3, h4, h5⟩ := six_cells MX.out
      obtain ⟨k0, k1, k2, k3, k4, k5⟩ := six_cells MY.out
      obtain ⟨i0, i1, i2, i3, i4, i5⟩ := six_cells BK3.out
      obtain ⟨f0, f1, f2, f3, f4, f5⟩ := six_free BK3.out
      go_wp2
      refine bodyPost_ret (results_ctt rfl _ _ g 34 #[.int .u64 x.s, .int .i64 x.n, .int .i64 x.h, .int .i64 x.t, .int .i64 x.k, .int .u32 x.p] (0, 0) _ rfl (six_put BK3.out _ _ _ _ _ _) Try.underlying34 rfl (by kernel_rfl)) rfl ?_
      exact ⟨by rw [HV.out]; rfl, six_below B3.out GE.out _ _ _ _ _ _⟩
  · have e0 : (ra == 0) = false := beq_eq_false_iff_ne.mpr ha
    by_cases hb : rb = 0
    · subst hb
      have HV := Aside0.mk ((HVV.out.trans (if_neg (fun h => ha h.1))).trans (if_pos rfl))
      clear HVV ha
      obtain ⟨h0, h1, h2, h3, h4, h5⟩ := six_cells MX.out
      obtain ⟨k0, k1, k2, k3, k4, k5⟩ := six_cells MY.out
      obtain ⟨i0, i1, i2, i3, i4, i5⟩ := six_cells BK3.out
      obtain ⟨f0, f1, f2, f3, f4, f5⟩ := six_free BK3.out
      go_wp2
      refine bodyPost_ret (results_ctt rfl _ _ g 34 #[.int .u64 y.s, .int .i64 y.n, .int .i64 y.h, .int .i64 y.t, .int .i64 y.k, .int .u32 y.p] (0, 0) _ rfl (six_put BK3.out _ _ _ _ _ _) Try.underlying34 rfl (by kernel_rfl)) rfl ?_
      exact ⟨by rw [HV.out]; rfl, six_below B3.out GE.out _ _ _ _ _ _⟩
    · have HV := Aside0.mk ((HVV.out.trans (if_neg (fun h => ha h.1))).trans (if_neg hb))
      have e1 : (rb == 0) = false := beq_eq_false_iff_ne.mpr hb
      clear HVV ha hb
      obtain ⟨h0, h1, h2, h3, h4, h5⟩ := six_cells MX.out
      obtain ⟨k0, k1, k2, k3, k4, k5⟩ := six_cells MY.out
      obtain ⟨i0, i1, i2, i3, i4, i5⟩ := six_cells BK3.out
      obtain ⟨f0, f1, f2, f3, f4, f5⟩ := six_free BK3.out
      go_wp2
      refine bodyPost_ret (results_ctt rfl _ _ g 34 #[.int .u64 0, .int .i64 0, .int .i64 0, .int .i64 0, .int .i64 0, .int .u32 0] (0, 0) _ rfl (six_put BK3.out _ _ _ _ _ _) Try.underlying34 rfl (by kernel_rfl)) rfl ?_
      exact ⟨by rw [HV.out]; rfl, six_below B3.out GE.out _ _ _ _ _ _⟩
end Go.Proofs.Ytibahgondccdiaa.PAll
