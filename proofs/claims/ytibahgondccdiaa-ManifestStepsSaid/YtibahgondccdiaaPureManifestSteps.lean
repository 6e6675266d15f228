/- ManifestSteps: a manifest without a step has no program; one with a step has a right one. Conditions: none. -/
import Derived.Test.YtibahgondccdiaaMfS
namespace Go.Proofs.Ytibahgondccdiaa.PAll
open Go.RowKit Go.Proofs.Ytibahgondccdiaa.Oct Go.Proofs.Ytibahgondccdiaa.HX Go.Proofs.YtibahgondccdiaaW.PrintWords Go.Proofs.YtibahgondccdiaaW.PrintLast Go.Proofs.YtibahgondccdiaaW.PrintMore
attribute [local go_sem] max2_int min2_int max_two min_two max_three min_three max_four min_four   -- for this text's walks alone
set_option linter.unusedVariables false
set_option linter.unusedSimpArgs false
theorem and_i64 (x : Int) (m : Nat) (hm : m < 9223372036854775808) : 0 ≤ bits .and .i64 x m ∧ bits .and .i64 x m ≤ m := by
  have e : bits .and .i64 x m = wrap64 (((BitVec.ofInt 64 x &&& BitVec.ofInt 64 (m : Int)).toNat : Nat) : Int) := by
    rw [← i64_w]; rfl
  have hb : (BitVec.ofInt 64 x &&& BitVec.ofInt 64 (m : Int)).toNat ≤ m := by
    rw [BitVec.toNat_and, BitVec.ofInt_natCast, BitVec.toNat_ofNat]
    exact Nat.le_trans Nat.and_le_right (Nat.mod_le _ _)
  rw [e]
  generalize (BitVec.ofInt 64 x &&& BitVec.ofInt 64 (m : Int)).toNat = q at hb
  rw [wrap_in (by omega) (by omega)]
  omega
theorem right_w (m : Mf) (wf : m.Wf) (w : World) :
    Calls Try.prog 13 #[.agg #[.int .u64 m.s, .int .i64 m.n, .int .i64 m.h, .int .i64 m.t, .int .i64 m.k, .int .u32 m.p]] w fun e w' => e = .returned (.bool m.right) ∧ Below w.heap.size w w' :=
  manifest_Right.calls 5000 _ _ _ _ _ _ _ _ (mright_is wf 5000 (by omega))

set_option maxHeartbeats 4000000 in
set_option maxRecDepth 100000 in
theorem cartagelaw16_ManifestSteps.calls (a0 a1 a2 a3 : Int) (w : World) (h3 : -9223372036854775808 ≤ a3 ∧ a3 < 9223372036854775808) :
    Calls Try.prog 7 #[.int .i64 a0, .int .i64 a1, .int .i64 a2, .int .i64 a3] w fun e w' => e = .returned (.bool true) ∧ Below w.heap.size w w' := by
  obtain ⟨n, hn, hn0, hn1⟩ : ∃ n : Int, (bits .and .i64 a0 1048575).tmod 1048577 = n ∧ 0 ≤ n ∧ n ≤ 1048575 := by
    have h := and_i64 a0 1048575 (by decide)
    rw [show ((1048575 : Nat) : Int) = 1048575 from rfl] at h
    rw [Int.tmod_eq_emod_of_nonneg h.1]
    exact ⟨_, rfl, by omega, by omega⟩
  obtain ⟨sh, hsh, hs0, hs1⟩ : ∃ n : Int, (bits .and .i64 a1 65535).tmod 4096 = n ∧ 0 ≤ n ∧ n ≤ 4095 := by
    have h := and_i64 a1 65535 (by decide)
    rw [show ((65535 : Nat) : Int) = 65535 from rfl] at h
    rw [Int.tmod_eq_emod_of_nonneg h.1]
    exact ⟨_, rfl, by omega, by omega⟩
  obtain ⟨st, hst, ht0, ht1⟩ : ∃ n : Int, bits .and .i64 a2 65535 = n ∧ 0 ≤ n ∧ n ≤ 65535 := by
    have h := and_i64 a2 65535 (by decide)
    rw [show ((65535 : Nat) : Int) = 65535 from rfl] at h
    exact ⟨_, rfl, h.1, h.2⟩
  have wf1 : (⟨1, n, 1 + sh, -1, a3, 0⟩ : Mf).Wf := ⟨by simp, ⟨by simp only; omega, by simp only; omega⟩, ⟨by simp only; omega, by simp only; omega⟩, by simp, h3, by simp⟩
  have wf2 : (⟨1, n, 1 + sh, st, a3, 0⟩ : Mf).Wf := ⟨by simp, ⟨by simp only; omega, by simp only; omega⟩, ⟨by simp only; omega, by simp only; omega⟩, ⟨by simp only; omega, by simp only; omega⟩, h3, by simp⟩
  have r1 : (⟨1, n, 1 + sh, -1, a3, 0⟩ : Mf).Right ↔ a3 = 0 := by
    unfold Mf.Right
    simp only
    constructor
    · intro h
      exact (h.2.2.2.2.1 trivial).1
    · intro h
      exact ⟨by omega, by omega, by omega, by omega, fun _ => ⟨h, trivial⟩, fun h => absurd rfl h⟩
  have r2 : (⟨1, n, 1 + sh, st, a3, 0⟩ : Mf).Right ↔ (1 ≤ a3 ∧ a3 ≤ 5) ∧ ((a3 = 1 ∨ a3 = 3) → 0 < n) := by
    unfold Mf.Right
    simp only
    constructor
    · intro h
      have := h.2.2.2.2.2 (by omega)
      exact ⟨⟨this.1, this.2.1⟩, this.2.2⟩
    · intro h
      exact ⟨by omega, by omega, by omega, by omega, fun h => by omega, fun _ => ⟨h.1.1, h.1.2, h.2⟩⟩
  obtain ⟨b1, hb1⟩ : ∃ b, (⟨1, n, 1 + sh, -1, a3, 0⟩ : Mf).right = b := ⟨_, rfl⟩
  obtain ⟨b2, hb2⟩ : ∃ b, (⟨1, n, 1 + sh, st, a3, 0⟩ : Mf).right = b := ⟨_, rfl⟩
  have hb1' := hb1
  have hb2' := hb2
  unfold Mf.right at hb1' hb2'
  have c1 := fun w => right_w ⟨1, n, 1 + sh, -1, a3, 0⟩ wf1 w
  have c2 := fun w => right_w ⟨1, n, 1 + sh, st, a3, 0⟩ wf2 w
  have c3 := fun w => mencode_w ⟨1, n, 1 + sh, st, a3, 0⟩ wf2 w
  rw [hb1] at c1
  rw [hb2] at c2
  have key : (b2 = true ∧ (⟨1, n, 1 + sh, st, a3, 0⟩ : Mf).enc.length = 54 ∧ (⟨1, n, 1 + sh, st, a3, 0⟩ : Mf).err = 0) ∨ (b2 = false ∧ (⟨1, n, 1 + sh, st, a3, 0⟩ : Mf).enc.length = 0 ∧ (⟨1, n, 1 + sh, st, a3, 0⟩ : Mf).err = 1) := by
    by_cases h : (⟨1, n, 1 + sh, st, a3, 0⟩ : Mf).Right
    · rw [(menc_right h).1, (menc_right h).2, enc54]
      rw [decide_eq_true h] at hb2'
      exact .inl ⟨hb2'.symm, rfl, rfl⟩
    · rw [(menc_wrong h).1, (menc_wrong h).2]
      rw [decide_eq_false h] at hb2'
      exact .inr ⟨hb2'.symm, rfl, rfl⟩
  have q1 : b1 = decide (a3 = 0) := by rw [← hb1', decide_eq_decide]; exact r1
  have q2 : b2 = decide ((1 ≤ a3 ∧ a3 ≤ 5) ∧ ((a3 = 1 ∨ a3 = 3) → 0 < n)) := by rw [← hb2', decide_eq_decide]; exact r2
  generalize (⟨1, n, 1 + sh, st, a3, 0⟩ : Mf).enc = en at c3 key
  generalize (⟨1, n, 1 + sh, st, a3, 0⟩ : Mf).err = er at c3 key
  simp only at c1 c2 c3
  clear hb1 hb2 hb1' hb2' r1 r2 wf1 wf2 h3
  have C1 := Aside0.mk c1
  have C2 := Aside0.mk c2
  have C3 := Aside0.mk c3
  clear c1 c2 c3
  have cs : (a3 = 0) ∨ (a3 = 1 ∧ 0 < n) ∨ (a3 = 1 ∧ n = 0) ∨ (a3 = 3 ∧ 0 < n) ∨ (a3 = 3 ∧ n = 0) ∨ a3 = 2 ∨ a3 = 4 ∨ a3 = 5 ∨ (a3 ≠ 0 ∧ a3 ≠ 1 ∧ a3 ≠ 2 ∧ a3 ≠ 3 ∧ a3 ≠ 4 ∧ a3 ≠ 5) := by omega
  rcases cs with rfl | ⟨rfl, hn2⟩ | ⟨rfl, rfl⟩ | ⟨rfl, hn2⟩ | ⟨rfl, rfl⟩ | rfl | rfl | rfl | ⟨n0, n1, n2, n3, n4, n5⟩
  case inr.inr.inr.inr.inr.inr.inr.inr =>
    rw [decide_eq_false n0] at q1
    rw [decide_eq_false (by omega)] at q2
    subst q1 q2
    obtain ⟨hl, rfl⟩ := (key.resolve_left (fun h => by cases h.1)).2
    have k0 : (a3 == 0) = false := beq_eq_false_iff_ne.mpr n0
    have k1 : (a3 == 1) = false := beq_eq_false_iff_ne.mpr n1
    have k2 : (a3 == 2) = false := beq_eq_false_iff_ne.mpr n2
    have k3 : (a3 == 3) = false := beq_eq_false_iff_ne.mpr n3
    have k4 : (a3 == 4) = false := beq_eq_false_iff_ne.mpr n4
    have k5 : (a3 == 5) = false := beq_eq_false_iff_ne.mpr n5
    have kl : ((en.length : Int) == 0) = true := by rw [hl]; rfl
    clear n0 n1 n2 n3 n4 n5 hl key
    go_enter Try.func7, Try.ntmps7
    go_wp2_with fail
    refine (shown_true _).mono ?_
    rintro e w1 ⟨rfl, hb1⟩
    have B1 := Aside0.mk hb1
    clear hb1
    go_wp2_with fail
    refine (C1.out _).mono ?_
    rintro e w2 ⟨rfl, hb2⟩
    have B2 := Aside0.mk (below_step (B1.out.alloc (below_size B1.out) _) hb2)
    have BK2 := Aside0.mk (blk_below (blk_new w1 _) hb2)
    have GE := Aside0.mk (below_size B1.out)
    clear hb2 B1 C1
    generalize w1.heap.size = g at *
    obtain ⟨h0, h1, h2, h3, h4, h5⟩ := six_cells BK2.out
    obtain ⟨f0, f1, f2, f3, f4, f5⟩ := six_free BK2.out
    go_wp2_with fail
    refine (C3.out _).mono ?_
    rintro e w3 ⟨A3, c3, rfl, hle3, hC3, hb3⟩
    have B3 := Aside0.mk (below_step (below_set B2.out GE.out) hb3)
    have BK3 := Aside0.mk (blk_below (blk_put BK2.out 3 _ rfl) hb3)
    clear hb3 hC3 hle3 h0 h1 h2 h3 h4 h5 f0 f1 f2 f3 f4 f5 B2 BK2
    obtain ⟨h0, h1, h2, h3, h4, h5⟩ := six_cells BK3.out
    go_wp2_with fail
    refine (C2.out _).mono ?_
    rintro e w4 ⟨rfl, hb4⟩
    have B4 := Aside0.mk (below_step B3.out hb4)
    clear hb4 h0 h1 h2 h3 h4 h5 B3 BK3
    go_wp2
    go_ret
    exact ⟨rfl, B4.out⟩
  all_goals
    first | rw [decide_eq_true (by omega)] at q1 | rw [decide_eq_false (by omega)] at q1
    first | rw [decide_eq_true (by omega)] at q2 | rw [decide_eq_false (by omega)] at q2
    subst q1 q2
    rcases key with ⟨hb, hl, rfl⟩ | ⟨hb, hl, rfl⟩
    · first
        | (cases hb; done)
        | (cases hb
           have kl : ((en.length : Int) == 54) = true := by rw [hl]; rfl
           clear hl
           go_enter Try.func7, Try.ntmps7
           go_wp2_with fail
           refine (shown_true _).mono ?_
           rintro e w1 ⟨rfl, hb1⟩
           have B1 := Aside0.mk hb1
           clear hb1
           go_wp2_with fail
           refine (C1.out _).mono ?_
           rintro e w2 ⟨rfl, hb2⟩
           have B2 := Aside0.mk (below_step (B1.out.alloc (below_size B1.out) _) hb2)
           have BK2 := Aside0.mk (blk_below (blk_new w1 _) hb2)
           have GE := Aside0.mk (below_size B1.out)
           clear hb2 B1 C1
           generalize w1.heap.size = g at *
           obtain ⟨h0, h1, h2, h3, h4, h5⟩ := six_cells BK2.out
           obtain ⟨f0, f1, f2, f3, f4, f5⟩ := six_free BK2.out
           go_wp2_with fail
           refine (C3.out _).mono ?_
           rintro e w3 ⟨A3, c3, rfl, hle3, hC3, hb3⟩
           have B3 := Aside0.mk (below_step (below_set B2.out GE.out) hb3)
           have BK3 := Aside0.mk (blk_below (blk_put BK2.out 3 _ rfl) hb3)
           clear hb3 hC3 hle3 h0 h1 h2 h3 h4 h5 f0 f1 f2 f3 f4 f5 B2 BK2
           obtain ⟨h0, h1, h2, h3, h4, h5⟩ := six_cells BK3.out
           go_wp2_with fail
           refine (C2.out _).mono ?_
           rintro e w4 ⟨rfl, hb4⟩
           have B4 := Aside0.mk (below_step B3.out hb4)
           clear hb4 h0 h1 h2 h3 h4 h5 B3 BK3
           go_wp2
           go_ret
           exact ⟨rfl, B4.out⟩)
    · first
        | (cases hb; done)
        | (cases hb
           have kl : ((en.length : Int) == 0) = true := by rw [hl]; rfl
           clear hl
           go_enter Try.func7, Try.ntmps7
           go_wp2_with fail
           refine (shown_true _).mono ?_
           rintro e w1 ⟨rfl, hb1⟩
           have B1 := Aside0.mk hb1
           clear hb1
           go_wp2_with fail
           refine (C1.out _).mono ?_
           rintro e w2 ⟨rfl, hb2⟩
           have B2 := Aside0.mk (below_step (B1.out.alloc (below_size B1.out) _) hb2)
           have BK2 := Aside0.mk (blk_below (blk_new w1 _) hb2)
           have GE := Aside0.mk (below_size B1.out)
           clear hb2 B1 C1
           generalize w1.heap.size = g at *
           obtain ⟨h0, h1, h2, h3, h4, h5⟩ := six_cells BK2.out
           obtain ⟨f0, f1, f2, f3, f4, f5⟩ := six_free BK2.out
           go_wp2_with fail
           refine (C3.out _).mono ?_
           rintro e w3 ⟨A3, c3, rfl, hle3, hC3, hb3⟩
           have B3 := Aside0.mk (below_step (below_set B2.out GE.out) hb3)
           have BK3 := Aside0.mk (blk_below (blk_put BK2.out 3 _ rfl) hb3)
           clear hb3 hC3 hle3 h0 h1 h2 h3 h4 h5 f0 f1 f2 f3 f4 f5 B2 BK2
           obtain ⟨h0, h1, h2, h3, h4, h5⟩ := six_cells BK3.out
           go_wp2_with fail
           refine (C2.out _).mono ?_
           rintro e w4 ⟨rfl, hb4⟩
           have B4 := Aside0.mk (below_step B3.out hb4)
           clear hb4 h0 h1 h2 h3 h4 h5 B3 BK3
           go_wp2
           go_ret
           exact ⟨rfl, B4.out⟩)
theorem cartagelaw16_ManifestSteps.walk (a0 a1 a2 a3 : Int) (w : World) (_w0 : (Lit.int .i64 a0).wf = true) (_w1 : (Lit.int .i64 a1).wf = true) (_w2 : (Lit.int .i64 a2).wf = true) (w3 : (Lit.int .i64 a3).wf = true) :
    Calls Try.prog 7 #[.int .i64 a0, .int .i64 a1, .int .i64 a2, .int .i64 a3] w fun e w' => e = .returned (.bool true) ∧ Below w.heap.size w w' := by
  have h3 : -9223372036854775808 ≤ a3 ∧ a3 < 9223372036854775808 := by
    simp [Lit.wf, IntKind.min, IntKind.max, IntKind.bits, IntKind.signed] at w3
    omega
  exact cartagelaw16_ManifestSteps.calls a0 a1 a2 a3 w h3
end Go.Proofs.Ytibahgondccdiaa.PAll
