/- ManifestReads: bytes are a manifest, or wrong, as the document says. Conditions: none. -/
import Derived.Test.YtibahgondccdiaaMfRD
import Derived.Test.YtibahgondccdiaaMfS
import Derived.Test.YtibahgondccdiaaMfO
namespace Go.Proofs.Ytibahgondccdiaa.PAll
open Go.RowKit Go.Proofs.Ytibahgondccdiaa.Oct Go.Proofs.Ytibahgondccdiaa.HX Go.Proofs.YtibahgondccdiaaW.PrintWords Go.Proofs.YtibahgondccdiaaW.PrintLast Go.Proofs.YtibahgondccdiaaW.PrintMore
attribute [local go_sem] max2_int min2_int max_two min_two max_three min_three max_four min_four   -- for this text's walks alone
set_option linter.unusedVariables false
set_option linter.unusedSimpArgs false
def cartagelaw16_ManifestReads_h.T5 : Bool × List (List Nat × List Nat) := (true, [([], []), ([0], [0]), ([1], [1]), ([2, 1, 1], [1, 2]), ([1], [1]), ([3, 4, 1], [1, 3, 4]), ([1, 5], [1, 5]), ([6, 3], [6]), ([7], [7]), ([7], [7]), ([8, 9, 7], [7, 8, 9]), ([7, 10], [7, 10]), ([11, 7, 0, 1, 2, 3, 4, 5, 6, 7, 8, 9, 10, 11], [11])])
def cartagelaw16_ManifestReads_h.B5 : List Nat := [0, 1, 3, 7, 3, 31, 63, 127, 255, 255, 1023, 2047, 4095]
theorem cartagelaw16_ManifestReads_h.tab5 : rtab .any (opsOf Try.f4 5) = cartagelaw16_ManifestReads_h.T5 := by kernel_rfl
theorem cartagelaw16_ManifestReads_h.bits5 : waitsOk cartagelaw16_ManifestReads_h.T5.2 cartagelaw16_ManifestReads_h.B5 = true := by kernel_rfl

set_option maxHeartbeats 8000000 in
set_option maxRecDepth 100000 in
theorem cartagelaw16_ManifestReads.calls (A0 : Option Addr) (c0 : Nat) (l0 : List Int) (w : World) (hr0 : Kd.C (Kd.int .u8) w A0 l0.length l0) (hc0 : l0.length ≤ c0) (hb0 : Bytes l0) :
    Calls Try.prog 4 #[.slice A0 l0.length c0] w fun e w' => e = .returned (.bool true) ∧ Below w.heap.size w w' := by
  obtain ⟨bb, ht, hmin, hcut, hC, hle, hlm⟩ := cut_min 29 5 Try.underlying29 u8info5 hr0 hc0 200
  have hbt : Bytes bb := ht ▸ hb0.take 200
  have hm0 := hr0.2.1
  rw [show ((200 : Nat) : Int) = 200 from rfl] at hmin
  have HB := Aside0.mk hC
  have LB := Aside0.mk hle
  have YB := Aside0.mk hbt
  clear ht hb0 hr0 hc0 hC hle hbt
  have MD := Aside0.mk (fun w h => mdecode_w (w := w) (A := A0) (c := c0) (l := bb) h LB.out YB.out (by omega))
  have RD := Aside0.mk (fun w h => rdecode_w (w := w) (A := A0) (c := c0) (l := bb) h LB.out YB.out (by omega))
  go_enter Try.func4, Try.ntmps4
  go_wp2_with fail
  refine (shown_true _).mono ?_
  rintro e w1 ⟨rfl, hb1⟩
  have C1 := Aside0.mk (Kd.C_below HB.out hb1)
  have B1 := Aside0.mk hb1
  clear hb1 HB
  go_wp2_with fail
  clear hcut hmin
  refine (MD.out _ C1.out).mono ?_
  rintro e w2 ⟨rfl, hb2⟩
  generalize mdec bb = q at *
  generalize mderr bb = r at *
  have B2 := Aside0.mk ((below_step B1.out hb2).alloc (below_size (below_step B1.out hb2)) (.cells #[.int .u64 q.s, .int .i64 q.n, .int .i64 q.h, .int .i64 q.t, .int .i64 q.k, .int .u32 q.p] 27))
  have M2 := Aside0.mk (blk_new w2 (.cells #[.int .u64 q.s, .int .i64 q.n, .int .i64 q.h, .int .i64 q.t, .int .i64 q.k, .int .u32 q.p] 27))
  have C2 := Aside0.mk (Kd.C_alloc (Kd.C_below C1.out hb2) (.cells #[.int .u64 q.s, .int .i64 q.n, .int .i64 q.h, .int .i64 q.t, .int .i64 q.k, .int .u32 q.p] 27))
  clear hb2 B1 C1 MD
  go_wp2_with fail
  generalize w2.alloc (.cells #[.int .u64 q.s, .int .i64 q.n, .int .i64 q.h, .int .i64 q.t, .int .i64 q.k, .int .u32 q.p] 27) = u2 at *
  generalize w2.heap.size = g2 at *
  refine (RD.out _ C2.out).mono ?_
  rintro e w3 ⟨rfl, hb3⟩
  have B3 := Aside0.mk ((below_step B2.out hb3).alloc (below_size (below_step B2.out hb3)) (.cells #[.int .u64 q.s, .int .i64 q.n, .int .i64 q.h, .int .i64 q.t, .int .i64 q.k, .int .u32 q.p] 34))
  have MA := Aside0.mk (blk_alloc (blk_below M2.out hb3) (.cells #[.int .u64 q.s, .int .i64 q.n, .int .i64 q.h, .int .i64 q.t, .int .i64 q.k, .int .u32 q.p] 34))
  have MB := Aside0.mk (blk_new w3 (.cells #[.int .u64 q.s, .int .i64 q.n, .int .i64 q.h, .int .i64 q.t, .int .i64 q.k, .int .u32 q.p] 34))
  clear hb3 B2 C2 M2 RD
  go_wp2_with fail
  generalize w3.alloc (.cells #[.int .u64 q.s, .int .i64 q.n, .int .i64 q.h, .int .i64 q.t, .int .i64 q.k, .int .u32 q.p] 34) = u3 at *
  generalize w3.heap.size = g3 at *
  refine start_ (n := 13) (S := fun w' => Below u3.heap.size u3 w') (ds := []) #[false, false, false, false, false, false, false, false, false, false, false, false, false] (by kernel_rfl) rfl rfl (below_drew (Below.refl _ _)) (fun hHeld => ?_); refine with_tabW cartagelaw16_ManifestReads_h.tab5 cartagelaw16_ManifestReads_h.bits5 (fun HT_ HW_ => ?_)
  refine pure_ (i := 0) (N := some 24) (v := ?_) (a' := ?_) #[true, false, false, false, false, false, false, false, false, false, false, false, false] rfl rfl (any_of HT_.out (by kernel_rfl)) (fun _ _ _ h => h) (Or.inl ⟨by rfl, ?_⟩) ?_ ?_
  rotate_left
  · intro w'
    go_simp
    with_reducible rfl
  rotate_left
  · simp only [Act.put, List.setIfInBounds_toArray, List.set_cons_zero, List.set_cons_succ, i64_w, i32_w]
    rfl
  refine pure_ (i := 1) (N := some 25) (v := ?_) (a' := ?_) #[true, true, false, false, false, false, false, false, false, false, false, false, false] rfl rfl (any_of HT_.out (by kernel_rfl)) (fun _ _ _ h => h) (Or.inl ⟨by rfl, ?_⟩) ?_ ?_
  rotate_left
  · intro w'
    go_simp
    with_reducible rfl
  rotate_left
  · simp only [Act.put, List.setIfInBounds_toArray, List.set_cons_zero, List.set_cons_succ, i64_w, i32_w]
    rfl
  refine take_ (i := 2) (N := some 26) (v := ?_) (a' := ?_) #[true, true, true, false, false, false, false, false, false, false, false, false, false] rfl rfl (take_ofW HT_.out HW_.out (by kernel_rfl)) (fun _ _ _ h => h) (Or.inl ⟨by rfl, ?_⟩) hHeld ?_ ?_
  rotate_left
  · rintro w' s0
    obtain ⟨h0, h1, h2, h3, h4, h5⟩ := six_cells (blk_below MA.out s0)
    obtain ⟨k0, k1, k2, k3, k4, k5⟩ := six_cells (blk_below MB.out s0)
    go_simp
    (try with_reducible rfl)
  rotate_left
  · simp only [Act.put, List.setIfInBounds_toArray, List.set_cons_zero, List.set_cons_succ, i64_w, i32_w]
    rfl
  refine take_ (i := 4) (N := some 28) (v := ?_) (a' := ?_) #[true, true, true, false, true, false, false, false, false, false, false, false, false] rfl rfl (take_ofW HT_.out HW_.out (by kernel_rfl)) (fun _ _ _ h => h) (Or.inl ⟨by rfl, ?_⟩) hHeld ?_ ?_
  rotate_left
  · rintro w' s0
    obtain ⟨h0, h1, h2, h3, h4, h5⟩ := six_cells (blk_below MA.out s0)
    obtain ⟨k0, k1, k2, k3, k4, k5⟩ := six_cells (blk_below MB.out s0)
    go_simp
    (try with_reducible rfl)
  rotate_left
  · simp only [Act.put, List.setIfInBounds_toArray, List.set_cons_zero, List.set_cons_succ, i64_w, i32_w]
    rfl
  refine one_ (i := 3) (N := some 27) #[true, true, true, true, true, false, false, false, false, false, false, false, false] rfl rfl (one_of HT_.out (by kernel_rfl)) (by decide) (fun K hK => ?_)
  refine goes_ Try.func12 (by kernel_rfl) rfl #[.agg #[.int .u64 q.s, .int .i64 q.n, .int .i64 q.h, .int .i64 q.t, .int .i64 q.k, .int .u32 q.p]] (by rfl) rfl rfl (by (try simp only [List.map_toArray, List.map_cons, List.map_nil]); rfl) ?_
  refine (cartagelaw16_ref.calls _ _ _ _ _ _ _ _ _ _ _ _ _ rfl).mono ?_
  rintro e w7 ⟨rfl, hb7⟩
  have B7 := Aside0.mk (below_step hHeld hb7)
  clear hb7 hHeld
  refine ⟨_, rfl, ?_⟩
  refine hK.out _ _ B7.out (fun hHeld => ?_)
  clear hK K
  refine norm_ (a' := ?_) ?_ ?_
  rotate_left
  · show Act.put _ (some 27) _ = _
    simp only [Act.put, List.setIfInBounds_toArray, List.set_cons_zero, List.set_cons_succ, i64_w, i32_w]
    rfl
  refine pure_ (i := 5) (N := some 29) (v := ?_) (a' := ?_) #[true, true, true, true, true, true, false, false, false, false, false, false, false] rfl rfl (any_of HT_.out (by kernel_rfl)) (fun _ _ _ h => h) (Or.inl ⟨by rfl, ?_⟩) ?_ ?_
  rotate_left
  · intro w'
    go_simp
    with_reducible rfl
  rotate_left
  · simp only [Act.put, List.setIfInBounds_toArray, List.set_cons_zero, List.set_cons_succ, i64_w, i32_w]
    rfl
  refine pure_ (i := 6) (N := some 30) (v := ?_) (a' := ?_) #[true, true, true, true, true, true, true, false, false, false, false, false, false] rfl rfl (any_of HT_.out (by kernel_rfl)) (fun _ _ _ h => h) (Or.inl ⟨by rfl, ?_⟩) ?_ ?_
  rotate_left
  · intro w'
    go_simp
    with_reducible rfl
  rotate_left
  · simp only [Act.put, List.setIfInBounds_toArray, List.set_cons_zero, List.set_cons_succ, i64_w, i32_w]
    rfl
  refine pure_ (i := 7) (N := some 31) (v := ?_) (a' := ?_) #[true, true, true, true, true, true, true, true, false, false, false, false, false] rfl rfl (any_of HT_.out (by kernel_rfl)) (fun _ _ _ h => h) (Or.inl ⟨by rfl, ?_⟩) ?_ ?_
  rotate_left
  · intro w'
    go_simp
    with_reducible rfl
  rotate_left
  · simp only [Act.put, List.setIfInBounds_toArray, List.set_cons_zero, List.set_cons_succ, i64_w, i32_w]
    rfl
  refine pure_ (i := 8) (N := some 32) (v := ?_) (a' := ?_) #[true, true, true, true, true, true, true, true, true, false, false, false, false] rfl rfl (any_of HT_.out (by kernel_rfl)) (fun _ _ _ h => h) (Or.inl ⟨by rfl, ?_⟩) ?_ ?_
  rotate_left
  · intro w'
    go_simp
    with_reducible rfl
  rotate_left
  · simp only [Act.put, List.setIfInBounds_toArray, List.set_cons_zero, List.set_cons_succ, i64_w, i32_w]
    rfl
  refine pure_ (i := 9) (N := some 33) (v := ?_) (a' := ?_) #[true, true, true, true, true, true, true, true, true, true, false, false, false] rfl rfl (any_of HT_.out (by kernel_rfl)) (fun _ _ _ h => h) (Or.inl ⟨by rfl, ?_⟩) ?_ ?_
  rotate_left
  · intro w'
    go_simp
    with_reducible rfl
  rotate_left
  · simp only [Act.put, List.setIfInBounds_toArray, List.set_cons_zero, List.set_cons_succ, i64_w, i32_w]
    rfl
  refine pure_ (i := 10) (N := some 34) (v := ?_) (a' := ?_) #[true, true, true, true, true, true, true, true, true, true, true, false, false] rfl rfl (any_of HT_.out (by kernel_rfl)) (fun _ _ _ h => h) (Or.inl ⟨by rfl, ?_⟩) ?_ ?_
  rotate_left
  · intro w'
    go_simp
    with_reducible rfl
  rotate_left
  · simp only [Act.put, List.setIfInBounds_toArray, List.set_cons_zero, List.set_cons_succ, i64_w, i32_w]
    rfl
  refine pure_ (i := 11) (N := some 35) (v := ?_) (a' := ?_) #[true, true, true, true, true, true, true, true, true, true, true, true, false] rfl rfl (any_of HT_.out (by kernel_rfl)) (fun _ _ _ h => h) (Or.inl ⟨by rfl, ?_⟩) ?_ ?_
  rotate_left
  · intro w'
    go_simp
    with_reducible rfl
  rotate_left
  · simp only [Act.put, List.setIfInBounds_toArray, List.set_cons_zero, List.set_cons_succ, i64_w, i32_w]
    rfl
  refine pure_ (i := 12) (N := some 2) (v := ?_) (a' := ?_) #[true, true, true, true, true, true, true, true, true, true, true, true, true] rfl rfl (any_of HT_.out (by kernel_rfl)) (fun _ _ _ h => h) (Or.inl ⟨by rfl, ?_⟩) ?_ ?_
  rotate_left
  · intro w'
    go_simp
    with_reducible rfl
  rotate_left
  · simp only [Act.put, List.setIfInBounds_toArray, List.set_cons_zero, List.set_cons_succ, i64_w, i32_w]
    rfl
  refine done_ (done_of HT_.out (by kernel_rfl)) ?_
  go_wp2
  go_ret
  exact ⟨rfl, B3.out.trans (B7.out.mono (below_size B3.out))⟩
theorem cartagelaw16_ManifestReads.walk (a0 : Option Addr) (len0 cap0 : Nat) (z0 : List Int) (w : World) (w0 : (a0 = none ∧ len0 = 0 ∧ cap0 = 0 ∧ z0 = []) ∨ ∃ x, a0 = some x ∧ len0 ≤ cap0 ∧ cap0 ≤ maxLen ∧ z0.length = cap0 ∧ (∀ i, i < z0.length → w.cell? (x.add i) = some (.int .u8 (z0.getD i 0))) ∧ ∀ n ∈ z0, (Lit.int .u8 n).wf = true) (y0 : len0 * 1 ≤ 140737488351232) :
    Calls Try.prog 4 #[.slice a0 len0 cap0] w fun e w' => e = .returned (.bool true) ∧ Below w.heap.size w w' := by
  obtain ⟨l0, rfl, hr0, hm0, hw0, hc0⟩ := ReadsInt.ofRowC w0
  exact cartagelaw16_ManifestReads.calls _ _ l0 w (Kd.C_of_reads (d := (0 : Int)) (h1 := fun _ => rfl) hr0) hc0 (bytes_of_wf hw0)
end Go.Proofs.Ytibahgondccdiaa.PAll
