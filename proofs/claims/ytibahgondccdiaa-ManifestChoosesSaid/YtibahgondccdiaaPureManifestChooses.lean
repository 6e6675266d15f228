/- ManifestChooses: of two the newer one is chosen, as the document says. Conditions: none. -/
import Derived.Test.YtibahgondccdiaaMfRC
import Derived.Test.YtibahgondccdiaaMfS
import Derived.Test.YtibahgondccdiaaMfO
namespace Go.Proofs.Ytibahgondccdiaa.PAll
open Go.RowKit Go.Proofs.Ytibahgondccdiaa.Oct Go.Proofs.Ytibahgondccdiaa.HX Go.Proofs.YtibahgondccdiaaW.PrintWords Go.Proofs.YtibahgondccdiaaW.PrintLast Go.Proofs.YtibahgondccdiaaW.PrintMore
attribute [local go_sem] max2_int min2_int max_two min_two max_three min_three max_four min_four   -- for this text's walks alone
set_option linter.unusedVariables false
set_option linter.unusedSimpArgs false
def cartagelaw16_ManifestChooses_h.T6 : Bool × List (List Nat × List Nat) := (true, [([], []), ([0], [0]), ([1], [1]), ([2, 1, 1], [1, 2]), ([1], [1]), ([3, 4, 1], [1, 3, 4]), ([1, 5], [1, 5]), ([6, 3], [6]), ([7], [7]), ([7], [7]), ([8, 9, 7], [7, 8, 9]), ([7, 10], [7, 10]), ([11, 7], [11]), ([12], [12]), ([12], [12]), ([13, 14, 12], [12, 13, 14]), ([12, 15], [12, 15]), ([16, 12, 0, 1, 2, 3, 4, 5, 6, 7, 8, 9, 10, 11, 12, 13, 14, 15, 16], [16])])
def cartagelaw16_ManifestChooses_h.B6 : List Nat := [0, 1, 3, 7, 3, 31, 63, 127, 255, 255, 1023, 2047, 4095, 8191, 8191, 32767, 65535, 131071]
theorem cartagelaw16_ManifestChooses_h.tab6 : rtab .any (opsOf Try.f5 6) = cartagelaw16_ManifestChooses_h.T6 := by kernel_rfl
theorem cartagelaw16_ManifestChooses_h.bits6 : waitsOk cartagelaw16_ManifestChooses_h.T6.2 cartagelaw16_ManifestChooses_h.B6 = true := by kernel_rfl

set_option maxHeartbeats 8000000 in
set_option maxRecDepth 100000 in
theorem cartagelaw16_ManifestChooses.calls (A0 : Option Addr) (c0 : Nat) (l0 : List Int) (A1 : Option Addr) (c1 : Nat) (l1 : List Int) (w : World) (hr0 : Kd.C (Kd.int .u8) w A0 l0.length l0) (hc0 : l0.length ≤ c0) (hb0 : Bytes l0) (hr1 : Kd.C (Kd.int .u8) w A1 l1.length l1) (hc1 : l1.length ≤ c1) (hb1 : Bytes l1) :
    Calls Try.prog 5 #[.slice A0 l0.length c0, .slice A1 l1.length c1] w fun e w' => e = .returned (.bool true) ∧ Below w.heap.size w w' := by
  obtain ⟨aa, ha, hmin, hcut, hC, hle, hlm⟩ := cut_min 29 5 Try.underlying29 u8info5 hr0 hc0 200
  have hbt : Bytes aa := ha ▸ hb0.take 200
  have hm0 := hr0.2.1
  obtain ⟨bb, hb, hmin', hcut', hC', hle', hlm'⟩ := cut_min 29 5 Try.underlying29 u8info5 hr1 hc1 200
  have hbt' : Bytes bb := hb ▸ hb1.take 200
  have hm1 := hr1.2.1
  rw [show ((200 : Nat) : Int) = 200 from rfl] at hmin hmin'
  have HA := Aside0.mk hC
  have HB := Aside0.mk hC'
  have X1 := Aside0.mk (fun w h h' => mchoose_w (w := w) (A0 := A0) (c0 := c0) (a := aa) (A1 := A1) (c1 := c1) (b := bb) h hle hbt (by omega) h' hle' hbt' (by omega))
  have X2 := Aside0.mk (fun w h h' => rchoose_w (w := w) (A0 := A0) (c0 := c0) (a := aa) (A1 := A1) (c1 := c1) (b := bb) h hle hbt (by omega) h' hle' hbt' (by omega))
  clear ha hb hb0 hr0 hc0 hC hle hbt hb1 hr1 hc1 hC' hle' hbt'
  go_enter Try.func5, Try.ntmps5
  go_wp2_with fail
  refine (shown_true _).mono ?_
  rintro e w1 ⟨rfl, hb1⟩
  have C1 := Aside0.mk (Kd.C_below HA.out hb1)
  have D1 := Aside0.mk (Kd.C_below HB.out hb1)
  have B1 := Aside0.mk hb1
  clear hb1 HB HA
  go_wp2_with fail
  clear hcut hmin hcut' hmin'
  refine (X1.out _ C1.out D1.out).mono ?_
  rintro e w2 ⟨rfl, hb2⟩
  generalize chAt aa bb 2 = v at *
  obtain ⟨q, vw, vb⟩ := v
  simp only at X2 ⊢
  have B2 := Aside0.mk ((below_step B1.out hb2).alloc (below_size (below_step B1.out hb2)) (.cells #[.int .u64 q.s, .int .i64 q.n, .int .i64 q.h, .int .i64 q.t, .int .i64 q.k, .int .u32 q.p] 27))
  have M2 := Aside0.mk (blk_new w2 (.cells #[.int .u64 q.s, .int .i64 q.n, .int .i64 q.h, .int .i64 q.t, .int .i64 q.k, .int .u32 q.p] 27))
  have C2 := Aside0.mk (Kd.C_alloc (Kd.C_below C1.out hb2) (.cells #[.int .u64 q.s, .int .i64 q.n, .int .i64 q.h, .int .i64 q.t, .int .i64 q.k, .int .u32 q.p] 27))
  have D2 := Aside0.mk (Kd.C_alloc (Kd.C_below D1.out hb2) (.cells #[.int .u64 q.s, .int .i64 q.n, .int .i64 q.h, .int .i64 q.t, .int .i64 q.k, .int .u32 q.p] 27))
  clear hb2 B1 C1 D1 X1
  go_wp2_with fail
  generalize w2.alloc (.cells #[.int .u64 q.s, .int .i64 q.n, .int .i64 q.h, .int .i64 q.t, .int .i64 q.k, .int .u32 q.p] 27) = u2 at *
  generalize w2.heap.size = g2 at *
  refine (X2.out _ C2.out D2.out).mono ?_
  rintro e w3 ⟨rfl, hb3⟩
  have B3 := Aside0.mk ((below_step B2.out hb3).alloc (below_size (below_step B2.out hb3)) (.cells #[.int .u64 q.s, .int .i64 q.n, .int .i64 q.h, .int .i64 q.t, .int .i64 q.k, .int .u32 q.p] 34))
  have MA := Aside0.mk (blk_alloc (blk_below M2.out hb3) (.cells #[.int .u64 q.s, .int .i64 q.n, .int .i64 q.h, .int .i64 q.t, .int .i64 q.k, .int .u32 q.p] 34))
  have MB := Aside0.mk (blk_new w3 (.cells #[.int .u64 q.s, .int .i64 q.n, .int .i64 q.h, .int .i64 q.t, .int .i64 q.k, .int .u32 q.p] 34))
  clear hb3 B2 C2 D2 M2 X2
  go_wp2_with fail
  generalize w3.alloc (.cells #[.int .u64 q.s, .int .i64 q.n, .int .i64 q.h, .int .i64 q.t, .int .i64 q.k, .int .u32 q.p] 34) = u3 at *
  generalize w3.heap.size = g3 at *
  refine start_ (n := 18) (S := fun w' => Below u3.heap.size u3 w') (ds := []) #[false, false, false, false, false, false, false, false, false, false, false, false, false, false, false, false, false, false] (by kernel_rfl) rfl rfl (below_drew (Below.refl _ _)) (fun hHeld => ?_); refine with_tabW cartagelaw16_ManifestChooses_h.tab6 cartagelaw16_ManifestChooses_h.bits6 (fun HT_ HW_ => ?_)
  refine pure_ (i := 0) (N := some 37) (v := ?_) (a' := ?_) #[true, false, false, false, false, false, false, false, false, false, false, false, false, false, false, false, false, false] rfl rfl (any_of HT_.out (by kernel_rfl)) (fun _ _ _ h => h) (Or.inl ⟨by rfl, ?_⟩) ?_ ?_
  rotate_left
  · intro w'
    go_simp
    with_reducible rfl
  rotate_left
  · simp only [Act.put, List.setIfInBounds_toArray, List.set_cons_zero, List.set_cons_succ, i64_w, i32_w]
    rfl
  refine pure_ (i := 1) (N := some 38) (v := ?_) (a' := ?_) #[true, true, false, false, false, false, false, false, false, false, false, false, false, false, false, false, false, false] rfl rfl (any_of HT_.out (by kernel_rfl)) (fun _ _ _ h => h) (Or.inl ⟨by rfl, ?_⟩) ?_ ?_
  rotate_left
  · intro w'
    go_simp
    with_reducible rfl
  rotate_left
  · simp only [Act.put, List.setIfInBounds_toArray, List.set_cons_zero, List.set_cons_succ, i64_w, i32_w]
    rfl
  refine take_ (i := 2) (N := some 39) (v := ?_) (a' := ?_) #[true, true, true, false, false, false, false, false, false, false, false, false, false, false, false, false, false, false] rfl rfl (take_ofW HT_.out HW_.out (by kernel_rfl)) (fun _ _ _ h => h) (Or.inl ⟨by rfl, ?_⟩) hHeld ?_ ?_
  rotate_left
  · rintro w' s0
    obtain ⟨h0, h1, h2, h3, h4, h5⟩ := six_cells (blk_below MA.out s0)
    obtain ⟨k0, k1, k2, k3, k4, k5⟩ := six_cells (blk_below MB.out s0)
    go_simp
    (try with_reducible rfl)
  rotate_left
  · simp only [Act.put, List.setIfInBounds_toArray, List.set_cons_zero, List.set_cons_succ, i64_w, i32_w]
    rfl
  refine take_ (i := 4) (N := some 41) (v := ?_) (a' := ?_) #[true, true, true, false, true, false, false, false, false, false, false, false, false, false, false, false, false, false] rfl rfl (take_ofW HT_.out HW_.out (by kernel_rfl)) (fun _ _ _ h => h) (Or.inl ⟨by rfl, ?_⟩) hHeld ?_ ?_
  rotate_left
  · rintro w' s0
    obtain ⟨h0, h1, h2, h3, h4, h5⟩ := six_cells (blk_below MA.out s0)
    obtain ⟨k0, k1, k2, k3, k4, k5⟩ := six_cells (blk_below MB.out s0)
    go_simp
    (try with_reducible rfl)
  rotate_left
  · simp only [Act.put, List.setIfInBounds_toArray, List.set_cons_zero, List.set_cons_succ, i64_w, i32_w]
    rfl
  refine one_ (i := 3) (N := some 40) #[true, true, true, true, true, false, false, false, false, false, false, false, false, false, false, false, false, false] rfl rfl (one_of HT_.out (by kernel_rfl)) (by decide) (fun K hK => ?_)
  refine goes_ Try.func12 (by kernel_rfl) rfl #[.agg #[.int .u64 q.s, .int .i64 q.n, .int .i64 q.h, .int .i64 q.t, .int .i64 q.k, .int .u32 q.p]] (by rfl) rfl rfl (by (try simp only [List.map_toArray, List.map_cons, List.map_nil]); rfl) ?_
  refine (cartagelaw16_ref.calls _ _ _ _ _ _ _ _ _ _ _ _ _ rfl).mono ?_
  rintro e w7 ⟨rfl, hb7⟩
  have B7 := Aside0.mk (below_step hHeld hb7)
  clear hb7 hHeld
  refine ⟨_, rfl, ?_⟩
  refine hK.out _ _ B7.out (fun hHeld => ?_)
  clear hK K
  refine norm_ (a' := ?_) ?_ ?_
  rotate_left
  · show Act.put _ (some 40) _ = _
    simp only [Act.put, List.setIfInBounds_toArray, List.set_cons_zero, List.set_cons_succ, i64_w, i32_w]
    rfl
  refine pure_ (i := 5) (N := some 42) (v := ?_) (a' := ?_) #[true, true, true, true, true, true, false, false, false, false, false, false, false, false, false, false, false, false] rfl rfl (any_of HT_.out (by kernel_rfl)) (fun _ _ _ h => h) (Or.inl ⟨by rfl, ?_⟩) ?_ ?_
  rotate_left
  · intro w'
    go_simp
    with_reducible rfl
  rotate_left
  · simp only [Act.put, List.setIfInBounds_toArray, List.set_cons_zero, List.set_cons_succ, i64_w, i32_w]
    rfl
  refine pure_ (i := 6) (N := some 43) (v := ?_) (a' := ?_) #[true, true, true, true, true, true, true, false, false, false, false, false, false, false, false, false, false, false] rfl rfl (any_of HT_.out (by kernel_rfl)) (fun _ _ _ h => h) (Or.inl ⟨by rfl, ?_⟩) ?_ ?_
  rotate_left
  · intro w'
    go_simp
    with_reducible rfl
  rotate_left
  · simp only [Act.put, List.setIfInBounds_toArray, List.set_cons_zero, List.set_cons_succ, i64_w, i32_w]
    rfl
  refine pure_ (i := 7) (N := some 44) (v := ?_) (a' := ?_) #[true, true, true, true, true, true, true, true, false, false, false, false, false, false, false, false, false, false] rfl rfl (any_of HT_.out (by kernel_rfl)) (fun _ _ _ h => h) (Or.inl ⟨by rfl, ?_⟩) ?_ ?_
  rotate_left
  · intro w'
    go_simp
    with_reducible rfl
  rotate_left
  · simp only [Act.put, List.setIfInBounds_toArray, List.set_cons_zero, List.set_cons_succ, i64_w, i32_w]
    rfl
  refine pure_ (i := 8) (N := some 45) (v := ?_) (a' := ?_) #[true, true, true, true, true, true, true, true, true, false, false, false, false, false, false, false, false, false] rfl rfl (any_of HT_.out (by kernel_rfl)) (fun _ _ _ h => h) (Or.inl ⟨by rfl, ?_⟩) ?_ ?_
  rotate_left
  · intro w'
    go_simp
    with_reducible rfl
  rotate_left
  · simp only [Act.put, List.setIfInBounds_toArray, List.set_cons_zero, List.set_cons_succ, i64_w, i32_w]
    rfl
  refine pure_ (i := 9) (N := some 46) (v := ?_) (a' := ?_) #[true, true, true, true, true, true, true, true, true, true, false, false, false, false, false, false, false, false] rfl rfl (any_of HT_.out (by kernel_rfl)) (fun _ _ _ h => h) (Or.inl ⟨by rfl, ?_⟩) ?_ ?_
  rotate_left
  · intro w'
    go_simp
    with_reducible rfl
  rotate_left
  · simp only [Act.put, List.setIfInBounds_toArray, List.set_cons_zero, List.set_cons_succ, i64_w, i32_w]
    rfl
  refine pure_ (i := 10) (N := some 47) (v := ?_) (a' := ?_) #[true, true, true, true, true, true, true, true, true, true, true, false, false, false, false, false, false, false] rfl rfl (any_of HT_.out (by kernel_rfl)) (fun _ _ _ h => h) (Or.inl ⟨by rfl, ?_⟩) ?_ ?_
  rotate_left
  · intro w'
    go_simp
    with_reducible rfl
  rotate_left
  · simp only [Act.put, List.setIfInBounds_toArray, List.set_cons_zero, List.set_cons_succ, i64_w, i32_w]
    rfl
  refine pure_ (i := 11) (N := some 48) (v := ?_) (a' := ?_) #[true, true, true, true, true, true, true, true, true, true, true, true, false, false, false, false, false, false] rfl rfl (any_of HT_.out (by kernel_rfl)) (fun _ _ _ h => h) (Or.inl ⟨by rfl, ?_⟩) ?_ ?_
  rotate_left
  · intro w'
    go_simp
    with_reducible rfl
  rotate_left
  · simp only [Act.put, List.setIfInBounds_toArray, List.set_cons_zero, List.set_cons_succ, i64_w, i32_w]
    rfl
  refine pure_ (i := 12) (N := some 49) (v := ?_) (a' := ?_) #[true, true, true, true, true, true, true, true, true, true, true, true, true, false, false, false, false, false] rfl rfl (any_of HT_.out (by kernel_rfl)) (fun _ _ _ h => h) (Or.inl ⟨by rfl, ?_⟩) ?_ ?_
  rotate_left
  · intro w'
    go_simp
    with_reducible rfl
  rotate_left
  · simp only [Act.put, List.setIfInBounds_toArray, List.set_cons_zero, List.set_cons_succ, i64_w, i32_w]
    rfl
  refine pure_ (i := 13) (N := some 50) (v := ?_) (a' := ?_) #[true, true, true, true, true, true, true, true, true, true, true, true, true, true, false, false, false, false] rfl rfl (any_of HT_.out (by kernel_rfl)) (fun _ _ _ h => h) (Or.inl ⟨by rfl, ?_⟩) ?_ ?_
  rotate_left
  · intro w'
    go_simp
    with_reducible rfl
  rotate_left
  · simp only [Act.put, List.setIfInBounds_toArray, List.set_cons_zero, List.set_cons_succ, i64_w, i32_w]
    rfl
  refine pure_ (i := 14) (N := some 51) (v := ?_) (a' := ?_) #[true, true, true, true, true, true, true, true, true, true, true, true, true, true, true, false, false, false] rfl rfl (any_of HT_.out (by kernel_rfl)) (fun _ _ _ h => h) (Or.inl ⟨by rfl, ?_⟩) ?_ ?_
  rotate_left
  · intro w'
    go_simp
    with_reducible rfl
  rotate_left
  · simp only [Act.put, List.setIfInBounds_toArray, List.set_cons_zero, List.set_cons_succ, i64_w, i32_w]
    rfl
  refine pure_ (i := 15) (N := some 52) (v := ?_) (a' := ?_) #[true, true, true, true, true, true, true, true, true, true, true, true, true, true, true, true, false, false] rfl rfl (any_of HT_.out (by kernel_rfl)) (fun _ _ _ h => h) (Or.inl ⟨by rfl, ?_⟩) ?_ ?_
  rotate_left
  · intro w'
    go_simp
    with_reducible rfl
  rotate_left
  · simp only [Act.put, List.setIfInBounds_toArray, List.set_cons_zero, List.set_cons_succ, i64_w, i32_w]
    rfl
  refine pure_ (i := 16) (N := some 53) (v := ?_) (a' := ?_) #[true, true, true, true, true, true, true, true, true, true, true, true, true, true, true, true, true, false] rfl rfl (any_of HT_.out (by kernel_rfl)) (fun _ _ _ h => h) (Or.inl ⟨by rfl, ?_⟩) ?_ ?_
  rotate_left
  · intro w'
    go_simp
    with_reducible rfl
  rotate_left
  · simp only [Act.put, List.setIfInBounds_toArray, List.set_cons_zero, List.set_cons_succ, i64_w, i32_w]
    rfl
  refine pure_ (i := 17) (N := some 4) (v := ?_) (a' := ?_) #[true, true, true, true, true, true, true, true, true, true, true, true, true, true, true, true, true, true] rfl rfl (any_of HT_.out (by kernel_rfl)) (fun _ _ _ h => h) (Or.inl ⟨by rfl, ?_⟩) ?_ ?_
  rotate_left
  · intro w'
    go_simp
    with_reducible rfl
  rotate_left
  · simp only [Act.put, List.setIfInBounds_toArray, List.set_cons_zero, List.set_cons_succ, i64_w, i32_w]
    rfl
  refine done_ (done_of HT_.out (by kernel_rfl)) ?_
  go_wp2
  go_ret
  exact ⟨rfl, B3.out.trans (B7.out.mono (below_size B3.out))⟩
theorem cartagelaw16_ManifestChooses.walk (a0 : Option Addr) (len0 cap0 : Nat) (z0 : List Int) (a1 : Option Addr) (len1 cap1 : Nat) (z1 : List Int) (w : World) (w0 : (a0 = none ∧ len0 = 0 ∧ cap0 = 0 ∧ z0 = []) ∨ ∃ x, a0 = some x ∧ len0 ≤ cap0 ∧ cap0 ≤ maxLen ∧ z0.length = cap0 ∧ (∀ i, i < z0.length → w.cell? (x.add i) = some (.int .u8 (z0.getD i 0))) ∧ ∀ n ∈ z0, (Lit.int .u8 n).wf = true) (y0 : len0 * 1 ≤ 140737488351232) (w1 : (a1 = none ∧ len1 = 0 ∧ cap1 = 0 ∧ z1 = []) ∨ ∃ x, a1 = some x ∧ len1 ≤ cap1 ∧ cap1 ≤ maxLen ∧ z1.length = cap1 ∧ (∀ i, i < z1.length → w.cell? (x.add i) = some (.int .u8 (z1.getD i 0))) ∧ ∀ n ∈ z1, (Lit.int .u8 n).wf = true) (y1 : len1 * 1 ≤ 140737488351232) :
    Calls Try.prog 5 #[.slice a0 len0 cap0, .slice a1 len1 cap1] w fun e w' => e = .returned (.bool true) ∧ Below w.heap.size w w' := by
  obtain ⟨l0, rfl, hr0, hm0, hw0, hc0⟩ := ReadsInt.ofRowC w0
  obtain ⟨l1, rfl, hr1, hm1, hw1, hc1⟩ := ReadsInt.ofRowC w1
  exact cartagelaw16_ManifestChooses.calls _ _ l0 _ _ l1 w (Kd.C_of_reads (d := (0 : Int)) (h1 := fun _ => rfl) hr0) hc0 (bytes_of_wf hw0) (Kd.C_of_reads (d := (0 : Int)) (h1 := fun _ => rfl) hr1) hc1 (bytes_of_wf hw1)
end Go.Proofs.Ytibahgondccdiaa.PAll
