/- StateBack's walk: what was told is read as it was. Conditions: numbers of sixty-four bits. -/
import Derived.Test.YtaohmpblmlkioaaStL
namespace Go.Proofs.Ytaohmpblmlkioaa.PAll
open Go.RowKit Go.Proofs.Ytaohmpblmlkioaa.Oct Go.Proofs.Ytaohmpblmlkioaa.HX Go.Proofs.YtaohmpblmlkioaaW.PrintWords Go.Proofs.YtaohmpblmlkioaaW.PrintLast Go.Proofs.YtaohmpblmlkioaaW.PrintMore
attribute [local go_sem] max2_int min2_int max_two min_two max_three min_three max_four min_four   -- for this text's walks alone
set_option linter.unusedVariables false
set_option linter.unusedSimpArgs false
def cfcut5.T4 : Bool × List (List Nat × List Nat) := (true, [([], []), ([0], [0]), ([], []), ([1, 2], [1, 2]), ([], []), ([4], [4]), ([], []), ([5, 6], [5, 6]), ([3, 7], [3, 7]), ([8, 0, 1, 2, 3, 4, 5, 6, 7, 8], [8])])
def cfcut5.B4 : List Nat := [0, 1, 0, 7, 0, 16, 0, 112, 255, 511]
theorem cfcut5.tab4 : rtab .any (opsOf Try.f5 4) = cfcut5.T4 := by kernel_rfl
theorem cfcut5.bits4 : waitsOk cfcut5.T4.2 cfcut5.B4 = true := by kernel_rfl
set_option maxHeartbeats 8000000 in
set_option maxRecDepth 100000 in
theorem cartagelaw15_StateBack.walk (step : Int) (A0 : Option Addr) (c0 : Nat) (v0 : List Int) (A1 : Option Addr) (c1 : Nat) (l0 : List Bool) (w : World) (hst : (Lit.int .i64 step).wf = true) (hcf : IsCf w A0 c0 v0 A1 c1 l0) :
    Calls Try.prog 5 #[.int .i64 step, .agg #[.slice A0 v0.length c0, .slice A1 l0.length c1]] w fun e w' => e = .returned (.bool true) ∧ Below w.heap.size w w' := by
  clear hst
  have CF := Aside0.mk hcf
  have hu25 := Try.underlying25
  clear hcf
  go_enter Try.func5, Try.ntmps5
  go_wp2_with ((with_reducible refine gate_dst (N := 3) rfl ?_); refine box_event ?hg (N := 3) ?hd (cs := #[.slice A0 v0.length c0, .slice A1 l0.length c1]) (t := 25) ?hr ?_; (case hd => rfl); (case hg => rfl); (case hr => first | (go_simp; done) | (go_simp; rfl)); intro g hg w0 hbox hb; have B0 := Aside0.mk hb; have BK := Aside0.mk hbox; have GE := Aside0.mk (show w.heap.size ≤ g from by rw [hg]; exact Nat.le_refl _); clear hb hbox hg)
  refine (shown_w _).mono ?_
  rintro e w1 ⟨rfl, hb1⟩
  have B1 := Aside0.mk (below_step B0.out hb1)
  have BK1 := Aside0.mk (blk_below BK.out hb1)
  obtain ⟨h0, h1⟩ := two_cells BK1.out
  clear hb1 B0 BK
  go_wp2_with fail
  refine (few_w (Kd.C_below CF.out.1 B1.out) CF.out.2.1 (Kd.C_below CF.out.2.2.2.1 B1.out) CF.out.2.2.2.2).mono ?_
  rintro e w2 ⟨A2, c2, A3, c3, rfl, ho0, ho1, hb2⟩
  have B2 := Aside0.mk (below_step B1.out hb2)
  have BK2 := Aside0.mk (blk_below BK1.out hb2)
  have hlv : (v0.take 250).length ≤ 250 := by rw [List.length_take]; omega
  have hll : (l0.take 250).length ≤ 250 := by rw [List.length_take]; omega
  have VI := Aside0.mk (show ∀ n ∈ v0.take 250, 0 ≤ n ∧ n < 18446744073709551616 from fun n hn => CF.out.2.2.1 n (List.mem_of_mem_take hn))
  have R0 := Aside0.mk (Kd.R_lower ho0 (below_size B1.out))
  have R1 := Aside0.mk (Kd.R_lower ho1 (below_size B1.out))
  clear h0 h1 hb2 B1 BK1 CF ho0 ho1
  generalize v0.take 250 = vs at *
  generalize l0.take 250 = ls at *
  have B3 := Aside0.mk (two_below B2.out GE.out (.slice A2 vs.length c2) (.slice A3 ls.length c3))
  have BK3 := Aside0.mk (two_put BK2.out (.slice A2 vs.length c2) (.slice A3 ls.length c3))
  have R03 := Aside0.mk (two_R (u0 := .slice A2 vs.length c2) (u1 := .slice A3 ls.length c3) BK2.out (by decide) rfl R0.out)
  have R13 := Aside0.mk (two_R (u0 := .slice A2 vs.length c2) (u1 := .slice A3 ls.length c3) BK2.out (by decide) rfl R1.out)
  obtain ⟨f0, f1⟩ := two_free BK2.out
  obtain ⟨h0, h1⟩ := two_cells BK2.out
  obtain ⟨n, hn⟩ : ∃ n, n = min vs.length ls.length := ⟨_, rfl⟩
  have hmin : (if (ls.length : Int) < (vs.length : Int) then (ls.length : Int) else (vs.length : Int)) = (n : Int) := by split <;> omega
  have hmin2 : (if ls.length < vs.length then (ls.length : Int) else (vs.length : Int)) = (n : Int) := by split <;> omega
  have NN := Aside0.mk hn
  clear hn
  go_wp2_with fail
  generalize (w2.setCell ⟨g, 0, none⟩ (.slice A2 vs.length c2)).setCell ⟨g, 1, none⟩ (.slice A3 ls.length c3) = w3 at *
  clear B2 BK2 R0 R1 h0 h1 f0 f1
  have hn1 : n ≤ vs.length := by have := NN.out; omega
  have hn2 : n ≤ ls.length := by have := NN.out; omega
  obtain ⟨vn, hvn, hvl, hcut1, _, hcl1⟩ := cut_at (P := Try.prog) 22 39 Try.underlying22 info39 (R_C R03.out).2.2 (R_C R03.out).2.1 (n : Int) (by omega) (by omega)
  obtain ⟨ln, hln, hll2, hcut2, _, hcl2⟩ := cut_at (P := Try.prog) 23 4 Try.underlying23 info4 (R_C R13.out).2.2 (R_C R13.out).2.1 (n : Int) (by omega) (by omega)
  rw [Int.toNat_natCast] at hvn hln
  have S0 := Aside0.mk (show Kd.R (Kd.int .u64) 39 w3 w.heap.size (fun _ => True) (.slice A2 vn.length c2) vn from by have := Kd.R_take R03.out hn1; rw [← hvn] at this; rwa [show n = vn.length by omega] at this)
  have S1 := Aside0.mk (show Kd.R Kd.bool 4 w3 w.heap.size (fun _ => True) (.slice A3 ln.length c3) ln from by have := Kd.R_take R13.out hn2; rw [← hln] at this; rwa [show n = ln.length by omega] at this)
  have LN := Aside0.mk (show vn.length = n ∧ ln.length = n ∧ n ≤ 250 from ⟨by omega, by omega, by omega⟩)
  have VN := Aside0.mk (show ∀ x ∈ vn, 0 ≤ x ∧ x < 18446744073709551616 from fun x hx => VI.out x (by rw [hvn] at hx; exact List.mem_of_mem_take hx))
  clear hvn hln hvl hll2 hcl1 hcl2 hn1 hn2 VI R03 R13
  refine start_ (n := 10) (S := fun w' => Below w3.heap.size w3 w') (ds := [9]) #[false, false, false, false, false, false, false, false, false, false] (by kernel_rfl) rfl rfl (below_drew (Below.refl _ _)) (fun hHeld => ?_); refine with_tabW cfcut5.tab4 cfcut5.bits4 (fun HT_ HW_ => ?_)
  refine pure_ (i := 0) (N := some 22) (v := ?_) (a' := ?_) #[true, false, false, false, false, false, false, false, false, false] rfl rfl (any_of HT_.out (by kernel_rfl)) (fun _ _ _ h => h) (Or.inl ⟨by rfl, ?_⟩) ?_ ?_
  rotate_left
  · intro w'
    go_simp
    with_reducible rfl
  rotate_left
  · simp only [Act.put, List.setIfInBounds_toArray, List.set_cons_zero, List.set_cons_succ, i64_w, i32_w]
    rfl
  refine take_ (i := 1) (N := some 23) (v := ?_) (a' := ?_) #[true, true, false, false, false, false, false, false, false, false] rfl rfl (take_ofW HT_.out HW_.out (by kernel_rfl)) (fun _ _ _ h => h) (Or.inl ⟨by rfl, ?_⟩) hHeld ?_ ?_
  rotate_left
  · rintro w' s0
    have ⟨b0, b1⟩ := two_cells (blk_below BK3.out s0)
    go_simp
    (try with_reducible rfl)
  rotate_left
  · simp only [Act.put, List.setIfInBounds_toArray, List.set_cons_zero, List.set_cons_succ, i64_w, i32_w]
    rfl
  refine pure_ (i := 2) (N := some 24) (v := ?_) (a' := ?_) #[true, true, true, false, false, false, false, false, false, false] rfl rfl (any_of HT_.out (by kernel_rfl)) (fun _ _ _ h => h) (Or.inl ⟨by rfl, ?_⟩) ?_ ?_
  rotate_left
  · intro w'
    go_simp
    with_reducible rfl
  rotate_left
  · simp only [Act.put, List.setIfInBounds_toArray, List.set_cons_zero, List.set_cons_succ, i64_w, i32_w]
    rfl
  refine pure_ (i := 3) (N := some 25) (v := ?_) (a' := ?_) #[true, true, true, true, false, false, false, false, false, false] rfl rfl (any_of HT_.out (by kernel_rfl)) (fun _ _ _ h => h) (Or.inl ⟨by rfl, ?_⟩) ?_ ?_
  rotate_left
  · intro w'
    go_simp
    with_reducible rfl
  rotate_left
  · simp only [Act.put, List.setIfInBounds_toArray, List.set_cons_zero, List.set_cons_succ, i64_w, i32_w]
    rfl
  refine pure_ (i := 4) (N := some 26) (v := ?_) (a' := ?_) #[true, true, true, true, true, false, false, false, false, false] rfl rfl (any_of HT_.out (by kernel_rfl)) (fun _ _ _ h => h) (Or.inl ⟨by rfl, ?_⟩) ?_ ?_
  rotate_left
  · intro w'
    go_simp
    with_reducible rfl
  rotate_left
  · simp only [Act.put, List.setIfInBounds_toArray, List.set_cons_zero, List.set_cons_succ, i64_w, i32_w]
    rfl
  refine take_ (i := 5) (N := some 27) (v := ?_) (a' := ?_) #[true, true, true, true, true, true, false, false, false, false] rfl rfl (take_ofW HT_.out HW_.out (by kernel_rfl)) (fun _ _ _ h => h) (Or.inl ⟨by rfl, ?_⟩) hHeld ?_ ?_
  rotate_left
  · rintro w' s0
    have ⟨b0, b1⟩ := two_cells (blk_below BK3.out s0)
    go_simp
    (try with_reducible rfl)
  rotate_left
  · simp only [Act.put, List.setIfInBounds_toArray, List.set_cons_zero, List.set_cons_succ, i64_w, i32_w]
    rfl
  refine pure_ (i := 6) (N := some 28) (v := ?_) (a' := ?_) #[true, true, true, true, true, true, true, false, false, false] rfl rfl (any_of HT_.out (by kernel_rfl)) (fun _ _ _ h => h) (Or.inl ⟨by rfl, ?_⟩) ?_ ?_
  rotate_left
  · intro w'
    go_simp
    with_reducible rfl
  rotate_left
  · simp only [Act.put, List.setIfInBounds_toArray, List.set_cons_zero, List.set_cons_succ, i64_w, i32_w]
    rfl
  refine pure_ (i := 7) (N := some 29) (v := ?_) (a' := ?_) #[true, true, true, true, true, true, true, true, false, false] rfl rfl (any_of HT_.out (by kernel_rfl)) (fun _ _ _ h => h) (Or.inl ⟨by rfl, ?_⟩) ?_ ?_
  rotate_left
  · intro w'
    go_simp
    with_reducible rfl
  rotate_left
  · simp only [Act.put, List.setIfInBounds_toArray, List.set_cons_zero, List.set_cons_succ, i64_w, i32_w]
    rfl
  refine pure_ (i := 8) (N := some 30) (v := ?_) (a' := ?_) #[true, true, true, true, true, true, true, true, true, false] rfl rfl (any_of HT_.out (by kernel_rfl)) (fun _ _ _ h => h) (Or.inl ⟨by rfl, ?_⟩) ?_ ?_
  rotate_left
  · intro w'
    go_simp
    with_reducible rfl
  rotate_left
  · simp only [Act.put, List.setIfInBounds_toArray, List.set_cons_zero, List.set_cons_succ, i64_w, i32_w]
    rfl
  have ⟨b0, b1⟩ := two_cells BK3.out
  have ⟨g0, g1⟩ := two_free BK3.out
  refine last_ (i := 9) (N := none) #[true, true, true, true, true, true, true, true, true, true] rfl rfl (one_of HT_.out (by kernel_rfl)) (by decide) (fun K hK => ?_)
  refine skip_ (w1 := (w3.drew.setCell ⟨g, 0, none⟩ (.slice A2 vn.length c2)).setCell ⟨g, 1, none⟩ (.slice A3 ln.length c3)) (by rfl) rfl ?_ ?_
  · go_simp
    done
  refine hK.out _ _ ?_
  clear hK K b0 b1 g0 g1
  refine done_ (done_of HT_.out (by kernel_rfl)) ?_
  have B4 := Aside0.mk (two_below (pw_below_drewN B3.out 1) GE.out (.slice A2 vn.length c2) (.slice A3 ln.length c3))
  have BK4 := Aside0.mk (two_put (blk_drewN BK3.out 1) (.slice A2 vn.length c2) (.slice A3 ln.length c3))
  have R04 := Aside0.mk (two_R (u0 := .slice A2 vn.length c2) (u1 := .slice A3 ln.length c3) (blk_drewN BK3.out 1) (by decide) rfl (Kd.R_drewN S0.out 1))
  have R14 := Aside0.mk (two_R (u0 := .slice A2 vn.length c2) (u1 := .slice A3 ln.length c3) (blk_drewN BK3.out 1) (by decide) rfl (Kd.R_drewN S1.out 1))
  rw [World.drew_is_drewN]
  generalize (((w3.drewN 1).setCell ⟨g, 0, none⟩ (.slice A2 vn.length c2)).setCell ⟨g, 1, none⟩ (.slice A3 ln.length c3)) = w4 at *
  clear HT_ HW_ hHeld B3 BK3 S0 S1 hcut1 hcut2
  obtain ⟨x, hx, hx0, hx1⟩ : ∃ x, bits .and .i64 step 4611686018427387903 = x ∧ 0 ≤ x ∧ x ≤ 4611686018427387903 := by
    have := and_i64 step 4611686018427387903 (by decide)
    exact ⟨_, rfl, this.1, this.2⟩
  obtain ⟨h0, h1⟩ := two_cells BK4.out
  go_wp2_with fail
  have Y0 := R_C R04.out
  have Y1 := R_C R14.out
  have hzv : ∀ y ∈ vn.zip ln, 0 ≤ y.1 ∧ y.1 < 18446744073709551616 := fun y hy => VN.out _ (List.of_mem_zip (show (y.1, y.2) ∈ vn.zip ln from hy)).1
  have hzl : (vn.zip ln).length ≤ 1000 := by rw [List.length_zip]; have := LN.out; omega
  have hze1 : (vn.zip ln).map Prod.fst = vn := List.map_fst_zip (by have := LN.out; omega)
  have hze2 : (vn.zip ln).map Prod.snd = ln := List.map_snd_zip (by have := LN.out; omega)
  have hde := (sdec_enc hzv hzl hx0 (by omega : x ≤ 9223372036854775807)).2
  rw [hze1, hze2] at hde
  have hle := LN.out
  have hse : serr x vn ln = 0 := if_pos ⟨hx0, by omega⟩
  have hlen := senc_length (x := x) (vs := vn) (ls := ln) hx0 (by omega)
  have SB := Aside0.mk (senc_bytes x vn ln)
  refine (sencode_w Y0.2.2 Y0.2.1 Y1.2.2 Y1.2.1 (by omega) x).mono ?_
  rw [hse]
  generalize senc x vn ln = b at *
  rintro e w5 ⟨A5, c5, rfl, h51, h52, hb5⟩
  have B5 := Aside0.mk (below_step B4.out hb5)
  have BK5 := Aside0.mk (blk_below BK4.out hb5)
  have X5 := Aside0.mk (And.intro (Kd.C_below Y0.2.2 hb5) (Kd.C_below Y1.2.2 hb5))
  have LX := Aside0.mk (And.intro Y0.2.1 Y1.2.1)
  have C5 := Aside0.mk (And.intro h51 h52)
  have DE := Aside0.mk (And.intro hde (And.intro hze1 hze2))
  have HL := Aside0.mk hlen
  have LE := Aside0.mk hle
  clear h0 h1 h51 h52 hb5 B4 BK4 R04 R14 Y0 Y1 hde hze1 hze2 hzl hzv hlen hle hse VN
  go_wp2_with fail
  refine (sdecode_w C5.out.2 C5.out.1 SB.out (by have := HL.out; have := LE.out; omega)).mono ?_
  rw [DE.out.1]
  rintro e w6 ⟨A6, c6, A7, c7, rfl, h61, h62, h71, h72, hb6⟩
  dsimp only at h61 h62 h71 h72 ⊢
  rw [DE.out.2.1] at h61 h62 ⊢
  rw [DE.out.2.2] at h71 h72 ⊢
  have B6 := Aside0.mk (below_step B5.out hb6)
  have BK6 := Aside0.mk (blk_below BK5.out hb6)
  have X6 := Aside0.mk (And.intro (Kd.C_below X5.out.1 hb6) (Kd.C_below X5.out.2 hb6))
  have Z6 := Aside0.mk (And.intro h62 h72)
  have LZ := Aside0.mk (And.intro h61 h71)
  have hbA := below_alloc (Below.refl w6.heap.size w6) (.cells #[.slice A6 vn.length c6, .slice A7 ln.length c7] 25)
  obtain ⟨k0, k1⟩ := two_cells (blk_below BK6.out hbA)
  clear h61 h62 h71 h72 hb6 B5 BK5 X5 DE C5 hbA
  go_wp2_with fail
  have hbA := below_alloc (Below.refl w6.heap.size w6) (.cells #[.slice A6 vn.length c6, .slice A7 ln.length c7] 25)
  refine (same_w (Kd.C_below X6.out.1 hbA) LX.out.1 (Kd.C_below X6.out.2 hbA) LX.out.2 (Kd.C_below Z6.out.1 hbA) LZ.out.1 (Kd.C_below Z6.out.2 hbA) LZ.out.2 (by have := LE.out; omega) (by have := LE.out; omega)).mono ?_
  rintro e w7 ⟨rfl, hb7⟩
  have B7 := Aside0.mk (below_step (below_step B6.out hbA) hb7)
  clear hbA hb7 k0 k1 X6 Z6 LZ LX B6 BK6
  obtain ⟨q, hq⟩ : ∃ q : Nat, q = (n + 99) / 100 := ⟨_, rfl⟩
  have hle := LE.out
  have hbl : (b.length : Int) = 22 + 9 * (n : Int) + 6 * (q : Int) := by have := HL.out; rw [hle.1, ← hq] at this; omega
  have a1 : IntKind.i64.wrap (9 * (n : Int)) = 9 * (n : Int) := IntWalk.i64_in _ (by omega)
  have a2 : IntKind.i64.wrap (22 + 9 * (n : Int)) = 22 + 9 * (n : Int) := IntWalk.i64_in _ (by omega)
  have a3 : IntKind.i64.wrap ((n : Int) + 99) = (n : Int) + 99 := IntWalk.i64_in _ (by omega)
  have a4 : Int.tdiv ((n : Int) + 99) 100 = (q : Int) := by rw [Int.tdiv_eq_ediv_of_nonneg (by omega)]; omega
  have a5 : IntKind.i64.wrap (q : Int) = (q : Int) := IntWalk.i64_in _ (by omega)
  have a6 : IntKind.i64.wrap (6 * (q : Int)) = 6 * (q : Int) := IntWalk.i64_in _ (by omega)
  have a7 : IntKind.i64.wrap (22 + 9 * (n : Int) + 6 * (q : Int)) = 22 + 9 * (n : Int) + 6 * (q : Int) := IntWalk.i64_in _ (by omega)
  have a8 : ((b.length : Int) == 22 + 9 * (n : Int) + 6 * (q : Int)) = true := beq_iff_eq.mpr hbl
  clear hbl hle hq NN
  go_wp2
  go_ret
  exact ⟨rfl, B7.out⟩
end Go.Proofs.Ytaohmpblmlkioaa.PAll
