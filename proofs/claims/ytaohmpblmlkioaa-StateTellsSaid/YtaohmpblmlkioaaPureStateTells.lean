/- StateTells' walk: configs are bytes as the document says. Conditions: numbers of sixty-four bits. -/
import Derived.Test.YtaohmpblmlkioaaStL
namespace Go.Proofs.Ytaohmpblmlkioaa.PAll
open Go.RowKit Go.Proofs.Ytaohmpblmlkioaa.Oct Go.Proofs.Ytaohmpblmlkioaa.HX Go.Proofs.YtaohmpblmlkioaaW.PrintWords Go.Proofs.YtaohmpblmlkioaaW.PrintLast Go.Proofs.YtaohmpblmlkioaaW.PrintMore
attribute [local go_sem] max2_int min2_int max_two min_two max_three min_three max_four min_four   -- for this text's walks alone
set_option linter.unusedVariables false
set_option linter.unusedSimpArgs false
def cartagelaw15_StateTells_h.T10 : Bool × List (List Nat × List Nat) := (true, [([], []), ([0], [0]), ([1], [1]), ([2, 1], [1, 2]), ([1, 3], [1, 3]), ([4, 1], [4]), ([5], [5]), ([6, 5], [5, 6]), ([5], [5]), ([5], [5]), ([8, 9, 5, 5], [5, 8, 9]), ([10, 5], [5, 10]), ([7, 11, 5], [5, 7, 11]), ([5, 12], [5, 12]), ([13, 10, 0, 1, 2, 3, 4, 5, 6, 7, 8, 9, 10, 11, 12, 13], [13])])
def cartagelaw15_StateTells_h.B10 : List Nat := [0, 1, 3, 7, 15, 31, 63, 127, 63, 63, 831, 1855, 4095, 8191, 16383]
theorem cartagelaw15_StateTells_h.tab10 : rtab .any (opsOf Try.f3 10) = cartagelaw15_StateTells_h.T10 := by kernel_rfl
theorem cartagelaw15_StateTells_h.bits10 : waitsOk cartagelaw15_StateTells_h.T10.2 cartagelaw15_StateTells_h.B10 = true := by kernel_rfl

set_option maxHeartbeats 8000000 in
set_option maxRecDepth 100000 in
theorem cartagelaw15_StateTells.walk (step : Int) (A0 : Option Addr) (c0 : Nat) (v0 : List Int) (A1 : Option Addr) (c1 : Nat) (l0 : List Bool) (w : World) (hst : (Lit.int .i64 step).wf = true) (hcf : IsCf w A0 c0 v0 A1 c1 l0) :
    Calls Try.prog 3 #[.int .i64 step, .agg #[.slice A0 v0.length c0, .slice A1 l0.length c1]] w fun e w' => e = .returned (.bool true) ∧ Below w.heap.size w w' := by
  have CF := Aside0.mk hcf
  have hu25 := Try.underlying25
  clear hst hcf
  go_enter Try.func3, Try.ntmps3
  go_wp2_with ((with_reducible refine gate_dst (N := 3) rfl ?_); refine box_event ?hg (N := 3) ?hd (cs := #[.slice A0 v0.length c0, .slice A1 l0.length c1]) (t := 25) ?hr ?_; (case hd => rfl); (case hg => rfl); (case hr => first | (go_simp; done) | (go_simp; rfl)); intro g hg w0 hbox hb; have B0 := Aside0.mk hb; have BK := Aside0.mk hbox; have GE := Aside0.mk (show w.heap.size ≤ g from by rw [hg]; exact Nat.le_refl _); clear hb hbox hg)
  refine (shown_w _).mono ?_
  rintro e w1 ⟨rfl, hb1⟩
  have B1 := Aside0.mk (below_step B0.out hb1)
  have BK1 := Aside0.mk (blk_below BK.out hb1)
  obtain ⟨h0, h1⟩ := two_cells BK1.out
  clear hb1 B0 BK
  go_wp2_with fail
  refine (few_w (Kd.C_below CF.out.1 B1.out) CF.out.2.1 (Kd.C_below CF.out.2.2.2.1 B1.out) CF.out.2.2.2.2).mono ?_
  rintro e w2 ⟨A2, c2, A3, c3, rfl, ho0, ho1, hb2⟩
  have B2 := Aside0.mk (below_step B1.out hb2)
  have BK2 := Aside0.mk (blk_below BK1.out hb2)
  have hlv : (v0.take 250).length ≤ 250 := by rw [List.length_take]; omega
  have hll : (l0.take 250).length ≤ 250 := by rw [List.length_take]; omega
  have htv : (v0.take 250).take 250 = v0.take 250 := by rw [List.take_take]; rfl
  have htl : (l0.take 250).take 250 = l0.take 250 := by rw [List.take_take]; rfl
  have R0 := Aside0.mk ho0
  have R1 := Aside0.mk ho1
  have TT := Aside0.mk (And.intro htv htl)
  clear h0 h1 hb2 B1 BK1 CF ho0 ho1 htv htl
  generalize v0.take 250 = vs at *
  generalize l0.take 250 = ls at *
  obtain ⟨h0, h1⟩ := two_cells BK2.out
  obtain ⟨f0, f1⟩ := two_free BK2.out
  go_wp2_with fail
  have B3 := Aside0.mk (two_below B2.out GE.out (.slice A2 vs.length c2) (.slice A3 ls.length c3))
  have BK3 := Aside0.mk (two_put BK2.out (.slice A2 vs.length c2) (.slice A3 ls.length c3))
  have R03 := Aside0.mk (two_R (u0 := .slice A2 vs.length c2) (u1 := .slice A3 ls.length c3) BK2.out (by decide) rfl R0.out)
  have R13 := Aside0.mk (two_R (u0 := .slice A2 vs.length c2) (u1 := .slice A3 ls.length c3) BK2.out (by decide) rfl R1.out)
  generalize (w2.setCell ⟨g, 0, none⟩ (.slice A2 vs.length c2)).setCell ⟨g, 1, none⟩ (.slice A3 ls.length c3) = w3 at *
  clear B2 BK2 R0 R1 h0 h1 f0 f1
  have y0 := R_C R03.out
  have y1 := R_C R13.out
  refine (few_w y0.2.2 y0.2.1 y1.2.2 y1.2.1).mono ?_
  rw [TT.out.1, TT.out.2]
  rintro e w4 ⟨A6, c6, A7, c7, rfl, ho6, ho7, hb4⟩
  have B4 := Aside0.mk (below_step B3.out hb4)
  have BK4 := Aside0.mk (blk_below BK3.out hb4)
  have X0 := Aside0.mk (And.intro (Kd.C_below y0.2.2 hb4) (Kd.C_below y1.2.2 hb4))
  have L2 := Aside0.mk (And.intro (R_C R03.out).2.1 (R_C R13.out).2.1)
  have X6 := Aside0.mk (And.intro (R_C ho6).2.2 (R_C ho7).2.2)
  have L6 := Aside0.mk (And.intro (R_C ho6).2.1 (R_C ho7).2.1)
  obtain ⟨h0, h1⟩ := two_cells (blk_alloc BK4.out (.cells #[.slice A6 vs.length c6, .slice A7 ls.length c7] 25))
  clear hb4 B3 BK3 R03 R13 y0 y1 ho6 ho7 TT
  go_wp2_with fail
  have hbA := below_alloc (Below.refl w4.heap.size w4) (.cells #[.slice A6 vs.length c6, .slice A7 ls.length c7] 25)
  have B5 := Aside0.mk (below_step B4.out hbA)
  have BK5 := Aside0.mk (blk_below BK4.out hbA)
  have BN5 := Aside0.mk (blk_new w4 (.cells #[.slice A6 vs.length c6, .slice A7 ls.length c7] 25))
  have X05 := Aside0.mk (And.intro (Kd.C_below X0.out.1 hbA) (Kd.C_below X0.out.2 hbA))
  have X65 := Aside0.mk (And.intro (Kd.C_below X6.out.1 hbA) (Kd.C_below X6.out.2 hbA))
  generalize w4.heap.size = g6 at *
  generalize w4.alloc (.cells #[.slice A6 vs.length c6, .slice A7 ls.length c7] 25) = w5 at *
  clear hbA B4 BK4 X0 X6 h0 h1
  refine (sencode_w X05.out.1 L2.out.1 X05.out.2 L2.out.2 (by omega) step).mono ?_
  have SEC := Aside0.mk (fun h : SRight step vs ls => And.intro (show senc step vs ls = encs (stexts step vs ls) from if_pos h) (show serr step vs ls = 0 from if_pos h))
  have SNC := Aside0.mk (fun h : ¬ SRight step vs ls => And.intro (show senc step vs ls = [] from if_neg h) (show serr step vs ls = 1 from if_neg h))
  generalize senc step vs ls = sn at *
  generalize serr step vs ls = se at *
  rintro e w6 ⟨A5, c5, rfl, h51, h52, hb6⟩
  have B6 := Aside0.mk (below_step B5.out hb6)
  have BK6 := Aside0.mk (blk_below BK5.out hb6)
  have BN6 := Aside0.mk (blk_below BN5.out hb6)
  have X06 := Aside0.mk (And.intro (Kd.C_below X05.out.1 hb6) (Kd.C_below X05.out.2 hb6))
  have X66 := Aside0.mk (And.intro (Kd.C_below X65.out.1 hb6) (Kd.C_below X65.out.2 hb6))
  have C6 := Aside0.mk (And.intro h51 h52)
  obtain ⟨h0, h1⟩ := two_cells BK6.out
  clear h51 h52 hb6 B5 BK5 BN5 X05 X65
  go_wp2_with fail
  refine (right_w X06.out.1 L2.out.1 X06.out.2 L2.out.2 (by omega) step).mono ?_
  rintro e w7 ⟨rfl, hb7⟩
  have B7 := Aside0.mk (below_step B6.out hb7)
  have BK7 := Aside0.mk (blk_below BK6.out hb7)
  have BN7 := Aside0.mk (blk_below BN6.out hb7)
  have X7 := Aside0.mk (And.intro (Kd.C_below X06.out.1 hb7) (Kd.C_below X06.out.2 hb7))
  have X67 := Aside0.mk (And.intro (Kd.C_below X66.out.1 hb7) (Kd.C_below X66.out.2 hb7))
  have C7 := Aside0.mk (And.intro C6.out.1 (Kd.C_below C6.out.2 hb7))
  clear h0 h1 hb7 B6 BK6 BN6 X06 X66 C6
  obtain ⟨h0, h1⟩ := two_cells BK7.out
  obtain ⟨h2, h3⟩ := two_cells BN7.out
  generalize hrt : decide (SRight step vs ls) = rt at *
  have HRT := Aside0.mk hrt
  clear hrt
  go_wp2_with fail
  refine (same_w X7.out.1 L2.out.1 X7.out.2 L2.out.2 X67.out.1 L6.out.1 X67.out.2 L6.out.2 (by omega) (by omega)).mono ?_
  rintro e w8 ⟨rfl, hb8⟩
  have B8 := Aside0.mk (below_step B7.out hb8)
  have BK8 := Aside0.mk (blk_below BK7.out hb8)
  have X8 := Aside0.mk (And.intro (Kd.C_below X7.out.1 hb8) (Kd.C_below X7.out.2 hb8))
  have C8 := Aside0.mk (And.intro C7.out.1 (Kd.C_below C7.out.2 hb8))
  clear h0 h1 h2 h3 hb8 B7 BK7 BN7 X7 X67 C7 L6
  cases rt with
  | false =>
    have hno := of_decide_eq_false HRT.out
    obtain ⟨e1, e2⟩ := SNC.out hno
    subst e1 e2
    go_wp2
    go_ret
    exact ⟨rfl, B8.out⟩
  | true =>
    have hok := of_decide_eq_true HRT.out
    obtain ⟨e1, e2⟩ := SEC.out hok
    subst e2
    have HSE := Aside0.mk e1
    clear e1 SEC SNC
    go_wp2_with fail
    refine start_ (n := 15) (S := fun w' => Below w8.heap.size w8 w') (ds := []) #[false, false, false, false, false, false, false, false, false, false, false, false, false, false, false] (by kernel_rfl) rfl rfl (below_drew (Below.refl _ _)) (fun hHeld => ?_); refine with_tabW cartagelaw15_StateTells_h.tab10 cartagelaw15_StateTells_h.bits10 (fun HT_ HW_ => ?_)
    refine pure_ (i := 0) (N := some 40) (v := ?_) (a' := ?_) #[true, false, false, false, false, false, false, false, false, false, false, false, false, false, false] rfl rfl (any_of HT_.out (by kernel_rfl)) (fun _ _ _ h => h) (Or.inl ⟨by rfl, ?_⟩) ?_ ?_
    rotate_left
    · intro w'
      go_simp
      with_reducible rfl
    rotate_left
    · simp only [Act.put, List.setIfInBounds_toArray, List.set_cons_zero, List.set_cons_succ, i64_w, i32_w]
      rfl
    refine pure_ (i := 1) (N := some 41) (v := ?_) (a' := ?_) #[true, true, false, false, false, false, false, false, false, false, false, false, false, false, false] rfl rfl (any_of HT_.out (by kernel_rfl)) (fun _ _ _ h => h) (Or.inl ⟨by rfl, ?_⟩) ?_ ?_
    rotate_left
    · intro w'
      go_simp
      with_reducible rfl
    rotate_left
    · simp only [Act.put, List.setIfInBounds_toArray, List.set_cons_zero, List.set_cons_succ, i64_w, i32_w]
      rfl
    refine pure_ (i := 2) (N := some 42) (v := ?_) (a' := ?_) #[true, true, true, false, false, false, false, false, false, false, false, false, false, false, false] rfl rfl (any_of HT_.out (by kernel_rfl)) (fun _ _ _ h => h) (Or.inl ⟨by rfl, ?_⟩) ?_ ?_
    rotate_left
    · intro w'
      go_simp
      with_reducible rfl
    rotate_left
    · simp only [Act.put, List.setIfInBounds_toArray, List.set_cons_zero, List.set_cons_succ, i64_w, i32_w]
      rfl
    refine pure_ (i := 3) (N := some 43) (v := ?_) (a' := ?_) #[true, true, true, true, false, false, false, false, false, false, false, false, false, false, false] rfl rfl (any_of HT_.out (by kernel_rfl)) (fun _ _ _ h => h) (Or.inl ⟨by rfl, ?_⟩) ?_ ?_
    rotate_left
    · intro w'
      go_simp
      with_reducible rfl
    rotate_left
    · simp only [Act.put, List.setIfInBounds_toArray, List.set_cons_zero, List.set_cons_succ, i64_w, i32_w]
      rfl
    refine pure_ (i := 4) (N := some 44) (v := ?_) (a' := ?_) #[true, true, true, true, true, false, false, false, false, false, false, false, false, false, false] rfl rfl (any_of HT_.out (by kernel_rfl)) (fun _ _ _ h => h) (Or.inl ⟨by rfl, ?_⟩) ?_ ?_
    rotate_left
    · intro w'
      go_simp
      with_reducible rfl
    rotate_left
    · simp only [Act.put, List.setIfInBounds_toArray, List.set_cons_zero, List.set_cons_succ, i64_w, i32_w]
      rfl
    refine pure_ (i := 5) (N := some 45) (v := ?_) (a' := ?_) #[true, true, true, true, true, true, false, false, false, false, false, false, false, false, false] rfl rfl (any_of HT_.out (by kernel_rfl)) (fun _ _ _ h => h) (Or.inl ⟨by rfl, ?_⟩) ?_ ?_
    rotate_left
    · intro w'
      go_simp
      with_reducible rfl
    rotate_left
    · simp only [Act.put, List.setIfInBounds_toArray, List.set_cons_zero, List.set_cons_succ, i64_w, i32_w]
      rfl
    refine pure_ (i := 6) (N := some 46) (v := ?_) (a' := ?_) #[true, true, true, true, true, true, true, false, false, false, false, false, false, false, false] rfl rfl (any_of HT_.out (by kernel_rfl)) (fun _ _ _ h => h) (Or.inl ⟨by rfl, ?_⟩) ?_ ?_
    rotate_left
    · intro w'
      go_simp
      with_reducible rfl
    rotate_left
    · simp only [Act.put, List.setIfInBounds_toArray, List.set_cons_zero, List.set_cons_succ, i64_w, i32_w]
      rfl
    refine take_ (i := 7) (N := some 47) (v := ?_) (a' := ?_) #[true, true, true, true, true, true, true, true, false, false, false, false, false, false, false] rfl rfl (take_ofW HT_.out HW_.out (by kernel_rfl)) (fun _ _ _ h => h) (Or.inl ⟨by rfl, ?_⟩) hHeld ?_ ?_
    rotate_left
    · rintro w' s0
      have ⟨b0, b1⟩ := two_cells (blk_below BK8.out s0)
      have hcv := Kd.C_string (P := Try.prog) (A := A5) (c := c5) Try.underlying28 Try.underlying5 Try.underlying9 (Kd.C_below C8.out.2 s0)
      go_simp
      (try with_reducible rfl)
    rotate_left
    · simp only [Act.put, List.setIfInBounds_toArray, List.set_cons_zero, List.set_cons_succ, i64_w, i32_w]
      rfl
    refine pure_ (i := 8) (N := some 48) (v := ?_) (a' := ?_) #[true, true, true, true, true, true, true, true, true, false, false, false, false, false, false] rfl rfl (any_of HT_.out (by kernel_rfl)) (fun _ _ _ h => h) (Or.inl ⟨by rfl, ?_⟩) ?_ ?_
    rotate_left
    · intro w'
      go_simp
      with_reducible rfl
    rotate_left
    · simp only [Act.put, List.setIfInBounds_toArray, List.set_cons_zero, List.set_cons_succ, i64_w, i32_w]
      rfl
    refine take_ (i := 9) (N := some 49) (v := ?_) (a' := ?_) #[true, true, true, true, true, true, true, true, true, true, false, false, false, false, false] rfl rfl (take_ofW HT_.out HW_.out (by kernel_rfl)) (fun _ _ _ h => h) (Or.inl ⟨by rfl, ?_⟩) hHeld ?_ ?_
    rotate_left
    · rintro w' s0
      have ⟨b0, b1⟩ := two_cells (blk_below BK8.out s0)
      have hcv := Kd.C_string (P := Try.prog) (A := A5) (c := c5) Try.underlying28 Try.underlying5 Try.underlying9 (Kd.C_below C8.out.2 s0)
      go_simp
      (try with_reducible rfl)
    rotate_left
    · simp only [Act.put, List.setIfInBounds_toArray, List.set_cons_zero, List.set_cons_succ, i64_w, i32_w]
      rfl
    refine one_ (i := 10) (N := some 50) #[true, true, true, true, true, true, true, true, true, true, true, false, false, false, false] rfl rfl (one_of HT_.out (by kernel_rfl)) (by decide) (fun K hK => ?_)
    refine goes_ Try.func14 (by kernel_rfl) rfl #[.int .i64 step, .agg #[.slice A2 vs.length c2, .slice A3 ls.length c3]] (by rfl) rfl rfl (by (try simp only [List.map_toArray, List.map_cons, List.map_nil]); rfl) ?_
    refine (rencode_w (Kd.C_below X8.out.1 hHeld) L2.out.1 (Kd.C_below X8.out.2 hHeld) L2.out.2 hok.2 (by omega) step).mono ?_
    rw [← HSE.out]
    rintro e w9 ⟨A9, c9, rfl, h91, h92, hb9⟩
    have B9 := Aside0.mk (below_step hHeld hb9)
    have hcv9 := Kd.C_string (P := Try.prog) (A := A9) (c := c9) Try.underlying28 Try.underlying5 Try.underlying9 h92
    clear hb9 h91 h92 hHeld
    refine ⟨_, rfl, ?_⟩
    refine hK.out _ _ B9.out (fun hHeld => ?_)
    clear hK K
    refine norm_ (a' := ?_) ?_ ?_
    rotate_left
    · show Act.put _ (some 50) _ = _
      simp only [Act.put, List.setIfInBounds_toArray, List.set_cons_zero, List.set_cons_succ, i64_w, i32_w]
      rfl
    refine one_ (i := 11) (N := some 51) #[true, true, true, true, true, true, true, true, true, true, true, true, false, false, false] rfl rfl (one_of HT_.out (by kernel_rfl)) (by decide) (fun K hK => ?_)
    refine value_ (w1 := ?_) (v := ?_) (by rfl) rfl ?_ ?_
    rotate_left 2
    · go_simp
      constructor
      · rfl
      · rfl
    refine hK.out _ _ hHeld (fun hHeld => ?_)
    clear hK K
    refine norm_ (a' := ?_) ?_ ?_
    rotate_left
    · show Act.put _ (some 51) _ = _
      simp only [Act.put, List.setIfInBounds_toArray, List.set_cons_zero, List.set_cons_succ, i64_w, i32_w]
      rfl
    refine pure_ (i := 12) (N := some 52) (v := ?_) (a' := ?_) #[true, true, true, true, true, true, true, true, true, true, true, true, true, false, false] rfl rfl (any_of HT_.out (by kernel_rfl)) (fun _ _ _ h => h) (Or.inl ⟨by rfl, ?_⟩) ?_ ?_
    rotate_left
    · intro w'
      go_simp
      with_reducible rfl
    rotate_left
    · simp only [Act.put, List.setIfInBounds_toArray, List.set_cons_zero, List.set_cons_succ, i64_w, i32_w]
      rfl
    refine pure_ (i := 13) (N := some 53) (v := ?_) (a' := ?_) #[true, true, true, true, true, true, true, true, true, true, true, true, true, true, false] rfl rfl (any_of HT_.out (by kernel_rfl)) (fun _ _ _ h => h) (Or.inl ⟨by rfl, ?_⟩) ?_ ?_
    rotate_left
    · intro w'
      go_simp
      with_reducible rfl
    rotate_left
    · simp only [Act.put, List.setIfInBounds_toArray, List.set_cons_zero, List.set_cons_succ, i64_w, i32_w]
      rfl
    refine pure_ (i := 14) (N := some 4) (v := ?_) (a' := ?_) #[true, true, true, true, true, true, true, true, true, true, true, true, true, true, true] rfl rfl (any_of HT_.out (by kernel_rfl)) (fun _ _ _ h => h) (Or.inl ⟨by rfl, ?_⟩) ?_ ?_
    rotate_left
    · intro w'
      go_simp
      with_reducible rfl
    rotate_left
    · simp only [Act.put, List.setIfInBounds_toArray, List.set_cons_zero, List.set_cons_succ, i64_w, i32_w]
      rfl
    refine done_ (done_of HT_.out (by kernel_rfl)) ?_
    go_wp2
    go_ret
    exact ⟨rfl, below_step B8.out hHeld⟩
end Go.Proofs.Ytaohmpblmlkioaa.PAll
