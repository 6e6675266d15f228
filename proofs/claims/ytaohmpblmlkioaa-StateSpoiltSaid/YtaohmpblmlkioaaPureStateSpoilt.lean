/- StateSpoilt's walk: a byte of a block's sum that is another one is ErrSum; a block less is none. Conditions: numbers of their kinds. -/
import Derived.Test.YtaohmpblmlkioaaStP
namespace Go.Proofs.Ytaohmpblmlkioaa.PAll
open Go.RowKit Go.Proofs.Ytaohmpblmlkioaa.Oct Go.Proofs.Ytaohmpblmlkioaa.HX Go.Proofs.YtaohmpblmlkioaaW.PrintWords Go.Proofs.YtaohmpblmlkioaaW.PrintLast Go.Proofs.YtaohmpblmlkioaaW.PrintMore
attribute [local go_sem] max2_int min2_int max_two min_two max_three min_three max_four min_four   -- for this text's walks alone
set_option linter.unusedVariables false
set_option linter.unusedSimpArgs false
theorem sencode_r {A0 A1 : Option Addr} {c0 c1 : Nat} {vs : List Int} {ls : List Bool} {w : World} (h0 : Kd.C (Kd.int .u64) w A0 vs.length vs) (hc0 : vs.length ≤ c0) (h1 : Kd.C Kd.bool w A1 ls.length ls) (hc1 : ls.length ≤ c1) (hn : vs.length ≤ 1000) (step : Int) :
    Calls Try.prog 11 #[.int .i64 step, .agg #[.slice A0 vs.length c0, .slice A1 ls.length c1]] w fun e w' => ∃ A' c', e = .returned (.tuple #[.slice A' (senc step vs ls).length c', .int .i64 (serr step vs ls)]) ∧ Kd.R (Kd.int .u8) 5 w' w.heap.size (fun _ => True) (.slice A' (senc step vs ls).length c') (senc step vs ls) ∧ Below w.heap.size w w' := by
  refine (state_Encode.calls 50000 step A0 c0 vs A1 c1 ls _ _ w h0 hc0 h1 hc1 (sencode_is hn step 50000 (by omega))).mono ?_
  rintro e w3 ⟨v3, rfl, ho3, hb3⟩
  obtain ⟨A3, c3, rfl⟩ := Kd.R_slice ho3
  exact ⟨A3, c3, rfl, ho3, hb3⟩
/-- A row of another type, beside a byte that is written. -/
theorem put_R {α : Type} {d : Kd α} {e n1 n2 g i : Nat} {W : World} {v v' u : Value} {xs : List α} {ys : List Int} (hg : v'.ownBlock = some g) (h' : Kd.R (Kd.int .u8) 5 W n2 (fun _ => True) v' ys) (he : 5 ≠ e) (hE : d.E = []) (h : d.R e W n1 (fun _ => True) v xs) : d.R e (W.setCell ⟨g, i, none⟩ u) n1 (fun _ => True) v xs :=
  Kd.R_mono (Kd.R_far (Kd.R_far1 h hE (type_ne h' h he g hg)) (p := ⟨g, i, none⟩) (fun k hk => hk.2) u) (fun _ _ => trivial)
def cfcut6.T4 : Bool × List (List Nat × List Nat) := (true, [([], []), ([0], [0]), ([], []), ([1, 2], [1, 2]), ([], []), ([4], [4]), ([], []), ([5, 6], [5, 6]), ([3, 7], [3, 7]), ([8, 0, 1, 2, 3, 4, 5, 6, 7, 8], [8])])
def cfcut6.B4 : List Nat := [0, 1, 0, 7, 0, 16, 0, 112, 255, 511]
theorem cfcut6.tab4 : rtab .any (opsOf Try.f6 4) = cfcut6.T4 := by kernel_rfl
theorem cfcut6.bits4 : waitsOk cfcut6.T4.2 cfcut6.B4 = true := by kernel_rfl
set_option maxHeartbeats 8000000 in
set_option maxRecDepth 100000 in
theorem cartagelaw15_StateSpoilt.walk (A0 : Option Addr) (c0 : Nat) (v0 : List Int) (A1 : Option Addr) (c1 : Nat) (l0 : List Bool) (at_ by_ : Int) (w : World) (hcf : IsCf w A0 c0 v0 A1 c1 l0) (hat : (Lit.int .i64 at_).wf = true) (hby : (Lit.int .u8 by_).wf = true) :
    Calls Try.prog 6 #[.agg #[.slice A0 v0.length c0, .slice A1 l0.length c1], .int .i64 at_, .int .u8 by_] w fun e w' => e = .returned (.bool true) ∧ Below w.heap.size w w' := by
  have BY := Aside0.mk (bytes_of_wf (l := [by_]) (by simpa using hby) by_ (by simp))
  clear hat hby
  have CF := Aside0.mk hcf
  have hu25 := Try.underlying25
  clear hcf
  go_enter Try.func6, Try.ntmps6
  go_wp2_with ((with_reducible refine gate_dst (N := 3) rfl ?_); refine box_event ?hg (N := 3) ?hd (cs := #[.slice A0 v0.length c0, .slice A1 l0.length c1]) (t := 25) ?hr ?_; (case hd => rfl); (case hg => rfl); (case hr => first | (go_simp; done) | (go_simp; rfl)); intro g hg w0 hbox hb; have B0 := Aside0.mk hb; have BK := Aside0.mk hbox; have GE := Aside0.mk (show w.heap.size ≤ g from by rw [hg]; exact Nat.le_refl _); clear hb hbox hg)
  refine (shown_w _).mono ?_
  rintro e w1 ⟨rfl, hb1⟩
  have B1 := Aside0.mk (below_step B0.out hb1)
  have BK1 := Aside0.mk (blk_below BK.out hb1)
  obtain ⟨h0, h1⟩ := two_cells BK1.out
  clear hb1 B0 BK
  go_wp2_with fail
  refine (few_w (Kd.C_below CF.out.1 B1.out) CF.out.2.1 (Kd.C_below CF.out.2.2.2.1 B1.out) CF.out.2.2.2.2).mono ?_
  rintro e w2 ⟨A2, c2, A3, c3, rfl, ho0, ho1, hb2⟩
  have B2 := Aside0.mk (below_step B1.out hb2)
  have BK2 := Aside0.mk (blk_below BK1.out hb2)
  have hlv : (v0.take 250).length ≤ 250 := by rw [List.length_take]; omega
  have hll : (l0.take 250).length ≤ 250 := by rw [List.length_take]; omega
  have VI := Aside0.mk (show ∀ n ∈ v0.take 250, 0 ≤ n ∧ n < 18446744073709551616 from fun n hn => CF.out.2.2.1 n (List.mem_of_mem_take hn))
  have R0 := Aside0.mk (Kd.R_lower ho0 (below_size B1.out))
  have R1 := Aside0.mk (Kd.R_lower ho1 (below_size B1.out))
  clear h0 h1 hb2 B1 BK1 CF ho0 ho1
  generalize v0.take 250 = vs at *
  generalize l0.take 250 = ls at *
  have B3 := Aside0.mk (two_below B2.out GE.out (.slice A2 vs.length c2) (.slice A3 ls.length c3))
  have BK3 := Aside0.mk (two_put BK2.out (.slice A2 vs.length c2) (.slice A3 ls.length c3))
  have R03 := Aside0.mk (two_R (u0 := .slice A2 vs.length c2) (u1 := .slice A3 ls.length c3) BK2.out (by decide) rfl R0.out)
  have R13 := Aside0.mk (two_R (u0 := .slice A2 vs.length c2) (u1 := .slice A3 ls.length c3) BK2.out (by decide) rfl R1.out)
  obtain ⟨f0, f1⟩ := two_free BK2.out
  obtain ⟨h0, h1⟩ := two_cells BK2.out
  obtain ⟨n, hn⟩ : ∃ n, n = min vs.length ls.length := ⟨_, rfl⟩
  have hmin : (if (ls.length : Int) < (vs.length : Int) then (ls.length : Int) else (vs.length : Int)) = (n : Int) := by split <;> omega
  have hmin2 : (if ls.length < vs.length then (ls.length : Int) else (vs.length : Int)) = (n : Int) := by split <;> omega
  have NN := Aside0.mk hn
  clear hn
  go_wp2_with fail
  generalize (w2.setCell ⟨g, 0, none⟩ (.slice A2 vs.length c2)).setCell ⟨g, 1, none⟩ (.slice A3 ls.length c3) = w3 at *
  clear B2 BK2 R0 R1 h0 h1 f0 f1
  have hn1 : n ≤ vs.length := by have := NN.out; omega
  have hn2 : n ≤ ls.length := by have := NN.out; omega
  obtain ⟨vn, hvn, hvl, hcut1, _, hcl1⟩ := cut_at (P := Try.prog) 22 39 Try.underlying22 info39 (R_C R03.out).2.2 (R_C R03.out).2.1 (n : Int) (by omega) (by omega)
  obtain ⟨ln, hln, hll2, hcut2, _, hcl2⟩ := cut_at (P := Try.prog) 23 4 Try.underlying23 info4 (R_C R13.out).2.2 (R_C R13.out).2.1 (n : Int) (by omega) (by omega)
  rw [Int.toNat_natCast] at hvn hln
  have S0 := Aside0.mk (show Kd.R (Kd.int .u64) 39 w3 w.heap.size (fun _ => True) (.slice A2 vn.length c2) vn from by have := Kd.R_take R03.out hn1; rw [← hvn] at this; rwa [show n = vn.length by omega] at this)
  have S1 := Aside0.mk (show Kd.R Kd.bool 4 w3 w.heap.size (fun _ => True) (.slice A3 ln.length c3) ln from by have := Kd.R_take R13.out hn2; rw [← hln] at this; rwa [show n = ln.length by omega] at this)
  have LN := Aside0.mk (show vn.length = n ∧ ln.length = n ∧ n ≤ 250 from ⟨by omega, by omega, by omega⟩)
  have VN := Aside0.mk (show ∀ x ∈ vn, 0 ≤ x ∧ x < 18446744073709551616 from fun x hx => VI.out x (by rw [hvn] at hx; exact List.mem_of_mem_take hx))
  clear hvn hln hvl hll2 hcl1 hcl2 hn1 hn2 VI R03 R13
  refine start_ (n := 10) (S := fun w' => Below w3.heap.size w3 w') (ds := [9]) #[false, false, false, false, false, false, false, false, false, false] (by kernel_rfl) rfl rfl (below_drew (Below.refl _ _)) (fun hHeld => ?_); refine with_tabW cfcut6.tab4 cfcut6.bits4 (fun HT_ HW_ => ?_)
  refine pure_ (i := 0) (N := some 29) (v := ?_) (a' := ?_) #[true, false, false, false, false, false, false, false, false, false] rfl rfl (any_of HT_.out (by kernel_rfl)) (fun _ _ _ h => h) (Or.inl ⟨by rfl, ?_⟩) ?_ ?_
  rotate_left
  · intro w'
    go_simp
    with_reducible rfl
  rotate_left
  · simp only [Act.put, List.setIfInBounds_toArray, List.set_cons_zero, List.set_cons_succ, i64_w, i32_w]
    rfl
  refine take_ (i := 1) (N := some 30) (v := ?_) (a' := ?_) #[true, true, false, false, false, false, false, false, false, false] rfl rfl (take_ofW HT_.out HW_.out (by kernel_rfl)) (fun _ _ _ h => h) (Or.inl ⟨by rfl, ?_⟩) hHeld ?_ ?_
  rotate_left
  · rintro w' s0
    have ⟨b0, b1⟩ := two_cells (blk_below BK3.out s0)
    go_simp
    (try with_reducible rfl)
  rotate_left
  · simp only [Act.put, List.setIfInBounds_toArray, List.set_cons_zero, List.set_cons_succ, i64_w, i32_w]
    rfl
  refine pure_ (i := 2) (N := some 31) (v := ?_) (a' := ?_) #[true, true, true, false, false, false, false, false, false, false] rfl rfl (any_of HT_.out (by kernel_rfl)) (fun _ _ _ h => h) (Or.inl ⟨by rfl, ?_⟩) ?_ ?_
  rotate_left
  · intro w'
    go_simp
    with_reducible rfl
  rotate_left
  · simp only [Act.put, List.setIfInBounds_toArray, List.set_cons_zero, List.set_cons_succ, i64_w, i32_w]
    rfl
  refine pure_ (i := 3) (N := some 32) (v := ?_) (a' := ?_) #[true, true, true, true, false, false, false, false, false, false] rfl rfl (any_of HT_.out (by kernel_rfl)) (fun _ _ _ h => h) (Or.inl ⟨by rfl, ?_⟩) ?_ ?_
  rotate_left
  · intro w'
    go_simp
    with_reducible rfl
  rotate_left
  · simp only [Act.put, List.setIfInBounds_toArray, List.set_cons_zero, List.set_cons_succ, i64_w, i32_w]
    rfl
  refine pure_ (i := 4) (N := some 33) (v := ?_) (a' := ?_) #[true, true, true, true, true, false, false, false, false, false] rfl rfl (any_of HT_.out (by kernel_rfl)) (fun _ _ _ h => h) (Or.inl ⟨by rfl, ?_⟩) ?_ ?_
  rotate_left
  · intro w'
    go_simp
    with_reducible rfl
  rotate_left
  · simp only [Act.put, List.setIfInBounds_toArray, List.set_cons_zero, List.set_cons_succ, i64_w, i32_w]
    rfl
  refine take_ (i := 5) (N := some 34) (v := ?_) (a' := ?_) #[true, true, true, true, true, true, false, false, false, false] rfl rfl (take_ofW HT_.out HW_.out (by kernel_rfl)) (fun _ _ _ h => h) (Or.inl ⟨by rfl, ?_⟩) hHeld ?_ ?_
  rotate_left
  · rintro w' s0
    have ⟨b0, b1⟩ := two_cells (blk_below BK3.out s0)
    go_simp
    (try with_reducible rfl)
  rotate_left
  · simp only [Act.put, List.setIfInBounds_toArray, List.set_cons_zero, List.set_cons_succ, i64_w, i32_w]
    rfl
  refine pure_ (i := 6) (N := some 35) (v := ?_) (a' := ?_) #[true, true, true, true, true, true, true, false, false, false] rfl rfl (any_of HT_.out (by kernel_rfl)) (fun _ _ _ h => h) (Or.inl ⟨by rfl, ?_⟩) ?_ ?_
  rotate_left
  · intro w'
    go_simp
    with_reducible rfl
  rotate_left
  · simp only [Act.put, List.setIfInBounds_toArray, List.set_cons_zero, List.set_cons_succ, i64_w, i32_w]
    rfl
  refine pure_ (i := 7) (N := some 36) (v := ?_) (a' := ?_) #[true, true, true, true, true, true, true, true, false, false] rfl rfl (any_of HT_.out (by kernel_rfl)) (fun _ _ _ h => h) (Or.inl ⟨by rfl, ?_⟩) ?_ ?_
  rotate_left
  · intro w'
    go_simp
    with_reducible rfl
  rotate_left
  · simp only [Act.put, List.setIfInBounds_toArray, List.set_cons_zero, List.set_cons_succ, i64_w, i32_w]
    rfl
  refine pure_ (i := 8) (N := some 37) (v := ?_) (a' := ?_) #[true, true, true, true, true, true, true, true, true, false] rfl rfl (any_of HT_.out (by kernel_rfl)) (fun _ _ _ h => h) (Or.inl ⟨by rfl, ?_⟩) ?_ ?_
  rotate_left
  · intro w'
    go_simp
    with_reducible rfl
  rotate_left
  · simp only [Act.put, List.setIfInBounds_toArray, List.set_cons_zero, List.set_cons_succ, i64_w, i32_w]
    rfl
  have ⟨b0, b1⟩ := two_cells BK3.out
  have ⟨g0, g1⟩ := two_free BK3.out
  refine last_ (i := 9) (N := none) #[true, true, true, true, true, true, true, true, true, true] rfl rfl (one_of HT_.out (by kernel_rfl)) (by decide) (fun K hK => ?_)
  refine skip_ (w1 := (w3.drew.setCell ⟨g, 0, none⟩ (.slice A2 vn.length c2)).setCell ⟨g, 1, none⟩ (.slice A3 ln.length c3)) (by rfl) rfl ?_ ?_
  · go_simp
    done
  refine hK.out _ _ ?_
  clear hK K b0 b1 g0 g1
  refine done_ (done_of HT_.out (by kernel_rfl)) ?_
  have B4 := Aside0.mk (two_below (pw_below_drewN B3.out 1) GE.out (.slice A2 vn.length c2) (.slice A3 ln.length c3))
  have BK4 := Aside0.mk (two_put (blk_drewN BK3.out 1) (.slice A2 vn.length c2) (.slice A3 ln.length c3))
  have R04 := Aside0.mk (two_R (u0 := .slice A2 vn.length c2) (u1 := .slice A3 ln.length c3) (blk_drewN BK3.out 1) (by decide) rfl (Kd.R_drewN S0.out 1))
  have R14 := Aside0.mk (two_R (u0 := .slice A2 vn.length c2) (u1 := .slice A3 ln.length c3) (blk_drewN BK3.out 1) (by decide) rfl (Kd.R_drewN S1.out 1))
  rw [World.drew_is_drewN]
  generalize (((w3.drewN 1).setCell ⟨g, 0, none⟩ (.slice A2 vn.length c2)).setCell ⟨g, 1, none⟩ (.slice A3 ln.length c3)) = w4 at *
  clear HT_ HW_ hHeld B3 BK3 S0 S1 hcut1 hcut2
  have LE := Aside0.mk LN.out
  have Y0 := R_C R04.out
  have Y1 := R_C R14.out
  have hle := LN.out
  have hse : serr 7 vn ln = 0 := if_pos ⟨by decide, by omega⟩
  have hlen := senc_length (x := 7) (vs := vn) (ls := ln) (by decide) (by omega)
  have hsn : senc 7 vn ln = encs (stexts 7 vn ln) := if_pos ⟨by decide, by omega⟩
  obtain ⟨a, ha, ha4⟩ : ∃ a : Nat, bits .and .i64 at_ 3 = (a : Int) ∧ a < 4 := by
    have := and_i64 at_ 3 (by decide)
    rw [show ((3 : Nat) : Int) = 3 from rfl] at this
    exact ⟨(bits .and .i64 at_ 3).toNat, by omega, by omega⟩
  have HLS := Aside0.mk (sdec_less (x := 7) (vs := vn) (ls := ln) (by omega) (by omega))
  obtain ⟨v, hv, hk1, hk2, hsb, hsd⟩ := sdec_spoilt (x := 7) (vs := vn) (ls := ln) (by decide) (by decide) (by omega) (by omega) VN.out ha4 BY.out.1 BY.out.2
  have SBY := Aside0.mk (senc_bytes 7 vn ln)
  rw [← hsn] at hv hk1 hk2 hsb hsd
  have hls := HLS.out
  rw [← hsn, hle.1] at hls
  obtain ⟨hl1, hl2, hl3⟩ := hls
  have hqb : Bytes ((senc 7 vn ln).take ((senc 7 vn ln).length - (slast n + 6))) := SBY.out.take _
  rw [← hl1] at hl3
  have hze1 : (vn.zip ln).map Prod.fst = vn := List.map_fst_zip (by omega)
  have hze2 : (vn.zip ln).map Prod.snd = ln := List.map_snd_zip (by omega)
  obtain ⟨h0, h1⟩ := two_cells BK4.out
  have X := Aside0.mk (sencode_r Y0.2.2 Y0.2.1 Y1.2.2 Y1.2.1 (by omega) 7)
  rw [hse] at X
  have LX := Aside0.mk (And.intro Y0.2.1 Y1.2.1)
  clear Y0 Y1 HLS hl1 hse hsn LN VN hle
  generalize senc 7 vn ln = b at *
  have hLV : slast n = if n = 0 then 16 else 9 * (1 + (n - 1) % 100) := rfl
  generalize slast n = L at *
  have LV := Aside0.mk hLV
  clear hLV
  generalize hqq : b.take (b.length - (L + 6)) = q at *
  go_wp2_with fail
  refine X.out.mono ?_
  rintro e w5 ⟨A5, c5, rfl, ho5, hb5⟩
  have hbp : 0 < b.length := by omega
  obtain ⟨g5, cap5, hA5, hg51, hg52, cells5, hg53⟩ := Kd.R_form ho5 hbp
  injection hA5 with hA5 _ hc5
  subst hA5 hc5
  have B5 := Aside0.mk (below_step B4.out hb5)
  have BK5 := Aside0.mk (blk_below BK4.out hb5)
  have R05 := Aside0.mk (Kd.R_below R04.out hb5)
  have R15 := Aside0.mk (Kd.R_below R14.out hb5)
  have G5 := Aside0.mk (And.intro (show w.heap.size ≤ g5 from Nat.le_trans (below_size B4.out) hg51) hg52)
  have O5 := Aside0.mk ho5
  obtain ⟨qt, hqt⟩ : ∃ q : Nat, q = (n + 99) / 100 := ⟨_, rfl⟩
  have hle := LE.out
  have hbl : (b.length : Int) = 22 + 9 * (n : Int) + 6 * (qt : Int) := by rw [hle.1, ← hqt] at hlen; omega
  have a1 : IntKind.i64.wrap (9 * (n : Int)) = 9 * (n : Int) := IntWalk.i64_in _ (by omega)
  have a2 : IntKind.i64.wrap (22 + 9 * (n : Int)) = 22 + 9 * (n : Int) := IntWalk.i64_in _ (by omega)
  have a3 : IntKind.i64.wrap ((n : Int) + 99) = (n : Int) + 99 := IntWalk.i64_in _ (by omega)
  have a4 : Int.tdiv ((n : Int) + 99) 100 = (qt : Int) := by rw [Int.tdiv_eq_ediv_of_nonneg (by omega)]; omega
  have a5 : IntKind.i64.wrap (qt : Int) = (qt : Int) := IntWalk.i64_in _ (by omega)
  have a6 : IntKind.i64.wrap (6 * (qt : Int)) = 6 * (qt : Int) := IntWalk.i64_in _ (by omega)
  have a7 : IntKind.i64.wrap (22 + 9 * (n : Int) + 6 * (qt : Int)) = 22 + 9 * (n : Int) + 6 * (qt : Int) := IntWalk.i64_in _ (by omega)
  have a8 : ((b.length : Int) == 22 + 9 * (n : Int) + 6 * (qt : Int)) = true := beq_iff_eq.mpr hbl
  have a9 : ((b.length : Int) != 22 + 9 * (n : Int) + 6 * (qt : Int)) = false := by rw [bne, a8]; rfl
  have e0 : ((0 : Int) != 0) = false := rfl
  have hbm : b.length ≤ 3000 := by omega
  obtain ⟨dl, hdl⟩ : ∃ d : Nat, d = b.length - (L + 6) := ⟨_, rfl⟩
  rw [← hdl] at hqq
  obtain ⟨q', hq', hql, hcut, hCq, hcq⟩ := cut_at (P := Try.prog) 28 5 Try.underlying28 info5 (R_C ho5).2.2 (R_C ho5).2.1 (dl : Int) (by omega) (by omega)
  rw [Int.toNat_natCast, hqq] at hq'
  subst hq'
  have hqm : q'.length ≤ 8000 := by omega
  have A := Aside0.mk (fun w6 (hb : Below w5.heap.size w5 w6) => sdecode_w (w := w6) (Kd.C_below hCq hb) hcq hqb hqm)
  have hqn : q'.length = dl := by omega
  rw [hl3, hqn] at A
  rw [hqn] at hcut
  have hcs : ((decide ((0 : Int) < (n : Int)) = false ∧ decide (0 < n) = false ∧ ¬ 0 < n) ∧ IntKind.i64.wrap ((b.length : Int) - 22) = (dl : Int)) ∨ ∃ r : Nat, (decide ((0 : Int) < (n : Int)) = true ∧ decide (0 < n) = true ∧ 0 < n) ∧ IntKind.i64.wrap ((n : Int) - 1) = (n : Int) - 1 ∧ Int.tmod ((n : Int) - 1) 100 = (r : Int) ∧ IntKind.i64.wrap (r : Int) = (r : Int) ∧ IntKind.i64.wrap (1 + (r : Int)) = 1 + (r : Int) ∧ IntKind.i64.wrap (9 * (1 + (r : Int))) = 9 * (1 + (r : Int)) ∧ IntKind.i64.wrap (9 * (1 + (r : Int)) + 6) = 9 * (1 + (r : Int)) + 6 ∧ IntKind.i64.wrap ((b.length : Int) - (9 * (1 + (r : Int)) + 6)) = (dl : Int) := by
    have hL := LV.out
    by_cases hn0 : n = 0
    · rw [if_pos hn0] at hL
      exact .inl ⟨⟨decide_eq_false (by omega), decide_eq_false (by omega), by omega⟩, (IntWalk.i64_in _ (by omega)).trans (by omega)⟩
    · rw [if_neg hn0] at hL
      have hr : (n - 1) % 100 < 100 := Nat.mod_lt _ (by decide)
      refine .inr ⟨(n - 1) % 100, ⟨decide_eq_true (by omega), decide_eq_true (by omega), by omega⟩, IntWalk.i64_in _ (by omega), by rw [Int.tmod_eq_emod_of_nonneg (by omega)]; omega, ?_⟩
      generalize (n - 1) % 100 = r at *
      exact ⟨IntWalk.i64_in _ (by omega), IntWalk.i64_in _ (by omega), IntWalk.i64_in _ (by omega), IntWalk.i64_in _ (by omega), (IntWalk.i64_in _ (by omega)).trans (by omega)⟩
  have HK := Aside0.mk (And.intro hk1 hk2)
  have HV := Aside0.mk hv
  have HSB := Aside0.mk hsb
  have HSD := Aside0.mk hsd
  have HZE := Aside0.mk (And.intro hze1 hze2)
  have NE := Aside0.mk (Kd.R_ne ho5 BK5.out (by decide))
  clear hb5 B4 BK4 R04 R14 hg51 hg52 hg53 ho5 X hlen hbl hl2 hl3 hqb hCq hcq hv hk1 hk2 hsb hsd hze1 hze2 hle hqt hdl hqq hql hqm hqn h0 h1
  rcases hcs with ⟨⟨z1, z1', z1''⟩, z2⟩ | ⟨r, ⟨z1, z1', z1''⟩, z2, z3, z4, z5, z6, z7, z8⟩
  all_goals
    go_wp2_with fail
    refine (A.out _ (Below.refl _ _)).mono ?_
    rintro e w6 ⟨A6, c6, A7, c7, rfl, _, _, _, _, hb6⟩
    simp only [List.map_nil, List.length_nil]
    have B6 := Aside0.mk (below_step B5.out hb6)
    have hbA := below_alloc (Below.refl w6.heap.size w6) (.cells #[.slice A6 0 c6, .slice A7 0 c7] 25)
    have B7 := Aside0.mk (below_step B6.out hbA)
    have BK7 := Aside0.mk (blk_below (blk_below BK5.out hb6) hbA)
    have R07 := Aside0.mk (Kd.R_below (Kd.R_below R05.out hb6) hbA)
    have R17 := Aside0.mk (Kd.R_below (Kd.R_below R15.out hb6) hbA)
    have O7 := Aside0.mk (Kd.R_below (Kd.R_below O5.out hb6) hbA)
    obtain ⟨K, hK⟩ : ∃ K : Nat, K = b.length - 1 - a := ⟨_, rfl⟩
    have hk1 := HK.out.1
    have hk2 := HK.out.2
    have hva := HV.out
    rw [← hK] at hk1 hva
    obtain ⟨hck, hfk⟩ := Kd.R_celln (0 : Int) O7.out (K : Int) (by omega) (by omega)
    rw [Int.toNat_natCast] at hck hfk
    have hrd : rdOf (0 : Int) b (K : Int) = v := by
      unfold rdOf
      rw [Int.toNat_natCast]; exact hva
    rw [hrd] at hck
    have b1 : IntKind.i64.wrap ((b.length : Int) - 1) = (b.length : Int) - 1 := IntWalk.i64_in _ (by omega)
    have b2 : IntKind.i64.wrap ((b.length : Int) - 1 - (a : Int)) = (K : Int) := (IntWalk.i64_in _ (by omega)).trans (by omega)
    have b3 : (0 : Int) ≤ (K : Int) := by omega
    have b4 : (K : Int) < (b.length : Int) := by omega
    have hx := Aside0.mk hK
    clear hb6 hbA B5 BK5 R05 R15 O5 B6 hcut A hrd hva hk2 hK z1 z1' z1'' z2
    go_wp2_with fail
    have O8 := Kd.R_putn O7.out (K : Int) (bits .xor .u8 v by_)
    rw [Int.toNat_natCast] at O8
    have Y8 := R_C O8
    have hsb := HSB.out
    have hsd := HSD.out
    rw [← hx.out] at hsb hsd
    have D8 := sdecode_w Y8.2.2 Y8.2.1 hsb (by rw [List.length_set]; omega)
    rw [List.length_set] at D8
    have D := Aside0.mk D8
    have B8 := Aside0.mk (below_set (j := K) (v := .int .u8 (bits .xor .u8 v by_)) B7.out G5.out.1)
    have BK8 := Aside0.mk (blk_far BK7.out (p := ⟨g5, K, none⟩) (fun h => NE.out (by rw [h]; rfl)) (.int .u8 (bits .xor .u8 v by_)))
    have R08 := Aside0.mk (put_R (i := K) (u := .int .u8 (bits .xor .u8 v by_)) (g := g5) rfl O7.out (by decide) rfl R07.out)
    have R18 := Aside0.mk (put_R (i := K) (u := .int .u8 (bits .xor .u8 v by_)) (g := g5) rfl O7.out (by decide) rfl R17.out)
    generalize (w6.alloc (.cells #[.slice A6 0 c6, .slice A7 0 c7] 25)).setCell ⟨g5, K, none⟩ (.int .u8 (bits .xor .u8 v by_)) = w8 at *
    clear O8 Y8 hsb D8 B7 BK7 R07 R17 O7 hck hfk
    by_cases hby : by_ = 0
    · rw [if_pos hby] at hsd
      rw [hsd] at D
      have e3 : (by_ == 0) = true := beq_iff_eq.mpr hby
      clear hsd hby
      refine D.out.mono ?_
      rintro e w9 ⟨A8, c8, A9, c9, rfl, h81, h82, h91, h92, hb9⟩
      dsimp only at h81 h82 h91 h92 ⊢
      rw [HZE.out.1] at h81 h82 ⊢
      rw [HZE.out.2] at h91 h92 ⊢
      have hbA := below_alloc (Below.refl w9.heap.size w9) (.cells #[.slice A8 vn.length c8, .slice A9 ln.length c9] 25)
      have B9 := Aside0.mk (below_step (below_step B8.out hb9) hbA)
      obtain ⟨k0, k1⟩ := two_cells (blk_below (blk_below BK8.out hb9) hbA)
      have X := Aside0.mk (same_w (Kd.C_below (Kd.C_below (R_C R08.out).2.2 hb9) hbA) (R_C R08.out).2.1 (Kd.C_below (Kd.C_below (R_C R18.out).2.2 hb9) hbA) (R_C R18.out).2.1 (Kd.C_below h82 hbA) h81 (Kd.C_below h92 hbA) h91 (by have := LE.out; omega) (by have := LE.out; omega))
      clear h81 h82 h91 h92 hb9 hbA B8 BK8 R08 R18 D
      go_wp2_with fail
      refine X.out.mono ?_
      rintro e w10 ⟨rfl, hb10⟩
      have B10 := Aside0.mk (below_step B9.out hb10)
      clear hb10 X B9 k0 k1
      go_wp2
      go_ret
      exact ⟨rfl, B10.out⟩
    · rw [if_neg hby] at hsd
      rw [hsd] at D
      have e3 : (by_ == 0) = false := beq_eq_false_iff_ne.mpr hby
      clear hsd hby
      refine D.out.mono ?_
      rintro e w9 ⟨A8, c8, A9, c9, rfl, h81, h82, h91, h92, hb9⟩
      simp only [List.map_nil, List.length_nil]
      have B9 := Aside0.mk (below_alloc (below_step B8.out hb9) (.cells #[.slice A8 0 c8, .slice A9 0 c9] 25))
      clear h81 h82 h91 h92 hb9 B8 BK8 R08 R18 D
      go_wp2
      go_ret
      exact ⟨rfl, B9.out⟩
end Go.Proofs.Ytaohmpblmlkioaa.PAll
