/- StateUnlike's walk: two configs, or steps, that are not the same have unlike texts. Conditions: numbers of their kinds. -/
import Derived.Test.YtaohmpblmlkioaaStL
namespace Go.Proofs.Ytaohmpblmlkioaa.PAll
open Go.RowKit Go.Proofs.Ytaohmpblmlkioaa.Oct Go.Proofs.Ytaohmpblmlkioaa.HX Go.Proofs.YtaohmpblmlkioaaW.PrintWords Go.Proofs.YtaohmpblmlkioaaW.PrintLast Go.Proofs.YtaohmpblmlkioaaW.PrintMore
attribute [local go_sem] max2_int min2_int max_two min_two max_three min_three max_four min_four   -- for this text's walks alone
set_option linter.unusedVariables false
set_option linter.unusedSimpArgs false
theorem and_mod_nat (x : Int) (m : Nat) (hm : m < 9223372036854775808) (q : Nat) (hq : 0 < q) : ∃ j : Nat, (bits .and .i64 x m).tmod (q : Int) = (j : Int) ∧ j < q := by
  have h := and_i64 x m hm
  rw [Int.tmod_eq_emod_of_nonneg h.1]
  have h0 := Int.emod_nonneg (bits .and .i64 x m) (show (q : Int) ≠ 0 by omega)
  have h1 := Int.emod_lt_of_pos (bits .and .i64 x m) (show (0 : Int) < q by omega)
  exact ⟨((bits .and .i64 x m) % (q : Int)).toNat, by omega, by omega⟩
theorem sencode_u {A0 A1 : Option Addr} {c0 c1 n M : Nat} {vs : List Int} {ls : List Bool} {w : World} {b0 b1 : Nat} (h0 : Kd.R (Kd.int .u64) 39 w b0 (fun _ => True) (.slice A0 n c0) vs) (h1 : Kd.R Kd.bool 4 w b1 (fun _ => True) (.slice A1 n c1) ls) (hn : n ≤ 250) (hM : M = 22 + 9 * n + 6 * ((n + 99) / 100)) (step : Int) (hs : 0 ≤ step) :
    Calls Try.prog 11 #[.int .i64 step, .agg #[.slice A0 n c0, .slice A1 n c1]] w fun e w' => ∃ A' c', e = .returned (.tuple #[.slice A' M c', .int .i64 0]) ∧ Kd.R (Kd.int .u8) 5 w' w.heap.size (fun _ => True) (.slice A' M c') (senc step vs ls) ∧ Below w.heap.size w w' := by
  have y0 := R_C h0
  have y1 := R_C h1
  have e0 := y0.1
  have e1 := y1.1
  have hse : serr step vs ls = 0 := if_pos ⟨hs, by omega⟩
  have hlen := senc_length (x := step) (vs := vs) (ls := ls) hs (by omega)
  rw [← e0, ← hM] at hlen
  have h := state_Encode.calls 50000 step A0 c0 vs A1 c1 ls _ _ w y0.2.2 y0.2.1 y1.2.2 y1.2.1 (sencode_is (by omega) step 50000 (by omega))
  rw [← e0, ← e1, hse] at h
  refine h.mono ?_
  rintro e w3 ⟨v3, rfl, ho3, hb3⟩
  obtain ⟨A3, c3, rfl⟩ := Kd.R_slice ho3
  rw [hlen] at ho3 ⊢
  exact ⟨A3, c3, rfl, ho3, hb3⟩
/-- A row of another type, beside a place that is written. -/
theorem put_any {α β : Type} {d : Kd α} {d' : Kd β} {e e' n1 n2 g i : Nat} {W : World} {v v' u : Value} {xs : List α} {ys : List β} (hg : v'.ownBlock = some g) (h' : d'.R e' W n2 (fun _ => True) v' ys) (he : e' ≠ e) (hE : d.E = []) (h : d.R e W n1 (fun _ => True) v xs) : d.R e (W.setCell ⟨g, i, none⟩ u) n1 (fun _ => True) v xs :=
  Kd.R_mono (Kd.R_far (Kd.R_far1 h hE (type_ne h' h he g hg)) (p := ⟨g, i, none⟩) (fun k hk => hk.2) u) (fun _ _ => trivial)
theorem senc_inj {x y : Int} {vs vt : List Int} {ls lt : List Bool} (hx : 0 ≤ x ∧ x ≤ 9223372036854775807) (hy : 0 ≤ y ∧ y ≤ 9223372036854775807) (h1 : vs.length = ls.length) (h2 : vt.length = lt.length) (hv : ∀ a ∈ vs, 0 ≤ a ∧ a < 18446744073709551616) (ht : ∀ a ∈ vt, 0 ≤ a ∧ a < 18446744073709551616) (l1 : vs.length ≤ 1000) (l2 : vt.length ≤ 1000) (h : senc x vs ls = senc y vt lt) : x = y ∧ vs = vt ∧ ls = lt := by
  have hz1 : (vs.zip ls).map Prod.fst = vs := List.map_fst_zip (by omega)
  have hz2 : (vs.zip ls).map Prod.snd = ls := List.map_snd_zip (by omega)
  have hz3 : (vt.zip lt).map Prod.fst = vt := List.map_fst_zip (by omega)
  have hz4 : (vt.zip lt).map Prod.snd = lt := List.map_snd_zip (by omega)
  have a := (sdec_enc (r := vs.zip ls) (fun y hy => hv _ (List.of_mem_zip (show (y.1, y.2) ∈ vs.zip ls from hy)).1) (by rw [List.length_zip]; omega) hx.1 hx.2).2
  have b := (sdec_enc (r := vt.zip lt) (fun y hy => ht _ (List.of_mem_zip (show (y.1, y.2) ∈ vt.zip lt from hy)).1) (by rw [List.length_zip]; omega) hy.1 hy.2).2
  rw [hz1, hz2] at a
  rw [hz3, hz4] at b
  rw [h, b] at a
  simp only [Prod.mk.injEq, and_true] at a
  exact ⟨a.1.symm, by rw [← hz1, ← hz3, a.2], by rw [← hz2, ← hz4, a.2]⟩
theorem wrap_same {x b : Int} (hx : 0 ≤ x ∧ x < 18446744073709551616) (hb : 0 ≤ b ∧ b < 18446744073709551616) : 0 ≤ IntKind.u64.wrap (x + b) ∧ IntKind.u64.wrap (x + b) < 18446744073709551616 ∧ (IntKind.u64.wrap (x + b) = x ↔ b = 0) := by
  have e : IntKind.u64.wrap (x + b) = (x + b) % 18446744073709551616 := by
    simp [IntKind.wrap, IntKind.bits, IntKind.signed]
  rw [e]; omega
theorem strs_ne {a b : List Int} (ha : Bytes a) (hb : Bytes b) (h : a ≠ b) : ((strOfNums a).toList == (strOfNums b).toList) = false := beq_eq_false_iff_ne.mpr (fun e => h ((str_eq ha hb).1 e))
def cfcut8.T7 : Bool × List (List Nat × List Nat) := (true, [([], []), ([0], [0]), ([], []), ([1, 2], [1, 2]), ([], []), ([4], [4]), ([], []), ([5, 6], [5, 6]), ([3, 7], [3, 7]), ([8, 0, 1, 2, 3, 4, 5, 6, 7, 8], [8])])
def cfcut8.B7 : List Nat := [0, 1, 0, 7, 0, 16, 0, 112, 255, 511]
theorem cfcut8.tab7 : rtab .any (opsOf Try.f8 7) = cfcut8.T7 := by kernel_rfl
theorem cfcut8.bits7 : waitsOk cfcut8.T7.2 cfcut8.B7 = true := by kernel_rfl
def unl.T10 : Bool × List (List Nat × List Nat) := (true, [([], []), ([0], [0]), ([], []), ([], []), ([3], [3]), ([], []), ([4, 5], [4, 5]), ([6], [6]), ([7], [7]), ([1, 2, 0, 1, 2, 3, 4, 5, 6, 7, 8], [1, 2]), ([9, 8, 0, 1, 2, 3, 4, 5, 6, 7, 8], [8, 9])])
def unl.B10 : List Nat := [0, 1, 0, 0, 8, 0, 56, 120, 248, 511, 1023]
theorem unl.tab10 : rtab .any (opsOf Try.f8 10) = unl.T10 := by kernel_rfl
theorem unl.bits10 : waitsOk unl.T10.2 unl.B10 = true := by kernel_rfl
def unl.T12 : Bool × List (List Nat × List Nat) := (true, [([], []), ([0], [0]), ([], []), ([], []), ([3], [3]), ([], []), ([4, 5], [4, 5]), ([6], [6]), ([7], [7]), ([1, 2, 0, 1, 2, 3, 4, 5, 6, 7, 8], [1, 2]), ([9, 8, 0, 1, 2, 3, 4, 5, 6, 7, 8], [8, 9])])
def unl.B12 : List Nat := [0, 1, 0, 0, 8, 0, 56, 120, 248, 511, 1023]
theorem unl.tab12 : rtab .any (opsOf Try.f8 12) = unl.T12 := by kernel_rfl
theorem unl.bits12 : waitsOk unl.T12.2 unl.B12 = true := by kernel_rfl
def unl.T13 : Bool × List (List Nat × List Nat) := (true, [([], []), ([0], [0]), ([], []), ([], []), ([3], [3]), ([], []), ([4, 5], [4, 5]), ([6], [6]), ([], []), ([7, 8], [7, 8]), ([1, 2, 0, 1, 2, 3, 4, 5, 6, 7, 8, 9], [1, 2]), ([10, 9, 0, 1, 2, 3, 4, 5, 6, 7, 8, 9], [9, 10])])
def unl.B13 : List Nat := [0, 1, 0, 0, 8, 0, 56, 120, 0, 504, 1023, 2047]
theorem unl.tab13 : rtab .any (opsOf Try.f8 13) = unl.T13 := by kernel_rfl
theorem unl.bits13 : waitsOk unl.T13.2 unl.B13 = true := by kernel_rfl
set_option maxHeartbeats 8000000 in
set_option maxRecDepth 100000 in
theorem cartagelaw15_StateUnlike.walk (A0 : Option Addr) (c0 : Nat) (v0 : List Int) (A1 : Option Addr) (c1 : Nat) (l0 : List Bool) (at_ by_ : Int) (w : World) (hcf : IsCf w A0 c0 v0 A1 c1 l0) (hat : (Lit.int .i64 at_).wf = true) (hby : (Lit.int .u64 by_).wf = true) :
    Calls Try.prog 8 #[.agg #[.slice A0 v0.length c0, .slice A1 l0.length c1], .int .i64 at_, .int .u64 by_] w fun e w' => e = .returned (.bool true) ∧ Below w.heap.size w w' := by
  have BY := Aside0.mk (wf_u64 hby)
  clear hat hby
  have CF := Aside0.mk hcf
  have hu25 := Try.underlying25
  clear hcf
  go_enter Try.func8, Try.ntmps8
  go_wp2_with ((with_reducible refine gate_dst (N := 3) rfl ?_); refine box_event ?hg (N := 3) ?hd (cs := #[.slice A0 v0.length c0, .slice A1 l0.length c1]) (t := 25) ?hr ?_; (case hd => rfl); (case hg => rfl); (case hr => first | (go_simp; done) | (go_simp; rfl)); intro g hg w0 hbox hb; have B0 := Aside0.mk hb; have BK := Aside0.mk hbox; have GE := Aside0.mk (show w.heap.size ≤ g from by rw [hg]; exact Nat.le_refl _); clear hb hbox hg)
  refine (shown_w _).mono ?_
  rintro e w1 ⟨rfl, hb1⟩
  have B1 := Aside0.mk (below_step B0.out hb1)
  have BK1 := Aside0.mk (blk_below BK.out hb1)
  obtain ⟨h0, h1⟩ := two_cells BK1.out
  clear hb1 B0 BK
  go_wp2_with fail
  refine (few_w (Kd.C_below CF.out.1 B1.out) CF.out.2.1 (Kd.C_below CF.out.2.2.2.1 B1.out) CF.out.2.2.2.2).mono ?_
  rintro e w2 ⟨A2, c2, A3, c3, rfl, ho0, ho1, hb2⟩
  have B2 := Aside0.mk (below_step B1.out hb2)
  have BK2 := Aside0.mk (blk_below BK1.out hb2)
  have hlv : (v0.take 250).length ≤ 250 := by rw [List.length_take]; omega
  have hll : (l0.take 250).length ≤ 250 := by rw [List.length_take]; omega
  have VI := Aside0.mk (show ∀ n ∈ v0.take 250, 0 ≤ n ∧ n < 18446744073709551616 from fun n hn => CF.out.2.2.1 n (List.mem_of_mem_take hn))
  have R0 := Aside0.mk (Kd.R_lower ho0 (below_size B1.out))
  have R1 := Aside0.mk (Kd.R_lower ho1 (below_size B1.out))
  clear h0 h1 hb2 B1 BK1 CF ho0 ho1
  generalize v0.take 250 = vs at *
  generalize l0.take 250 = ls at *
  have B3 := Aside0.mk (two_below B2.out GE.out (.slice A2 vs.length c2) (.slice A3 ls.length c3))
  have BK3 := Aside0.mk (two_put BK2.out (.slice A2 vs.length c2) (.slice A3 ls.length c3))
  have R03 := Aside0.mk (two_R (u0 := .slice A2 vs.length c2) (u1 := .slice A3 ls.length c3) BK2.out (by decide) rfl R0.out)
  have R13 := Aside0.mk (two_R (u0 := .slice A2 vs.length c2) (u1 := .slice A3 ls.length c3) BK2.out (by decide) rfl R1.out)
  obtain ⟨f0, f1⟩ := two_free BK2.out
  obtain ⟨h0, h1⟩ := two_cells BK2.out
  obtain ⟨n, hn⟩ : ∃ n, n = min vs.length ls.length := ⟨_, rfl⟩
  have hmin : (if (ls.length : Int) < (vs.length : Int) then (ls.length : Int) else (vs.length : Int)) = (n : Int) := by split <;> omega
  have hmin2 : (if ls.length < vs.length then (ls.length : Int) else (vs.length : Int)) = (n : Int) := by split <;> omega
  have NN := Aside0.mk hn
  clear hn
  by_cases hn0 : n = 0
  · have z1 : ((n : Int) == 0) = true := by rw [hn0]; rfl
    clear hn0
    go_wp2
    go_ret
    exact ⟨rfl, B3.out⟩
  have z1 : ((n : Int) == 0) = false := beq_eq_false_iff_ne.mpr (by omega)
  obtain ⟨j, hj, hjn⟩ := and_mod_nat at_ 65535 (by decide) n (by omega)
  rw [show ((65535 : Nat) : Int) = 65535 from rfl] at hj
  have hjw : IntKind.i64.wrap (j : Int) = (j : Int) := IntWalk.i64_in _ (by omega)
  have JN := Aside0.mk hjn
  have N0 := Aside0.mk hn0
  have hnz : ¬ (n : Int) = 0 := by omega
  clear hjn
  go_wp2_with fail
  generalize (w2.setCell ⟨g, 0, none⟩ (.slice A2 vs.length c2)).setCell ⟨g, 1, none⟩ (.slice A3 ls.length c3) = w3 at *
  clear B2 BK2 R0 R1 h0 h1 f0 f1
  have hn1 : n ≤ vs.length := by have := NN.out; omega
  have hn2 : n ≤ ls.length := by have := NN.out; omega
  obtain ⟨vn, hvn, hvl, hcut1, _, hcl1⟩ := cut_at (P := Try.prog) 22 39 Try.underlying22 info39 (R_C R03.out).2.2 (R_C R03.out).2.1 (n : Int) (by omega) (by omega)
  obtain ⟨ln, hln, hll2, hcut2, _, hcl2⟩ := cut_at (P := Try.prog) 23 4 Try.underlying23 info4 (R_C R13.out).2.2 (R_C R13.out).2.1 (n : Int) (by omega) (by omega)
  rw [Int.toNat_natCast] at hvn hln
  have S0 := Aside0.mk (show Kd.R (Kd.int .u64) 39 w3 w.heap.size (fun _ => True) (.slice A2 vn.length c2) vn from by have := Kd.R_take R03.out hn1; rw [← hvn] at this; rwa [show n = vn.length by omega] at this)
  have S1 := Aside0.mk (show Kd.R Kd.bool 4 w3 w.heap.size (fun _ => True) (.slice A3 ln.length c3) ln from by have := Kd.R_take R13.out hn2; rw [← hln] at this; rwa [show n = ln.length by omega] at this)
  have LN := Aside0.mk (show vn.length = n ∧ ln.length = n ∧ n ≤ 250 from ⟨by omega, by omega, by omega⟩)
  have VN := Aside0.mk (show ∀ x ∈ vn, 0 ≤ x ∧ x < 18446744073709551616 from fun x hx => VI.out x (by rw [hvn] at hx; exact List.mem_of_mem_take hx))
  clear hvn hln hvl hll2 hcl1 hcl2 hn1 hn2 VI R03 R13
  refine start_ (n := 10) (S := fun w' => Below w3.heap.size w3 w') (ds := [9]) #[false, false, false, false, false, false, false, false, false, false] (by kernel_rfl) rfl rfl (below_drew (Below.refl _ _)) (fun hHeld => ?_); refine with_tabW cfcut8.tab7 cfcut8.bits7 (fun HT_ HW_ => ?_)
  refine pure_ (i := 0) (N := some 34) (v := ?_) (a' := ?_) #[true, false, false, false, false, false, false, false, false, false] rfl rfl (any_of HT_.out (by kernel_rfl)) (fun _ _ _ h => h) (Or.inl ⟨by rfl, ?_⟩) ?_ ?_
  rotate_left
  · intro w'
    go_simp
    with_reducible rfl
  rotate_left
  · simp only [Act.put, List.setIfInBounds_toArray, List.set_cons_zero, List.set_cons_succ, i64_w, i32_w]
    rfl
  refine take_ (i := 1) (N := some 35) (v := ?_) (a' := ?_) #[true, true, false, false, false, false, false, false, false, false] rfl rfl (take_ofW HT_.out HW_.out (by kernel_rfl)) (fun _ _ _ h => h) (Or.inl ⟨by rfl, ?_⟩) hHeld ?_ ?_
  rotate_left
  · rintro w' s0
    have ⟨b0, b1⟩ := two_cells (blk_below BK3.out s0)
    go_simp
    (try with_reducible rfl)
  rotate_left
  · simp only [Act.put, List.setIfInBounds_toArray, List.set_cons_zero, List.set_cons_succ, i64_w, i32_w]
    rfl
  refine pure_ (i := 2) (N := some 36) (v := ?_) (a' := ?_) #[true, true, true, false, false, false, false, false, false, false] rfl rfl (any_of HT_.out (by kernel_rfl)) (fun _ _ _ h => h) (Or.inl ⟨by rfl, ?_⟩) ?_ ?_
  rotate_left
  · intro w'
    go_simp
    with_reducible rfl
  rotate_left
  · simp only [Act.put, List.setIfInBounds_toArray, List.set_cons_zero, List.set_cons_succ, i64_w, i32_w]
    rfl
  refine pure_ (i := 3) (N := some 37) (v := ?_) (a' := ?_) #[true, true, true, true, false, false, false, false, false, false] rfl rfl (any_of HT_.out (by kernel_rfl)) (fun _ _ _ h => h) (Or.inl ⟨by rfl, ?_⟩) ?_ ?_
  rotate_left
  · intro w'
    go_simp
    with_reducible rfl
  rotate_left
  · simp only [Act.put, List.setIfInBounds_toArray, List.set_cons_zero, List.set_cons_succ, i64_w, i32_w]
    rfl
  refine pure_ (i := 4) (N := some 38) (v := ?_) (a' := ?_) #[true, true, true, true, true, false, false, false, false, false] rfl rfl (any_of HT_.out (by kernel_rfl)) (fun _ _ _ h => h) (Or.inl ⟨by rfl, ?_⟩) ?_ ?_
  rotate_left
  · intro w'
    go_simp
    with_reducible rfl
  rotate_left
  · simp only [Act.put, List.setIfInBounds_toArray, List.set_cons_zero, List.set_cons_succ, i64_w, i32_w]
    rfl
  refine take_ (i := 5) (N := some 39) (v := ?_) (a' := ?_) #[true, true, true, true, true, true, false, false, false, false] rfl rfl (take_ofW HT_.out HW_.out (by kernel_rfl)) (fun _ _ _ h => h) (Or.inl ⟨by rfl, ?_⟩) hHeld ?_ ?_
  rotate_left
  · rintro w' s0
    have ⟨b0, b1⟩ := two_cells (blk_below BK3.out s0)
    go_simp
    (try with_reducible rfl)
  rotate_left
  · simp only [Act.put, List.setIfInBounds_toArray, List.set_cons_zero, List.set_cons_succ, i64_w, i32_w]
    rfl
  refine pure_ (i := 6) (N := some 40) (v := ?_) (a' := ?_) #[true, true, true, true, true, true, true, false, false, false] rfl rfl (any_of HT_.out (by kernel_rfl)) (fun _ _ _ h => h) (Or.inl ⟨by rfl, ?_⟩) ?_ ?_
  rotate_left
  · intro w'
    go_simp
    with_reducible rfl
  rotate_left
  · simp only [Act.put, List.setIfInBounds_toArray, List.set_cons_zero, List.set_cons_succ, i64_w, i32_w]
    rfl
  refine pure_ (i := 7) (N := some 41) (v := ?_) (a' := ?_) #[true, true, true, true, true, true, true, true, false, false] rfl rfl (any_of HT_.out (by kernel_rfl)) (fun _ _ _ h => h) (Or.inl ⟨by rfl, ?_⟩) ?_ ?_
  rotate_left
  · intro w'
    go_simp
    with_reducible rfl
  rotate_left
  · simp only [Act.put, List.setIfInBounds_toArray, List.set_cons_zero, List.set_cons_succ, i64_w, i32_w]
    rfl
  refine pure_ (i := 8) (N := some 42) (v := ?_) (a' := ?_) #[true, true, true, true, true, true, true, true, true, false] rfl rfl (any_of HT_.out (by kernel_rfl)) (fun _ _ _ h => h) (Or.inl ⟨by rfl, ?_⟩) ?_ ?_
  rotate_left
  · intro w'
    go_simp
    with_reducible rfl
  rotate_left
  · simp only [Act.put, List.setIfInBounds_toArray, List.set_cons_zero, List.set_cons_succ, i64_w, i32_w]
    rfl
  have ⟨b0, b1⟩ := two_cells BK3.out
  have ⟨g0, g1⟩ := two_free BK3.out
  refine last_ (i := 9) (N := none) #[true, true, true, true, true, true, true, true, true, true] rfl rfl (one_of HT_.out (by kernel_rfl)) (by decide) (fun K hK => ?_)
  refine skip_ (w1 := (w3.drew.setCell ⟨g, 0, none⟩ (.slice A2 vn.length c2)).setCell ⟨g, 1, none⟩ (.slice A3 ln.length c3)) (by rfl) rfl ?_ ?_
  · go_simp
    done
  refine hK.out _ _ ?_
  clear hK K b0 b1 g0 g1
  refine done_ (done_of HT_.out (by kernel_rfl)) ?_
  have B4 := Aside0.mk (two_below (pw_below_drewN B3.out 1) GE.out (.slice A2 vn.length c2) (.slice A3 ln.length c3))
  have BK4 := Aside0.mk (two_put (blk_drewN BK3.out 1) (.slice A2 vn.length c2) (.slice A3 ln.length c3))
  have R04 := Aside0.mk (two_R (u0 := .slice A2 vn.length c2) (u1 := .slice A3 ln.length c3) (blk_drewN BK3.out 1) (by decide) rfl (Kd.R_drewN S0.out 1))
  have R14 := Aside0.mk (two_R (u0 := .slice A2 vn.length c2) (u1 := .slice A3 ln.length c3) (blk_drewN BK3.out 1) (by decide) rfl (Kd.R_drewN S1.out 1))
  rw [World.drew_is_drewN]
  generalize (((w3.drewN 1).setCell ⟨g, 0, none⟩ (.slice A2 vn.length c2)).setCell ⟨g, 1, none⟩ (.slice A3 ln.length c3)) = w4 at *
  clear HT_ HW_ hHeld B3 BK3 S0 S1 hcut1 hcut2
  obtain ⟨hvn, hlnn, hn250⟩ := LN.out
  have HN := Aside0.mk hn250
  obtain ⟨gv, _, hA2, hg21, _, _⟩ := Kd.R_form R04.out (by omega)
  obtain ⟨gl, _, hA3, hg31, _, _⟩ := Kd.R_form R14.out (by omega)
  injection hA2 with hA2 _ hA2c
  injection hA3 with hA3 _ hA3c
  subst hA2 hA3 hA2c hA3c
  have Ggv := Aside0.mk hg21
  have Ggl := Aside0.mk hg31
  obtain ⟨M, hM⟩ : ∃ M : Nat, M = 22 + 9 * n + 6 * ((n + 99) / 100) := ⟨_, rfl⟩
  have HM := Aside0.mk hM
  rw [hvn] at R04 BK4
  rw [hlnn] at R14 BK4
  rw [hvn, hlnn]
  have RV4 := Aside0.mk R04.out
  have RL4 := Aside0.mk R14.out
  have hjn := JN.out
  obtain ⟨y, hy⟩ : ∃ y, y = rdOf false ln (j : Int) := ⟨_, rfl⟩
  obtain ⟨x, hxx⟩ : ∃ x, x = rdOf (0 : Int) vn (j : Int) := ⟨_, rfl⟩
  obtain ⟨z, hz⟩ : ∃ z, IntKind.u64.wrap (x + by_) = z := ⟨_, rfl⟩
  obtain ⟨y2, hy2⟩ : ∃ q, (!y) = q := ⟨_, rfl⟩
  have hyy : (!y2) = y := by rw [← hy2, Bool.not_not]
  obtain ⟨ln1, hl1⟩ : ∃ l, ln.set j y2 = l := ⟨_, rfl⟩
  obtain ⟨vn1, hv1⟩ : ∃ l, vn.set j z = l := ⟨_, rfl⟩
  have hxv : vn[j]'(by omega) = x := by rw [hxx]; unfold rdOf; rw [Int.toNat_natCast, List.getD_eq_getElem?_getD, List.getElem?_eq_getElem (by omega)]; rfl
  have hyv : ln[j]'(by omega) = y := by rw [hy]; unfold rdOf; rw [Int.toNat_natCast, List.getD_eq_getElem?_getD, List.getElem?_eq_getElem (by omega)]; rfl
  have hy1 : rdOf false ln1 (j : Int) = y2 := by rw [← hl1]; unfold rdOf; rw [Int.toNat_natCast, List.getD_eq_getElem?_getD, List.getElem?_set_self (by omega)]; rfl
  have hl2 : ln1.set j y = ln := by rw [← hl1, List.set_set, ← hyv]; exact List.set_getElem_self _
  have hxr := VN.out x (by rw [← hxv]; exact List.getElem_mem _)
  have hzr := wrap_same hxr BY.out
  rw [hz] at hzr
  have hv1r : ∀ a ∈ vn1, 0 ≤ a ∧ a < 18446744073709551616 := fun a ha => by
    rw [← hv1] at ha
    rcases List.mem_or_eq_of_mem_set ha with ha | rfl
    · exact VN.out a ha
    · exact ⟨hzr.1, hzr.2.1⟩
  have hv1l : vn1.length = n := by rw [← hv1, List.length_set]; exact hvn
  have hl1l : ln1.length = n := by rw [← hl1, List.length_set]; exact hlnn
  have i1 : senc 3 vn ln ≠ senc 4 vn ln := fun h => by
    have := (senc_inj (by decide) (by decide) (by omega) (by omega) VN.out VN.out (by omega) (by omega) h).1
    omega
  have i2 : senc 3 vn ln ≠ senc 3 vn ln1 := fun h => by
    have := (senc_inj (by decide) (by decide) (by omega) (by omega) VN.out VN.out (by omega) (by omega) h).2.2
    rw [← this, ← hy, ← hy2] at hy1
    exact (show ∀ q : Bool, q = !q → False by decide) y hy1
  have i3 : senc 3 vn ln = senc 3 vn1 ln ↔ by_ = 0 := by
    rw [← hzr.2.2]
    constructor
    · intro h
      have := (senc_inj (by decide) (by decide) (by omega) (by omega) VN.out hv1r (by omega) (by omega) h).2.1
      have h2 : vn1[j]'(by omega) = z := by simp only [← hv1, List.getElem_set_self]
      rw [← h2, ← hxv]
      simp only [← this]
    · intro h
      rw [← hv1, h, ← hxv, List.set_getElem_self]
  have HY6 := Aside0.mk hy.symm
  have HY8 := Aside0.mk hy1
  have HY9 := Aside0.mk hxx.symm
  have I1 := Aside0.mk (strs_ne (senc_bytes 3 vn ln) (senc_bytes 4 vn ln) i1)
  have I2 := Aside0.mk (strs_ne (senc_bytes 3 vn ln) (senc_bytes 3 vn ln1) i2)
  have I3 := Aside0.mk i3
  have I4 := Aside0.mk (fun h => strs_ne (senc_bytes 3 vn ln) (senc_bytes 3 vn1 ln) h)
  obtain ⟨h0, h1⟩ := two_cells BK4.out
  have b3 : (0 : Int) ≤ (j : Int) := by omega
  have b4 : (j : Int) < (n : Int) := by omega
  have b5 : j < n := hjn
  clear i1 i2 i3 hv1r hv1l hl1l hzr hxr hxv hyv hy hxx hy1 hM hn250 R04 R14 LN VN hvn hlnn hjn BY
  go_wp2_with fail
  refine (sencode_u RV4.out RL4.out HN.out HM.out 3 (by decide)).mono ?_
  rintro e w5 ⟨Ea, fa, rfl, hoE, hbE⟩
  have B5 := Aside0.mk (below_step B4.out hbE)
  have BK5 := Aside0.mk (blk_below BK4.out hbE)
  have RV5 := Aside0.mk (Kd.R_below RV4.out hbE)
  have RL5 := Aside0.mk (Kd.R_below RL4.out hbE)
  have Qa5 := Aside0.mk hoE
  clear hoE hbE B4 BK4 RV4 RL4  h0 h1
  obtain ⟨h0, h1⟩ := two_cells BK5.out
  go_wp2_with fail
  refine (sencode_u RV5.out RL5.out HN.out HM.out 4 (by decide)).mono ?_
  rintro e w6 ⟨Ed, fd, rfl, hoE, hbE⟩
  have B6 := Aside0.mk (below_step B5.out hbE)
  have BK6 := Aside0.mk (blk_below BK5.out hbE)
  have RV6 := Aside0.mk (Kd.R_below RV5.out hbE)
  have RL6 := Aside0.mk (Kd.R_below RL5.out hbE)
  have Qa6 := Aside0.mk (Kd.R_below Qa5.out hbE)
  have Qd6 := Aside0.mk hoE
  clear hoE hbE B5 BK5 RV5 RL5 Qa5 h0 h1
  obtain ⟨h0, h1⟩ := two_cells BK6.out
  go_wp2_with fail
  obtain ⟨hcK, hfK⟩ := Kd.R_celln false RL6.out (j : Int) (by omega) (by have := JN.out; omega)
  rw [Int.toNat_natCast, HY6.out] at hcK
  rw [Int.toNat_natCast] at hfK
  have HC := Aside0.mk hcK
  have HF := Aside0.mk hfK
  clear hcK hfK h0 h1
  have BK := Aside0.mk BK6.out
  refine start_ (n := 11) (S := fun w' => Below w6.heap.size w6 w') (ds := [10]) #[false, false, false, false, false, false, false, false, false, false, false] (by kernel_rfl) rfl rfl (below_drew (Below.refl _ _)) (fun hHeld => ?_); refine with_tabW unl.tab10 unl.bits10 (fun HT_ HW_ => ?_)
  refine pure_ (i := 0) (N := some 53) (v := ?_) (a' := ?_) #[true, false, false, false, false, false, false, false, false, false, false] rfl rfl (any_of HT_.out (by kernel_rfl)) (fun _ _ _ h => h) (Or.inl ⟨by rfl, ?_⟩) ?_ ?_
  rotate_left
  · intro w'
    go_simp
    with_reducible rfl
  rotate_left
  · simp only [Act.put, List.setIfInBounds_toArray, List.set_cons_zero, List.set_cons_succ, i64_w, i32_w]
    rfl
  refine take_ (i := 1) (N := some 54) (v := ?_) (a' := ?_) #[true, true, false, false, false, false, false, false, false, false, false] rfl rfl (take_ofW HT_.out HW_.out (by kernel_rfl)) (fun _ _ _ h => h) (Or.inl ⟨by rfl, ?_⟩) hHeld ?_ ?_
  rotate_left
  · rintro w' s0
    have ⟨b0, b1⟩ := two_cells (blk_below BK.out s0)
    have hcc := cell_below HC.out s0
    go_simp
    (try with_reducible rfl)
  rotate_left
  · simp only [Act.put, List.setIfInBounds_toArray, List.set_cons_zero, List.set_cons_succ, i64_w, i32_w]
    rfl
  refine pure_ (i := 2) (N := some 55) (v := ?_) (a' := ?_) #[true, true, true, false, false, false, false, false, false, false, false] rfl rfl (any_of HT_.out (by kernel_rfl)) (fun _ _ _ h => h) (Or.inl ⟨by rfl, ?_⟩) ?_ ?_
  rotate_left
  · intro w'
    go_simp
    with_reducible rfl
  rotate_left
  · simp only [Act.put, List.setIfInBounds_toArray, List.set_cons_zero, List.set_cons_succ, i64_w, i32_w]
    rfl
  refine pure_ (i := 3) (N := some 56) (v := ?_) (a' := ?_) #[true, true, true, true, false, false, false, false, false, false, false] rfl rfl (any_of HT_.out (by kernel_rfl)) (fun _ _ _ h => h) (Or.inl ⟨by rfl, ?_⟩) ?_ ?_
  rotate_left
  · intro w'
    go_simp
    with_reducible rfl
  rotate_left
  · simp only [Act.put, List.setIfInBounds_toArray, List.set_cons_zero, List.set_cons_succ, i64_w, i32_w]
    rfl
  refine take_ (i := 4) (N := some 57) (v := ?_) (a' := ?_) #[true, true, true, true, true, false, false, false, false, false, false] rfl rfl (take_ofW HT_.out HW_.out (by kernel_rfl)) (fun _ _ _ h => h) (Or.inl ⟨by rfl, ?_⟩) hHeld ?_ ?_
  rotate_left
  · rintro w' s0
    have ⟨b0, b1⟩ := two_cells (blk_below BK.out s0)
    have hcc := cell_below HC.out s0
    go_simp
    (try with_reducible rfl)
  rotate_left
  · simp only [Act.put, List.setIfInBounds_toArray, List.set_cons_zero, List.set_cons_succ, i64_w, i32_w]
    rfl
  refine pure_ (i := 5) (N := some 58) (v := ?_) (a' := ?_) #[true, true, true, true, true, true, false, false, false, false, false] rfl rfl (any_of HT_.out (by kernel_rfl)) (fun _ _ _ h => h) (Or.inl ⟨by rfl, ?_⟩) ?_ ?_
  rotate_left
  · intro w'
    go_simp
    with_reducible rfl
  rotate_left
  · simp only [Act.put, List.setIfInBounds_toArray, List.set_cons_zero, List.set_cons_succ, i64_w, i32_w]
    rfl
  refine pure_ (i := 6) (N := some 59) (v := ?_) (a' := ?_) #[true, true, true, true, true, true, true, false, false, false, false] rfl rfl (any_of HT_.out (by kernel_rfl)) (fun _ _ _ h => h) (Or.inl ⟨by rfl, ?_⟩) ?_ ?_
  rotate_left
  · intro w'
    go_simp
    with_reducible rfl
  rotate_left
  · simp only [Act.put, List.setIfInBounds_toArray, List.set_cons_zero, List.set_cons_succ, i64_w, i32_w]
    rfl
  refine take_ (i := 7) (N := some 60) (v := ?_) (a' := ?_) #[true, true, true, true, true, true, true, true, false, false, false] rfl rfl (take_ofW HT_.out HW_.out (by kernel_rfl)) (fun _ _ _ h => h) (Or.inl ⟨by rfl, ?_⟩) hHeld ?_ ?_
  rotate_left
  · rintro w' s0
    have ⟨b0, b1⟩ := two_cells (blk_below BK.out s0)
    have hcc := cell_below HC.out s0
    go_simp
    (try with_reducible rfl)
  rotate_left
  · simp only [Act.put, List.setIfInBounds_toArray, List.set_cons_zero, List.set_cons_succ, i64_w, i32_w]
    rfl
  refine pure_ (i := 8) (N := some 61) (v := ?_) (a' := ?_) #[true, true, true, true, true, true, true, true, true, false, false] rfl rfl (any_of HT_.out (by kernel_rfl)) (fun _ _ _ h => h) (Or.inl ⟨by rfl, ?_⟩) ?_ ?_
  rotate_left
  · intro w'
    go_simp
    with_reducible rfl
  rotate_left
  · simp only [Act.put, List.setIfInBounds_toArray, List.set_cons_zero, List.set_cons_succ, i64_w, i32_w]
    rfl
  refine pure_ (i := 9) (N := some 62) (v := ?_) (a' := ?_) #[true, true, true, true, true, true, true, true, true, true, false] rfl rfl (any_of HT_.out (by kernel_rfl)) (fun _ _ _ h => h) (Or.inl ⟨by rfl, ?_⟩) ?_ ?_
  rotate_left
  · intro w'
    go_simp
    with_reducible rfl
  rotate_left
  · simp only [Act.put, List.setIfInBounds_toArray, List.set_cons_zero, List.set_cons_succ, i64_w, i32_w]
    rfl
  have hcc := HC.out
  have hff := HF.out
  refine last_ (i := 10) (N := none) #[true, true, true, true, true, true, true, true, true, true, true] rfl rfl (one_of HT_.out (by kernel_rfl)) (by decide) (fun K hK => ?_)
  refine skip_ (w1 := w6.drew.setCell ⟨gl, j, none⟩ (.bool y2)) (by rfl) rfl ?_ ?_
  · go_simp
    done
  refine hK.out _ _ ?_
  clear hK K hHeld hcc hff
  refine done_ (done_of HT_.out (by kernel_rfl)) ?_
  rw [World.drew_is_drewN]
  have O := Kd.R_putn (Kd.R_drewN RL6.out 1) (j : Int) y2
  rw [Int.toNat_natCast, hl1] at O
  have RL7 := Aside0.mk O
  have RV7 := Aside0.mk (put_any (i := j) (u := (.bool y2)) rfl (Kd.R_drewN RL6.out 1) (by decide) rfl (Kd.R_drewN RV6.out 1))
  have Qa7 := Aside0.mk (put_any (i := j) (u := (.bool y2)) rfl (Kd.R_drewN RL6.out 1) (by decide) rfl (Kd.R_drewN Qa6.out 1))
  have Qd7 := Aside0.mk (put_any (i := j) (u := (.bool y2)) rfl (Kd.R_drewN RL6.out 1) (by decide) rfl (Kd.R_drewN Qd6.out 1))
  have BK7 := Aside0.mk (blk_far (blk_drewN BK6.out 1) (p := ⟨gl, j, none⟩) (fun h => Kd.R_ne RL6.out BK6.out (by decide) (by rw [h]; rfl)) (.bool y2))
  have B7 := Aside0.mk (below_set (j := j) (v := (.bool y2)) (pw_below_drewN B6.out 1) Ggl.out)
  generalize (w6.drewN 1).setCell ⟨gl, j, none⟩ (.bool y2) = w7 at *
  clear HT_ HW_ O HC HF BK B6 BK6 RV6 RL6 Qa6 Qd6
  obtain ⟨h0, h1⟩ := two_cells BK7.out
  go_wp2_with fail
  refine (sencode_u RV7.out RL7.out HN.out HM.out 3 (by decide)).mono ?_
  rintro e w8 ⟨Eb, fb, rfl, hoE, hbE⟩
  have B8 := Aside0.mk (below_step B7.out hbE)
  have BK8 := Aside0.mk (blk_below BK7.out hbE)
  have RV8 := Aside0.mk (Kd.R_below RV7.out hbE)
  have RL8 := Aside0.mk (Kd.R_below RL7.out hbE)
  have Qa8 := Aside0.mk (Kd.R_below Qa7.out hbE)
  have Qd8 := Aside0.mk (Kd.R_below Qd7.out hbE)
  have Qb8 := Aside0.mk hoE
  clear hoE hbE B7 BK7 RV7 RL7 Qa7 Qd7 h0 h1
  obtain ⟨h0, h1⟩ := two_cells BK8.out
  go_wp2_with fail
  obtain ⟨hcK, hfK⟩ := Kd.R_celln false RL8.out (j : Int) (by omega) (by have := JN.out; omega)
  rw [Int.toNat_natCast, HY8.out] at hcK
  rw [Int.toNat_natCast] at hfK
  have HC := Aside0.mk hcK
  have HF := Aside0.mk hfK
  clear hcK hfK h0 h1
  have BK := Aside0.mk BK8.out
  refine start_ (n := 11) (S := fun w' => Below w8.heap.size w8 w') (ds := [10]) #[false, false, false, false, false, false, false, false, false, false, false] (by kernel_rfl) rfl rfl (below_drew (Below.refl _ _)) (fun hHeld => ?_); refine with_tabW unl.tab12 unl.bits12 (fun HT_ HW_ => ?_)
  refine pure_ (i := 0) (N := some 68) (v := ?_) (a' := ?_) #[true, false, false, false, false, false, false, false, false, false, false] rfl rfl (any_of HT_.out (by kernel_rfl)) (fun _ _ _ h => h) (Or.inl ⟨by rfl, ?_⟩) ?_ ?_
  rotate_left
  · intro w'
    go_simp
    with_reducible rfl
  rotate_left
  · simp only [Act.put, List.setIfInBounds_toArray, List.set_cons_zero, List.set_cons_succ, i64_w, i32_w]
    rfl
  refine take_ (i := 1) (N := some 69) (v := ?_) (a' := ?_) #[true, true, false, false, false, false, false, false, false, false, false] rfl rfl (take_ofW HT_.out HW_.out (by kernel_rfl)) (fun _ _ _ h => h) (Or.inl ⟨by rfl, ?_⟩) hHeld ?_ ?_
  rotate_left
  · rintro w' s0
    have ⟨b0, b1⟩ := two_cells (blk_below BK.out s0)
    have hcc := cell_below HC.out s0
    go_simp
    (try with_reducible rfl)
  rotate_left
  · simp only [Act.put, List.setIfInBounds_toArray, List.set_cons_zero, List.set_cons_succ, i64_w, i32_w]
    rfl
  refine pure_ (i := 2) (N := some 70) (v := ?_) (a' := ?_) #[true, true, true, false, false, false, false, false, false, false, false] rfl rfl (any_of HT_.out (by kernel_rfl)) (fun _ _ _ h => h) (Or.inl ⟨by rfl, ?_⟩) ?_ ?_
  rotate_left
  · intro w'
    go_simp
    with_reducible rfl
  rotate_left
  · simp only [Act.put, List.setIfInBounds_toArray, List.set_cons_zero, List.set_cons_succ, i64_w, i32_w]
    rfl
  refine pure_ (i := 3) (N := some 71) (v := ?_) (a' := ?_) #[true, true, true, true, false, false, false, false, false, false, false] rfl rfl (any_of HT_.out (by kernel_rfl)) (fun _ _ _ h => h) (Or.inl ⟨by rfl, ?_⟩) ?_ ?_
  rotate_left
  · intro w'
    go_simp
    with_reducible rfl
  rotate_left
  · simp only [Act.put, List.setIfInBounds_toArray, List.set_cons_zero, List.set_cons_succ, i64_w, i32_w]
    rfl
  refine take_ (i := 4) (N := some 72) (v := ?_) (a' := ?_) #[true, true, true, true, true, false, false, false, false, false, false] rfl rfl (take_ofW HT_.out HW_.out (by kernel_rfl)) (fun _ _ _ h => h) (Or.inl ⟨by rfl, ?_⟩) hHeld ?_ ?_
  rotate_left
  · rintro w' s0
    have ⟨b0, b1⟩ := two_cells (blk_below BK.out s0)
    have hcc := cell_below HC.out s0
    go_simp
    (try with_reducible rfl)
  rotate_left
  · simp only [Act.put, List.setIfInBounds_toArray, List.set_cons_zero, List.set_cons_succ, i64_w, i32_w]
    rfl
  refine pure_ (i := 5) (N := some 73) (v := ?_) (a' := ?_) #[true, true, true, true, true, true, false, false, false, false, false] rfl rfl (any_of HT_.out (by kernel_rfl)) (fun _ _ _ h => h) (Or.inl ⟨by rfl, ?_⟩) ?_ ?_
  rotate_left
  · intro w'
    go_simp
    with_reducible rfl
  rotate_left
  · simp only [Act.put, List.setIfInBounds_toArray, List.set_cons_zero, List.set_cons_succ, i64_w, i32_w]
    rfl
  refine pure_ (i := 6) (N := some 74) (v := ?_) (a' := ?_) #[true, true, true, true, true, true, true, false, false, false, false] rfl rfl (any_of HT_.out (by kernel_rfl)) (fun _ _ _ h => h) (Or.inl ⟨by rfl, ?_⟩) ?_ ?_
  rotate_left
  · intro w'
    go_simp
    with_reducible rfl
  rotate_left
  · simp only [Act.put, List.setIfInBounds_toArray, List.set_cons_zero, List.set_cons_succ, i64_w, i32_w]
    rfl
  refine take_ (i := 7) (N := some 75) (v := ?_) (a' := ?_) #[true, true, true, true, true, true, true, true, false, false, false] rfl rfl (take_ofW HT_.out HW_.out (by kernel_rfl)) (fun _ _ _ h => h) (Or.inl ⟨by rfl, ?_⟩) hHeld ?_ ?_
  rotate_left
  · rintro w' s0
    have ⟨b0, b1⟩ := two_cells (blk_below BK.out s0)
    have hcc := cell_below HC.out s0
    go_simp
    (try with_reducible rfl)
  rotate_left
  · simp only [Act.put, List.setIfInBounds_toArray, List.set_cons_zero, List.set_cons_succ, i64_w, i32_w]
    rfl
  refine pure_ (i := 8) (N := some 76) (v := ?_) (a' := ?_) #[true, true, true, true, true, true, true, true, true, false, false] rfl rfl (any_of HT_.out (by kernel_rfl)) (fun _ _ _ h => h) (Or.inl ⟨by rfl, ?_⟩) ?_ ?_
  rotate_left
  · intro w'
    go_simp
    with_reducible rfl
  rotate_left
  · simp only [Act.put, List.setIfInBounds_toArray, List.set_cons_zero, List.set_cons_succ, i64_w, i32_w]
    rfl
  refine pure_ (i := 9) (N := some 77) (v := ?_) (a' := ?_) #[true, true, true, true, true, true, true, true, true, true, false] rfl rfl (any_of HT_.out (by kernel_rfl)) (fun _ _ _ h => h) (Or.inl ⟨by rfl, ?_⟩) ?_ ?_
  rotate_left
  · intro w'
    go_simp
    with_reducible rfl
  rotate_left
  · simp only [Act.put, List.setIfInBounds_toArray, List.set_cons_zero, List.set_cons_succ, i64_w, i32_w]
    rfl
  have hcc := HC.out
  have hff := HF.out
  refine last_ (i := 10) (N := none) #[true, true, true, true, true, true, true, true, true, true, true] rfl rfl (one_of HT_.out (by kernel_rfl)) (by decide) (fun K hK => ?_)
  refine skip_ (w1 := w8.drew.setCell ⟨gl, j, none⟩ (.bool y)) (by rfl) rfl ?_ ?_
  · go_simp
    done
  refine hK.out _ _ ?_
  clear hK K hHeld hcc hff
  refine done_ (done_of HT_.out (by kernel_rfl)) ?_
  rw [World.drew_is_drewN]
  have O := Kd.R_putn (Kd.R_drewN RL8.out 1) (j : Int) y
  rw [Int.toNat_natCast, hl2] at O
  have RL9 := Aside0.mk O
  have RV9 := Aside0.mk (put_any (i := j) (u := (.bool y)) rfl (Kd.R_drewN RL8.out 1) (by decide) rfl (Kd.R_drewN RV8.out 1))
  have Qa9 := Aside0.mk (put_any (i := j) (u := (.bool y)) rfl (Kd.R_drewN RL8.out 1) (by decide) rfl (Kd.R_drewN Qa8.out 1))
  have Qd9 := Aside0.mk (put_any (i := j) (u := (.bool y)) rfl (Kd.R_drewN RL8.out 1) (by decide) rfl (Kd.R_drewN Qd8.out 1))
  have Qb9 := Aside0.mk (put_any (i := j) (u := (.bool y)) rfl (Kd.R_drewN RL8.out 1) (by decide) rfl (Kd.R_drewN Qb8.out 1))
  have BK9 := Aside0.mk (blk_far (blk_drewN BK8.out 1) (p := ⟨gl, j, none⟩) (fun h => Kd.R_ne RL8.out BK8.out (by decide) (by rw [h]; rfl)) (.bool y))
  have B9 := Aside0.mk (below_set (j := j) (v := (.bool y)) (pw_below_drewN B8.out 1) Ggl.out)
  generalize (w8.drewN 1).setCell ⟨gl, j, none⟩ (.bool y) = w9 at *
  clear HT_ HW_ O HC HF BK B8 BK8 RV8 RL8 Qa8 Qd8 Qb8
  obtain ⟨h0, h1⟩ := two_cells BK9.out
  go_wp2_with fail
  obtain ⟨hcK, hfK⟩ := Kd.R_celln (0 : Int) RV9.out (j : Int) (by omega) (by have := JN.out; omega)
  rw [Int.toNat_natCast, HY9.out] at hcK
  rw [Int.toNat_natCast] at hfK
  have HC := Aside0.mk hcK
  have HF := Aside0.mk hfK
  clear hcK hfK h0 h1
  have BK := Aside0.mk BK9.out
  refine start_ (n := 12) (S := fun w' => Below w9.heap.size w9 w') (ds := [11]) #[false, false, false, false, false, false, false, false, false, false, false, false] (by kernel_rfl) rfl rfl (below_drew (Below.refl _ _)) (fun hHeld => ?_); refine with_tabW unl.tab13 unl.bits13 (fun HT_ HW_ => ?_)
  refine pure_ (i := 0) (N := some 78) (v := ?_) (a' := ?_) #[true, false, false, false, false, false, false, false, false, false, false, false] rfl rfl (any_of HT_.out (by kernel_rfl)) (fun _ _ _ h => h) (Or.inl ⟨by rfl, ?_⟩) ?_ ?_
  rotate_left
  · intro w'
    go_simp
    with_reducible rfl
  rotate_left
  · simp only [Act.put, List.setIfInBounds_toArray, List.set_cons_zero, List.set_cons_succ, i64_w, i32_w]
    rfl
  refine take_ (i := 1) (N := some 79) (v := ?_) (a' := ?_) #[true, true, false, false, false, false, false, false, false, false, false, false] rfl rfl (take_ofW HT_.out HW_.out (by kernel_rfl)) (fun _ _ _ h => h) (Or.inl ⟨by rfl, ?_⟩) hHeld ?_ ?_
  rotate_left
  · rintro w' s0
    have ⟨b0, b1⟩ := two_cells (blk_below BK.out s0)
    have hcc := cell_below HC.out s0
    go_simp
    (try with_reducible rfl)
  rotate_left
  · simp only [Act.put, List.setIfInBounds_toArray, List.set_cons_zero, List.set_cons_succ, i64_w, i32_w]
    rfl
  refine pure_ (i := 2) (N := some 80) (v := ?_) (a' := ?_) #[true, true, true, false, false, false, false, false, false, false, false, false] rfl rfl (any_of HT_.out (by kernel_rfl)) (fun _ _ _ h => h) (Or.inl ⟨by rfl, ?_⟩) ?_ ?_
  rotate_left
  · intro w'
    go_simp
    with_reducible rfl
  rotate_left
  · simp only [Act.put, List.setIfInBounds_toArray, List.set_cons_zero, List.set_cons_succ, i64_w, i32_w]
    rfl
  refine pure_ (i := 3) (N := some 81) (v := ?_) (a' := ?_) #[true, true, true, true, false, false, false, false, false, false, false, false] rfl rfl (any_of HT_.out (by kernel_rfl)) (fun _ _ _ h => h) (Or.inl ⟨by rfl, ?_⟩) ?_ ?_
  rotate_left
  · intro w'
    go_simp
    with_reducible rfl
  rotate_left
  · simp only [Act.put, List.setIfInBounds_toArray, List.set_cons_zero, List.set_cons_succ, i64_w, i32_w]
    rfl
  refine take_ (i := 4) (N := some 82) (v := ?_) (a' := ?_) #[true, true, true, true, true, false, false, false, false, false, false, false] rfl rfl (take_ofW HT_.out HW_.out (by kernel_rfl)) (fun _ _ _ h => h) (Or.inl ⟨by rfl, ?_⟩) hHeld ?_ ?_
  rotate_left
  · rintro w' s0
    have ⟨b0, b1⟩ := two_cells (blk_below BK.out s0)
    have hcc := cell_below HC.out s0
    go_simp
    (try with_reducible rfl)
  rotate_left
  · simp only [Act.put, List.setIfInBounds_toArray, List.set_cons_zero, List.set_cons_succ, i64_w, i32_w]
    rfl
  refine pure_ (i := 5) (N := some 83) (v := ?_) (a' := ?_) #[true, true, true, true, true, true, false, false, false, false, false, false] rfl rfl (any_of HT_.out (by kernel_rfl)) (fun _ _ _ h => h) (Or.inl ⟨by rfl, ?_⟩) ?_ ?_
  rotate_left
  · intro w'
    go_simp
    with_reducible rfl
  rotate_left
  · simp only [Act.put, List.setIfInBounds_toArray, List.set_cons_zero, List.set_cons_succ, i64_w, i32_w]
    rfl
  refine pure_ (i := 6) (N := some 84) (v := ?_) (a' := ?_) #[true, true, true, true, true, true, true, false, false, false, false, false] rfl rfl (any_of HT_.out (by kernel_rfl)) (fun _ _ _ h => h) (Or.inl ⟨by rfl, ?_⟩) ?_ ?_
  rotate_left
  · intro w'
    go_simp
    with_reducible rfl
  rotate_left
  · simp only [Act.put, List.setIfInBounds_toArray, List.set_cons_zero, List.set_cons_succ, i64_w, i32_w]
    rfl
  refine take_ (i := 7) (N := some 85) (v := ?_) (a' := ?_) #[true, true, true, true, true, true, true, true, false, false, false, false] rfl rfl (take_ofW HT_.out HW_.out (by kernel_rfl)) (fun _ _ _ h => h) (Or.inl ⟨by rfl, ?_⟩) hHeld ?_ ?_
  rotate_left
  · rintro w' s0
    have ⟨b0, b1⟩ := two_cells (blk_below BK.out s0)
    have hcc := cell_below HC.out s0
    go_simp
    (try with_reducible rfl)
  rotate_left
  · simp only [Act.put, List.setIfInBounds_toArray, List.set_cons_zero, List.set_cons_succ, i64_w, i32_w]
    rfl
  refine pure_ (i := 8) (N := some 86) (v := ?_) (a' := ?_) #[true, true, true, true, true, true, true, true, true, false, false, false] rfl rfl (any_of HT_.out (by kernel_rfl)) (fun _ _ _ h => h) (Or.inl ⟨by rfl, ?_⟩) ?_ ?_
  rotate_left
  · intro w'
    go_simp
    with_reducible rfl
  rotate_left
  · simp only [Act.put, List.setIfInBounds_toArray, List.set_cons_zero, List.set_cons_succ, i64_w, i32_w]
    rfl
  refine pure_ (i := 9) (N := some 87) (v := ?_) (a' := ?_) #[true, true, true, true, true, true, true, true, true, true, false, false] rfl rfl (any_of HT_.out (by kernel_rfl)) (fun _ _ _ h => h) (Or.inl ⟨by rfl, ?_⟩) ?_ ?_
  rotate_left
  · intro w'
    go_simp
    with_reducible rfl
  rotate_left
  · simp only [Act.put, List.setIfInBounds_toArray, List.set_cons_zero, List.set_cons_succ, i64_w, i32_w]
    rfl
  refine pure_ (i := 10) (N := some 88) (v := ?_) (a' := ?_) #[true, true, true, true, true, true, true, true, true, true, true, false] rfl rfl (any_of HT_.out (by kernel_rfl)) (fun _ _ _ h => h) (Or.inl ⟨by rfl, ?_⟩) ?_ ?_
  rotate_left
  · intro w'
    go_simp
    with_reducible rfl
  rotate_left
  · simp only [Act.put, List.setIfInBounds_toArray, List.set_cons_zero, List.set_cons_succ, i64_w, i32_w]
    rfl
  have hcc := HC.out
  have hff := HF.out
  refine last_ (i := 11) (N := none) #[true, true, true, true, true, true, true, true, true, true, true, true] rfl rfl (one_of HT_.out (by kernel_rfl)) (by decide) (fun K hK => ?_)
  refine skip_ (w1 := w9.drew.setCell ⟨gv, j, none⟩ (.int .u64 z)) (by rfl) rfl ?_ ?_
  · go_simp
    done
  refine hK.out _ _ ?_
  clear hK K hHeld hcc hff
  refine done_ (done_of HT_.out (by kernel_rfl)) ?_
  rw [World.drew_is_drewN]
  have O := Kd.R_putn (Kd.R_drewN RV9.out 1) (j : Int) z
  rw [Int.toNat_natCast, hv1] at O
  have RV10 := Aside0.mk O
  have RL10 := Aside0.mk (put_any (i := j) (u := (.int .u64 z)) rfl (Kd.R_drewN RV9.out 1) (by decide) rfl (Kd.R_drewN RL9.out 1))
  have Qa10 := Aside0.mk (put_any (i := j) (u := (.int .u64 z)) rfl (Kd.R_drewN RV9.out 1) (by decide) rfl (Kd.R_drewN Qa9.out 1))
  have Qd10 := Aside0.mk (put_any (i := j) (u := (.int .u64 z)) rfl (Kd.R_drewN RV9.out 1) (by decide) rfl (Kd.R_drewN Qd9.out 1))
  have Qb10 := Aside0.mk (put_any (i := j) (u := (.int .u64 z)) rfl (Kd.R_drewN RV9.out 1) (by decide) rfl (Kd.R_drewN Qb9.out 1))
  have BK10 := Aside0.mk (blk_far (blk_drewN BK9.out 1) (p := ⟨gv, j, none⟩) (fun h => Kd.R_ne RV9.out BK9.out (by decide) (by rw [h]; rfl)) (.int .u64 z))
  have B10 := Aside0.mk (below_set (j := j) (v := (.int .u64 z)) (pw_below_drewN B9.out 1) Ggv.out)
  generalize (w9.drewN 1).setCell ⟨gv, j, none⟩ (.int .u64 z) = w10 at *
  clear HT_ HW_ O HC HF BK B9 BK9 RV9 RL9 Qa9 Qd9 Qb9
  obtain ⟨h0, h1⟩ := two_cells BK10.out
  go_wp2_with fail
  refine (sencode_u RV10.out RL10.out HN.out HM.out 3 (by decide)).mono ?_
  rintro e w11 ⟨Ex, fx, rfl, hoE, hbE⟩
  have B11 := Aside0.mk (below_step B10.out hbE)
  have BK11 := Aside0.mk (blk_below BK10.out hbE)
  have RV11 := Aside0.mk (Kd.R_below RV10.out hbE)
  have RL11 := Aside0.mk (Kd.R_below RL10.out hbE)
  have Qa11 := Aside0.mk (Kd.R_below Qa10.out hbE)
  have Qd11 := Aside0.mk (Kd.R_below Qd10.out hbE)
  have Qb11 := Aside0.mk (Kd.R_below Qb10.out hbE)
  have Qx11 := Aside0.mk hoE
  clear hoE hbE B10 BK10 RV10 RL10 Qa10 Qd10 Qb10 h0 h1
  obtain ⟨h0, h1⟩ := two_cells BK11.out
  have sa := Kd.C_string (P := Try.prog) (A := Ea) (c := fa) Try.underlying28 Try.underlying5 Try.underlying9 (R_C Qa11.out).2.2
  have sd := Kd.C_string (P := Try.prog) (A := Ed) (c := fd) Try.underlying28 Try.underlying5 Try.underlying9 (R_C Qd11.out).2.2
  have sb := Kd.C_string (P := Try.prog) (A := Eb) (c := fb) Try.underlying28 Try.underlying5 Try.underlying9 (R_C Qb11.out).2.2
  have sx := Kd.C_string (P := Try.prog) (A := Ex) (c := fx) Try.underlying28 Try.underlying5 Try.underlying9 (R_C Qx11.out).2.2
  rw [← (R_C Qa11.out).1] at sa
  rw [← (R_C Qd11.out).1] at sd
  rw [← (R_C Qb11.out).1] at sb
  rw [← (R_C Qx11.out).1] at sx
  have t1 := I1.out
  have t2 := I2.out
  have mm : ((M : Int) == (M : Int)) = true := beq_self_eq_true _
  clear Qa11 Qd11 Qb11 Qx11
  by_cases hb0 : by_ = 0
  · have e3 : (by_ == 0) = true := beq_iff_eq.mpr hb0
    have e4 := I3.out.2 hb0
    rw [← e4] at sx
    clear hb0 e4 I1 I2 I3 I4
    generalize senc 3 vn ln = ta at *
    generalize senc 4 vn ln = td at *
    generalize senc 3 vn ln1 = tb at *
    go_wp2
    go_ret
    exact ⟨rfl, B11.out⟩
  · have e3 : (by_ == 0) = false := beq_eq_false_iff_ne.mpr hb0
    have t3 := I4.out (fun h => hb0 (I3.out.1 h))
    clear hb0 I1 I2 I3 I4
    generalize senc 3 vn ln = ta at *
    generalize senc 4 vn ln = td at *
    generalize senc 3 vn ln1 = tb at *
    generalize senc 3 vn1 ln = tx at *
    go_wp2
    go_ret
    exact ⟨rfl, B11.out⟩
end Go.Proofs.Ytaohmpblmlkioaa.PAll
